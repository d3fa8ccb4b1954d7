/- Part UZ1: lemmas and walks that the claim rests on. No claim is made here. -/
import Derived.WalkSpells
import Derived.WalkLawsBesides
import Derived.BigQuiet
import Derived.Deep.AppendLies
import Derived.Deep.RegionHeld3
import Derived.Deep.DrawnRows
import Derived.Shelf.Strings.OnBuilder
import Derived.Shelf.Small.Bits
import Derived.Shelf.Small.Wraps
import Derived.Shelf.Strconv.Itoa3
import Derived.Shelf.Strings.Shaped
import Derived.Shelf.Strings.Repeat
import Derived.Shelf.Strings.BuilderCap
import Derived.Lib.AppendIntMem
import Derived.Shelf.Strings.SlTrimAscii
import Derived.Shelf.Strconv.AtoiAll
import Derived.Shelf.Strconv.ParseUintEmpty
import Derived.Shelf.Unicode.Decode
import Derived.Shelf.Unicode.DecodeLast
import Derived.Test.YtfilnhompchciaaGreatDoorCards
import Derived.Test.YtfilnhompchciaaGreatDoorTie
import Derived.ProofKit
import Derived.OpenShut
import Derived.Deep.DeepHandedRow
import Derived.Deep.Slices
import Derived.Lib.TrailingZeros
set_option linter.unusedVariables false
set_option maxHeartbeats 8000000
set_option maxRecDepth 100000
set_option linter.defProp false
namespace Bn
theorem Z9 {α:Sort _}(a:α):∃x,a=x:=⟨a,rfl⟩
end Bn
namespace Bn
section
open Go Go.RowKit
def it:=@beq_eq_false_iff_ne
def kc:=@List.length_append
def kl:=@if_neg
def kz:=@Below.refl
def kZ:=@if_pos
def lq:=@List.eq_nil_of_length_eq_zero
def mo:=@congrArg
def ms:=@List.take_of_length_le
def oK:=@eq_false
def oP:=@List.length_cons
def pk:=@List.mem_of_getElem?
def pn:=@Array.getD_eq_getD_getElem?
def so:=@Below.heap_setCell
def sr:=@Array.getElem?_eq_getElem
def sx:=@List.getElem?_eq_getElem
def ts:=@List.getElem?_eq_some_iff
def ty:=@IntWalk.i64_in
def uv:=@Bool.and_eq_true
def vq:=@List.length_take
def vu:=@List.length_drop
def xm:=@beq_iff_eq
def xr:=@eq_true
def xv:=@List.length_set
def xD:=@bodyPost_ret
def xE:=@List.getElem?_append_right
def x9:=@World.news_of_block
def ys:=@List.append_assoc
def yB:=@decide_eq_false
def zd:=@Go.wp_at_zero
def zn:=@Go.wp_at_succ
def zD:=@List.eq_of_mem_replicate
def zO:=@decide_eq_true
def zP:=@Array.getElem?_eq_none
def zX:=@List.all_eq_true
def zZ:=@Calls.quiet_of_same
def Ao:=@heap_alloc_new
def FV:=@List.take_add_one
def FW:=@List.length_pos_iff
def FX:=@Int.sign_eq_one_of_pos
def FY:=@List.drop_eq_nil_of_le
def FZ:=@decide_eq_true_eq
def F4:=@World.ownsRow_lit
def F5:=@Option.some.inj
def F6:=@bne_iff_ne
def F7:=@Int.sign_eq_neg_one_of_neg
def F8:=@List.length_singleton
def Ga:=@World.block_lt_of_cell?
def Gb:=@info_parts
def Gc:=@wpList_append_lies
def Gd:=@List.all_cons
def Gf:=@List.nil_append
def Gg:=@IntWalk.u64_in
def Gh:=@List.mem_cons
def Gi:=@lt_of_block
def Gj:=@List.takeWhile_cons
def Gk:=@List.getElem?_take
def Gl:=@List.drop_zero
def Gm:=@List.length_nil
def Gn:=@Ne.symm
def Gp:=@List.drop_eq_getElem_cons
def Gq:=@List.getElem?_append_left
def Gr:=@ByteArray.toList_eq
def Gs:=@Array.getElem?_replicate
def Gu:=@List.mem_append
def Gv:=@List.all_append
def Gw:=@List.append_nil
def Gx:=@Bool.false_eq_true
def Gy:=@Int.sign_eq_zero_iff_zero
def Gz:=@List.getElem?_eq_none
def GA:=@Int.lt_trichotomy
def GB:=@Lib.itoa_nonneg
def GC:=@UInt8.toNat.inj
def GD:=@List.replicate_succ
def GF:=@Int.sign_eq_neg_one_iff_neg
def GG:=@List.Mem.head
def GH:=@List.all_reverse
def GI:=@True.intro
def GJ:=@List.findIdx?_eq_some_iff_getElem
def GK:=@World.cell?_setCell_other
def GL:=@mem_ready
def GM:=@List.mem_of_mem_take
def GN:=@Rat.divInt_eq_div
def GP:=@List.flatten_cons
def GQ:=@Lib.decDigits_length
def GR:=@Below.heap_alloc
def GU:=@Int.sign_eq_one_iff_pos
def GV:=@IntKind.wrap_i64
def GW:=@List.getLast?_cons_of_ne_nil
def GX:=@List.take_append_drop
def GY:=@if_true
def GZ:=@List.getElem?_map
def G0:=@List.flatMap_cons
def G7:=@List.getD_eq_getElem?_getD
def G8:=@List.drop_drop
def G9:=@BitVec.ofInt_natCast
def Ha:=@List.any_eq_true
def Hb:=@List.getElem_of_mem
def Hc:=@wp_region_any
def Hd:=@List.foldl_cons
def He:=@BitVec.toNat_ofNat
def Hf:=@Int.toNat_natCast
def Hg:=@Option.map_eq_some_iff
def Hh:=@Array.getElem?_modify
def Hi:=@World.frozen?_setCell
def Hj:=@List.getElem_mem
def Hk:=@IntKind.wrap_u64
def Hl:=@Option.getD_some
def Hm:=@List.cons_append
def Hn:=@Lib.cell_of_heap
def Ho:=@Bool.true_and
def Hp:=@List.map_cons
def Hq:=@Prod.mk.injEq
def Hr:=@List.Mem.tail
def Hs:=@Rat.num_eq_zero
def Ht:=@Int.mul_ne_zero
def Hu:=@List.any_append
def Hv:=@List.take_succ_cons
def Hw:=@if_false
def Hx:=@Int.natAbs_mul
def Hy:=@Array.toList_setIfInBounds
def Hz:=@Int.natAbs_natCast
def H7:=@List.dropWhile_cons_of_pos
def H9:=@List.dropWhile_cons_of_neg
def Ia:=@List.exists_cons_of_ne_nil
def Ib:=@Int.ofNat_dvd_left
def Ic:=@List.isPrefixOf_iff_prefix
def Ie:=@Option.isSome_none
def Ig:=@Option.isSome_some
def Ii:=@Bool.not_eq_true'
def Ij:=@decide_eq_decide
def Ik:=@wpOp_step
def Il:=@Option.getD_none
def Im:=@Bool.or_true
def Io:=@Bool.or_eq_true
def Ip:=@Oper.upon_value
def Iq:=@List.length_map
def Ir:=@Int.neg_mul
def It:=@Int.mul_neg
def Iu:=@Or.inl
end
end Bn
namespace Go.Proofs.YtfilnhompchciaaGreatDoor
open Go Go.RowKit
theorem zr1{P:Program}{fn:Func}{R:Ending->World->Prop}{a:Act}{w:World}(v:Value)(g:R (.returned v) w)(h:(results fn a.tmps).run P w=.ok v w:=by simp[results,Tryz.results111,Tryz.results119,Tryz.results120,Tryz.results121,Tryz.results15,Tryz.results150,Tryz.results154,Tryz.results157,Tryz.results16,Tryz.results173,Tryz.results175,Tryz.results181,Tryz.results184,Tryz.results188,Tryz.results191,Tryz.results200,Tryz.results201,Tryz.results202,Tryz.results203,Tryz.results212,Tryz.results213,Tryz.results217,Tryz.results228,Tryz.results234,Tryz.results235,Tryz.results237,Tryz.results36,Tryz.results43,Tryz.results44,Tryz.results45,Tryz.results46,Tryz.results48,Tryz.results57,Tryz.results69,Tryz.results70,Tryz.results72,Tryz.results73,Tryz.results80,Tryz.results81,Tryz.results84,Tryz.results85,Tryz.results86,go_sem, *]<;>trivial)(d:a.defers=[]:=by rfl):bodyPost P fn R .ret a w:=bodyPost_ret h d g
end Go.Proofs.YtfilnhompchciaaGreatDoor
namespace Bn
theorem Qh{p : Prop}(h : p): Go.RowKit.Hid p := h
theorem Qr{a : Nat}: a <= a := Nat.le_refl a
end Bn
namespace Go
theorem Qh{p : Prop}(h : p): Go.RowKit.Hid p := h
theorem Qr{a : Nat}: a <= a := Nat.le_refl a
end Go
/- Plain numbers in base 2^32: the value of a list of words, the list of words of a number. No program in sight. -/
namespace Go.RowKit
open Go
theorem Below.sc{B:Nat}{a w:World}(h:Below B a w)(g i:Nat)(b:B<=g)(u:Value):Below B a (w.setCell ⟨g,i,none⟩ u):=h.setCell (p:=⟨g,i,none⟩) b u
theorem Below.q1{w a:World}{o:Obj}(h:Below (w.alloc o).heap.size (w.alloc o) a):Below w.heap.size w a:=((Below.refl _ _).alloc Qr _).trans (h.mono (by simp))
theorem Below.q2{w a:World}{o b:Obj}(h:Below ((w.alloc o).alloc b).heap.size ((w.alloc o).alloc b) a):Below w.heap.size w a:=(((Below.refl _ _).alloc Qr _).alloc (by simp) _).trans (h.mono (by simp<;>omega))
theorem Below.q3{w a:World}{o b p:Obj}(h:Below (((w.alloc o).alloc b).alloc p).heap.size (((w.alloc o).alloc b).alloc p) a):Below w.heap.size w a:=((((Below.refl _ _).alloc Qr _).alloc (by simp) _).alloc (by simp<;>omega) _).trans (h.mono (by simp<;>omega))
theorem Below.l1{w a:World}{o:Obj}(h:Below (w.alloc o).heap.size (w.alloc o) a):w.heap.size+1<=a.heap.size:=by have:=h.size;simp at this;omega
theorem Below.l2{w a:World}{o b:Obj}(h:Below ((w.alloc o).alloc b).heap.size ((w.alloc o).alloc b) a):w.heap.size+2<=a.heap.size:=by have:=h.size;simp at this;omega
theorem Below.l3{w a:World}{o b p:Obj}(h:Below (((w.alloc o).alloc b).alloc p).heap.size (((w.alloc o).alloc b).alloc p) a):w.heap.size+3<=a.heap.size:=by have:=h.size;simp at this;omega
theorem fmc{α:Type}{p:α->Prop}{a:α}{l:List α}(h:p a/\∀x∈l,p x):∀x∈a::l,p x:=List.forall_mem_cons.2 h
end Go.RowKit
namespace Bn
def Sm(f:Nat->Nat):Nat->Nat
  |0=>0
  |n+1=>Sm f n+f n*4294967296^n
def wd(l:List Nat)(i:Nat):Nat:=l.getD i 0
def val:List Nat->Nat
  |[]=>0
  |x::l=>x+4294967296*val l
def au(n:Nat):List Nat:=if h:n=0 then [] else n%4294967296::au (n/4294967296)
termination_by n
decreasing_by omega
def Wds(l:List Nat):Prop:=∀x∈l,x<4294967296
def aX(l:List Nat):Prop:=Wds l/\l.getLast?≠some 0

theorem iK(n:Nat):0<4294967296^n:=Nat.pow_pos (by omega)

theorem ax:au 0=[]:=by unfold au;simp
theorem gP{n:Nat}(h:n≠0):au n=n%4294967296::au (n/4294967296):=by rw[au];simp[h]

theorem ai(n:Nat):val (au n)=n:=by
 induction n using Nat.strongRecOn with
 |ind n ih =>
  by_cases h:n=0
  ·subst h;simp[ax,val]
  rw[gP h,val,ih _ (by omega)];omega

theorem aV{n:Nat}:au n=[] ↔ n=0:=by
 constructor
 ·intro h;have:=ai n;rw[h]at this;simpa[val]using this.symm
 rintro rfl;exact ax

theorem iL(n:Nat):Wds (au n):=by
 induction n using Nat.strongRecOn with
 |ind n ih =>
  by_cases h:n=0
  ·subst h;simp[ax,Wds]
  rw[gP h];intro x a;rcases Gh.1 a with rfl|a
  ·omega
  exact ih _ (by omega) x a

theorem uV(n:Nat):(au n).getLast?≠some 0:=by
 induction n using Nat.strongRecOn with
 |ind n ih =>
  by_cases h:n=0
  ·subst h;simp[ax]
  rw[gP h];by_cases h2:n/4294967296=0
  ·rw[h2,ax];simp;omega
  have:=ih _ (show n/4294967296<n by omega);have a:au (n/4294967296)≠[]:=fun e=>h2 (aV.1 e)
  rw[GW a];exact this

theorem er(n:Nat):aX (au n):=⟨iL n,uV n⟩

theorem eY:∀ {l:List Nat},aX l->au (val l)=l:=by
 intro l
 induction l with
 |nil=>intro _;simp[val,ax]
 |cons x l ih =>
  intro⟨hw,a⟩;have j:x<4294967296:=hw x (by simp);have b:Wds l:=fun y h=>hw y (by simp[h])
  by_cases he:l=[]
  ·subst he
   simp at a;simp only[val];rw[gP (by omega)];have c:(x+4294967296*0)%4294967296=x:=by omega
   have f:(x+4294967296*0)/4294967296=0:=by omega
   rw[c,f,ax]
  have i:aX l:=⟨b,by rw[GW he]at a;exact a⟩;have d:=ih i
  have g:val l≠0:=by
   intro e;rw[e,ax]at d;exact he d.symm
  simp only[val];rw[gP (by omega)];have c:(x+4294967296*val l)%4294967296=x:=by omega
  have f:(x+4294967296*val l)/4294967296=val l:=by omega
  rw[c,f,d]

theorem dl{l:List Nat}(h:Wds l):val l<4294967296^l.length:=by
 induction l with
 |nil=>simp[val]
 |cons x l ih =>
  have b:x<4294967296:=h x (by simp);have:=ih (fun y a=>h y (by simp[a]));simp only[val,oP,Nat.pow_succ];omega

theorem sB{l:List Nat}(h:aX l)(a:l≠[]):4294967296^(l.length-1)<=val l:=by
 induction l with
 |nil=>exact absurd rfl a
 |cons x l ih =>
  by_cases he:l=[]
  ·subst he
   have:=h.2;simp at this;simp[val];omega
  have c:aX l:=⟨fun y b=>h.1 y (by simp[b]),by have:=h.2;rw[GW he]at this;exact this⟩;have f:=ih c he;have d:0<l.length:=FW.2 he;have e:(x::l).length-1=(l.length-1)+1:=by simp;omega
  rw[e,Nat.pow_succ];simp only[val];omega

theorem ay{n k:Nat}(h:n<4294967296^k):(au n).length<=k:=by
 by_cases h0:n=0
 ·subst h0;simp[ax]
 have a:au n≠[]:=fun e=>h0 (aV.1 e)
 have b:=sB (er n) a;rw[ai]at b;have c:4294967296^((au n).length-1)<4294967296^k:=Nat.lt_of_le_of_lt b h;have d:(au n).length-1<k:=(Nat.pow_lt_pow_iff_right (by omega)).1 c;omega

/-! ### prefix sums -/
theorem cf{l:List Nat}(h:Wds l)(i:Nat):wd l i<4294967296:=by
 unfold wd;by_cases hi:i<l.length
 ·simp[List.getD,hi];exact h _ (Hj hi)
 simp[List.getD,Gz (Nat.le_of_not_lt hi)]
theorem fV{l:List Nat}{i:Nat}(h:l.length<=i):wd l i=0:=by
 simp[wd,List.getD,Gz h]
theorem mc{l:List Nat}{i:Nat}(h:i<l.length):wd l i=l[i]:=by
 simp[wd,List.getD,h]

theorem eZ{f g:Nat->Nat}{n:Nat}(h:∀i,i<n->f i=g i):Sm f n=Sm g n:=by
 induction n with
 |zero=>rfl
 |succ n ih=>simp only[Sm];rw[ih (fun i a=>h i (by omega)),h n (by omega)]

theorem fW{f:Nat->Nat}{n:Nat}(h:∀i,i<n->f i<4294967296):Sm f n<4294967296^n:=by
 induction n with
 |zero=>simp[Sm]
 |succ n ih =>
  have a:=ih (fun i c=>h i (by omega));have b:=h n (by omega);simp only[Sm,Nat.pow_succ];have:f n*4294967296^n<=4294967295*4294967296^n:=Nat.mul_le_mul_right _ (by omega);omega

theorem qr(f:Nat->Nat)(n:Nat):Sm f (n+1)=f 0+4294967296*Sm (fun i=>f (i+1)) n:=by
 induction n with
 |zero=>simp[Sm]
 |succ n ih =>
  rw[Sm,ih];simp only[Sm,Nat.pow_succ];rw[Nat.mul_add]
  have:f (n+1)*(4294967296^n*4294967296)=4294967296*(f (n+1)*4294967296^n):=by
   rw[Nat.mul_comm (4294967296^n),<-Nat.mul_assoc,Nat.mul_comm (f (n+1)),Nat.mul_assoc]
  omega

theorem gR(l:List Nat):val l=Sm (wd l) l.length:=by
 induction l with
 |nil=>rfl
 |cons x l ih =>
  rw[oP,qr,val,ih];rfl

theorem bf(l:List Nat){n:Nat}(h:l.length<=n):Sm (wd l) n=val l:=by
 induction n with
 |zero =>
  have:l=[]:=lq (by omega);subst this;rfl
 |succ n ih =>
  by_cases hn:l.length<=n
  ·rw[Sm,ih hn,fV hn];simp
  have:l.length=n+1:=by omega
  rw[gR,this]

theorem cq(l:List Nat)(i x j:Nat):wd (l.set i x) j=if i=j/\j<l.length then x else wd l j:=by
 simp only[wd,List.getD,List.getElem?_set];by_cases h:i=j
 ·subst h
  by_cases hi:i<l.length
  ·simp[hi]
  simp[hi]
 simp[h]

theorem wds_set{l:List Nat}(h:Wds l)(i:Nat){x:Nat}(c:x<4294967296):Wds (l.set i x):=by
 intro y b;rcases List.mem_or_eq_of_mem_set b with a|a
 ·exact h y a
 omega

theorem cI(l:List Nat)(i x:Nat)(h:i<l.length):Sm (wd (l.set i x)) (i+1)=Sm (wd l) i+x*4294967296^i:=by
 rw[Sm,cq,kZ ⟨rfl,h⟩];congr 1;exact eZ fun j a=>by rw[cq,kl (by omega)]
theorem eu(l:List Nat)(i x n:Nat)(h:i<l.length)(a:i<n):Sm (wd (l.set i x)) n+wd l i*4294967296^i=Sm (wd l) n+x*4294967296^i:=by
 induction n with
 |zero=>omega
 |succ n ih =>
  by_cases he:i=n
  ·subst he
   rw[cI l i x h,Sm];omega
  have:=ih (by omega);rw[Sm,Sm,cq,kl (by omega)];omega

/-! ### trimming -/
theorem ct{l:List Nat}(h:Wds l){n:Nat}(f:n<=l.length)(p:∀i,n<=i->wd l i=0)(b:n=0\/wd l (n-1)≠0):au (val l)=l.take n:=by
  have hw:Wds (l.take n):=fun x d=>h x (GM d)
  have a:(l.take n).length=n:=by simp;omega
  have g:val (l.take n)=val l:=by
    rw[gR,a,<-bf l Qr]
    have j:Sm (wd (l.take n)) n=Sm (wd l) n:=eZ fun i c=>by
      simp[wd,List.getD,c]
    rw[j]
    have:∀m,n<=m->Sm (wd l) n=Sm (wd l) m:=by
      intro m q
      induction m with
      | zero => have:n=0:=by omega
                subst this;rfl
      | succ m ih =>
        by_cases he:n=m+1
        · subst he;rfl
        rw[Sm,p m (by omega),ih (by omega)];simp
    exact this _ f
  have k:aX (l.take n):=by
    refine⟨hw,?_⟩;rcases b with rfl|b
    · simp
    rw[List.getLast?_eq_getElem?,a];by_cases h0:n=0
    · subst h0;simp
    have:n-1<(l.take n).length:=by omega
    rw[sx this];intro e;apply b;rw[mc (by omega)];have o:(l.take n)[n-1]=l[n-1]'(by omega):=by simp
    injection e with e;rw[<-o];exact e
  rw[<-g,eY k]

theorem uW:aX []:=⟨by simp[Wds],by simp⟩
theorem aX.last{l:List Nat}(h:aX l)(a:l≠[]):wd l (l.length-1)≠0:=by
 have b:0<l.length:=FW.2 a;have:=h.2;rw[List.getLast?_eq_getElem?,sx (by omega)]at this;rw[mc (by omega)];intro e;apply this;rw[e]
theorem nV{l:List Nat}(h:Wds l):aX l ↔ (l.length=0\/wd l (l.length-1)≠0):=by
 constructor
 ·intro b
  by_cases he:l=[]
  ·left;simp[he]
  right;exact b.last he
 intro a;have:=ct h (Nat.le_refl l.length) (fun i c=>fV c) a;rw[List.take_length]at this;rw[<-this];exact er _
end Bn
namespace Bn
/-! ### comparing lists -/
theorem qw(f:Nat->Nat){m n:Nat}(h:m<=n):Sm f m<=Sm f n:=by
  induction n with
  | zero => have:m=0:=by omega
            subst this;exact Qr
  | succ n ih =>
    by_cases e:m=n+1
    · subst e;exact Qr
    rw[Sm];have:=ih (by omega);omega
theorem xq{f g:Nat->Nat}{i:Nat}(b:∀j,f j<4294967296)(d:f i<g i):∀n,i<n->(∀j,i<j->f j=g j)->Sm f n<Sm g n:=by
 intro n
 induction n with
 |zero=>intro h;omega
 |succ n ih =>
  intro h a;by_cases e:i=n
  ·subst e
   rw[Sm,Sm];have k:=fW (f:=f) (n:=i) (fun j _=>b j);have c:(f i+1)*4294967296^i<=g i*4294967296^i:=Nat.mul_le_mul_right _ d;rw[Nat.add_mul]at c;omega
  rw[Sm,Sm,a n (by omega)];have:=ih (by omega) a;omega
theorem ji{a b:List Nat}(d:Wds a){i:Nat}(k:wd a i<wd b i)(c:∀j,i<j->wd a j=wd b j):val a<val b:=by
 have h:=xq (f:=wd a) (g:=wd b) (fun j=>cf d j) k (max (max a.length b.length) (i+1)) (by omega) c;rwa[bf a (by omega),bf b (by omega)]at h
theorem nW{a b:List Nat}(h:∀j,wd a j=wd b j):val a=val b:=by
 rw[<-bf a (Nat.le_max_left a.length b.length),<-bf b (Nat.le_max_right a.length b.length)];exact eZ fun j _=>h j
theorem eN{a b:List Nat}(c:Wds a)(hb:aX b)(h:a.length<b.length):val a<val b:=by
 have g:=dl c;have d:=sB hb (by rintro rfl;simp at h);have f:4294967296^a.length<=4294967296^(b.length-1):=Nat.pow_le_pow_right (by omega) (by omega);omega
def bS(a b:Nat):Int:=if a<b then -1 else if a=b then 0 else 1
end Bn

/- Roots and greatest common divisors, in plain numbers. -/
namespace Bn
/-! ### greatest common divisors -/
theorem nA{a b:Nat}(f:a%2=0)(hb:b%2=1):Nat.gcd (a/2) b=Nat.gcd a b:=by
 have c:a=2*(a/2):=by omega
 have d:Nat.Coprime 2 b:=by
  unfold Nat.Coprime;rw[Nat.gcd_rec,hb];simp
 conv=>rhs;rw[c]
 exact(Nat.Coprime.gcd_mul_left_cancel (a/2) d).symm
theorem lP{a b:Nat}(h:b<=a):Nat.gcd (a-b) b=Nat.gcd a b:=by
 conv=>rhs;rw[<-Nat.sub_add_cancel h]
 rw[Nat.gcd_add_self_left]
end Bn

namespace Bn
structure WD where
  neg:Bool
  mag:List Nat
def WD.ok(a:WD):Bool:=if a.mag=[] then !a.neg else wd a.mag (a.mag.length-1) != 0
def WD.z(a:WD):Int:=if a.ok then (if a.neg then -(val a.mag:Int) else (val a.mag:Int)) else 0
def wh(z:Int):WD:=⟨decide (z<0),au z.natAbs⟩

def WD.m(a:WD):List Nat:=if a.ok then a.mag else []
def WD.s(a:WD):Bool:=a.ok&&a.neg
def sgn(b:Bool)(n:Nat):Int:=if b then -(n:Int) else n
theorem WD.z_eq(a:WD):a.z=sgn a.s (val a.m):=by
 unfold WD.z WD.s WD.m sgn;cases h:a.ok<;>simp[val]
structure RD where
  neg:Bool
  num:List Nat
  den:List Nat
def last0(l:List Nat):Bool:=wd l (l.length-1) != 0
def RD.ok(a:RD):Bool :=
  if a.num=[]/\a.den=[] then !a.neg else
    (a.num != []&&a.den != []&&last0 a.num&&last0 a.den&&Nat.gcd (val a.num) (val a.den)==1)
def RD.n(a:RD):Int:=if a.ok&&a.num != [] then (if a.neg then -(val a.num:Int) else (val a.num:Int)) else 0
def RD.d(a:RD):Nat:=if a.ok&&a.num != [] then val a.den else 1
def RD.q(a:RD):Rat:=Rat.divInt a.n a.d
def rd(q:Rat):RD:=⟨decide (q.num<0),au q.num.natAbs,if q.num=0 then [] else au q.den⟩

theorem dN{l:List Nat}(h:aX l):val l=0 ↔ l=[]:=by
 constructor
 ·intro a;have:=eY h;rw[a,ax]at this;exact this.symm
 rintro rfl;rfl

theorem WD.ok_canon{a:WD}(hw:Wds a.mag)(h:a.ok=true):aX a.mag:=by
 rw[nV hw];unfold WD.ok at h;by_cases h0:a.mag=[]
 ·left;simp[h0]
 right;simpa[h0]using h
theorem WD.ok_iff{a:WD}(hw:Wds a.mag):a.ok=true ↔ aX a.mag/\(a.mag=[]->a.neg=false):=by
 constructor
 ·intro h
  refine⟨WD.ok_canon hw h,fun b=>?_⟩;unfold WD.ok at h;simpa[b]using h
 rintro⟨c,b⟩;unfold WD.ok;by_cases he:a.mag=[]
 ·simp[he,b he]
 simp[he,c.last he]
theorem En(z:Int):(wh z).ok=true:=by
 rw[WD.ok_iff (iL _)];refine⟨er _,fun h=>?_⟩;have:z.natAbs=0:=aV.1 h;have:z=0:=by omega
 subst this;rfl
theorem Ft(z:Int):(wh z).z=z:=by
 unfold WD.z;rw[kZ (En z)];unfold wh;simp only[ai,FZ];split<;>omega
theorem xt(b:Bool)(n:Nat):wh (sgn b n)=⟨b&&decide (0<(au n).length),au n⟩:=by
 have e:decide (0<(au n).length)=decide (n≠0):=by
  rw[Ij,FW,Ne,aV]
 rw[e];unfold wh sgn;cases b
 ·simp
 simp only[GY,Ho];rw[show (-(n:Int)).natAbs=n by omega];congr 1;rw[Ij];omega
theorem WD.canon_m{a:WD}(hw:Wds a.mag):aX a.m:=by
 unfold WD.m;cases h:a.ok
 ·simp[uW]
 simpa using WD.ok_canon hw h
theorem jj{l:List Nat}(hw:Wds l)(a:l≠[]):last0 l=true ↔ aX l:=by
 rw[nV hw];unfold last0;have:l.length≠0:=fun e=>a (lq e)
 simp[this]

theorem RD.ok_cases{a:RD}(f:Wds a.num)(hd:Wds a.den)(h:a.ok=true):
 (a.num=[]/\a.den=[]/\a.neg=false)\/(a.num≠[]/\a.den≠[]/\aX a.num/\aX a.den/\Nat.gcd (val a.num) (val a.den)=1):=by
 unfold RD.ok at h;by_cases h0:a.num=[]/\a.den=[]
 ·left
  rw[kZ h0]at h;exact⟨h0.1,h0.2,by simpa using h⟩
 right;rw[kl h0]at h;simp only[uv,F6,xm]at h;obtain⟨⟨⟨⟨c,b⟩,d⟩,g⟩,i⟩:=h;exact⟨c,b,(jj f c).1 d,(jj hd b).1 g,i⟩
theorem RD.d_pos{a:RD}(f:Wds a.num)(hd:Wds a.den):0<a.d:=by
 unfold RD.d;split
 ·rename_i h
  simp only[uv,F6]at h;rcases RD.ok_cases f hd h.1 with⟨c,_⟩|⟨_,b,_,g,_⟩
  ·exact absurd c h.2
  exact Nat.pos_of_ne_zero fun e=>b ((dN g).1 e)
 omega
theorem RD.cop{a:RD}(f:Wds a.num)(hd:Wds a.den):Nat.gcd a.n.natAbs a.d=1:=by
 unfold RD.n RD.d;by_cases h:(a.ok&&a.num != [])=true
 ·simp only[h,GY]
  simp only[uv,F6]at h;rcases RD.ok_cases f hd h.1 with⟨c,_⟩|⟨_,g,_,i,b⟩
  ·exact absurd c h.2
  split
  ·simpa using b
  simpa using b
 simp[h]
theorem RD.q_num{a:RD}(b:Wds a.num)(hd:Wds a.den):a.q.num=a.n:=by
 have c:=RD.d_pos b hd;unfold RD.q;rw[Rat.num_divInt]
 have:(Int.gcd (a.d:Int) a.n)=1:=by
  rw[Int.gcd_comm];have:=RD.cop b hd;unfold Int.gcd;simpa using this
 rw[this,FX (by omega)];simp
theorem RD.q_den{a:RD}(b:Wds a.num)(hd:Wds a.den):a.q.den=a.d:=by
 have c:=RD.d_pos b hd;unfold RD.q;rw[Rat.den_divInt]
 have:(Int.gcd (a.d:Int) a.n)=1:=by
  rw[Int.gcd_comm];have:=RD.cop b hd;unfold Int.gcd;simpa using this
 rw[this,kl (by omega)];simp

theorem Cx(q:Rat):(rd q).ok=true:=by
 unfold RD.ok;by_cases h:q.num=0
 ·have e:rd q=⟨false,[],[]⟩:=by unfold rd;simp[h,ax]
  rw[e];simp
 have c:(rd q).num=au q.num.natAbs:=rfl;have hd:(rd q).den=au q.den:=by unfold rd;simp[h]
 have a:au q.num.natAbs≠[]:=fun e=>h (by have:=aV.1 e;omega)
 have b:au q.den≠[]:=fun e=>q.den_nz (aV.1 e)
 rw[c,hd,kl (by simp[a])];simp only[uv,F6,xm,ai];exact⟨⟨⟨⟨a,b⟩,(jj (iL _) a).2 (er _)⟩,(jj (iL _) b).2 (er _)⟩,q.reduced⟩
theorem Fu(q:Rat):(rd q).n=q.num:=by
 unfold RD.n;by_cases h:q.num=0
 ·have e:rd q=⟨false,[],[]⟩:=by unfold rd;simp[h,ax]
  rw[e];simp[h]
 have a:(rd q).num≠[]:=fun e=>h (by have:=aV.1 e;omega)
 rw[kZ (by simp[Cx,a])];unfold rd;simp only[ai,FZ];split<;>omega
theorem Fv(q:Rat):(rd q).d=q.den:=by
 unfold RD.d;by_cases h:q.num=0
 ·have e:rd q=⟨false,[],[]⟩:=by unfold rd;simp[h,ax]
  have:q=0:=Hs.1 h;rw[e];simp[this]
 have a:(rd q).num≠[]:=fun e=>h (by have:=aV.1 e;omega)
 rw[kZ (by simp[Cx,a])];unfold rd;simp[h,ai]
theorem Fw(q:Rat):(rd q).q=q:=by
 unfold RD.q;rw[Fu,Fv];exact Rat.num_divInt_den q
theorem xw{a:RD}(g:Wds a.num)(hd:Wds a.den)(h:a.ok=true):rd a.q=a:=by
 have p:=RD.q_num g hd;have l:=RD.q_den g hd;unfold rd;rw[p,l];rcases RD.ok_cases g hd h with⟨i,b,c⟩|⟨b,c,f,k,r⟩
 ·cases a with
  |mk neg num den =>
   simp only at i b c;subst i;subst b;subst c;simp[RD.n,ax]
 cases a with
 |mk neg num den =>
  simp only at *;have j:(RD.ok ⟨neg,num,den⟩&&num != [])=true:=by simp[h,b]
  have s:val num≠0:=fun e=>b ((dN f).1 e)
  have m:RD.n ⟨neg,num,den⟩=if neg then -(val num:Int) else (val num:Int):=by unfold RD.n;simp only[j,GY]
  have o:RD.d ⟨neg,num,den⟩=val den:=by unfold RD.d;simp only[j,GY]
  rw[m,o]
  cases neg with
  |true =>
   simp only[GY];rw[kl (by omega),show (-(val num:Int)).natAbs=val num by omega,eY f,eY k,zO (by omega)]
  |false =>
   simp only[Gx,Hw];rw[kl (by omega),show ((val num:Int)).natAbs=val num by omega,eY f,eY k,yB (by omega)]

/-! ### the size of a fraction -/
def Sz(q:Rat)(k:Nat):Prop:=q.num.natAbs<4294967296^k/\q.den<4294967296^k
theorem jk{n d:Int}{k:Nat}(a:n.natAbs<4294967296^k)(hd:d.natAbs<4294967296^k)(c:0<k):Sz (Rat.divInt n d) k:=by
 have b:1<4294967296^k:=Nat.one_lt_pow (by omega) (by omega);constructor
 ·rw[Rat.num_divInt]
  refine Nat.lt_of_le_of_lt ?_ a;rw[Int.natAbs_ediv_of_dvd (Int.dvd_mul_of_dvd_right (Int.gcd_dvd_right _ _)),Hx];refine Nat.le_trans (Nat.div_le_self _ _) ?_;rcases GA d 0 with h|h|h
  ·rw[F7 h];simp
  ·subst h;simp
  rw[FX h];simp
 rw[Rat.den_divInt];split
 ·omega
 exact Nat.lt_of_le_of_lt (Nat.div_le_self _ _) hd
end Bn

namespace Bn
theorem kY{n d:Int}(p:n≠0)(hd:0<d):
 rd (Rat.divInt n d)=⟨decide (n<0),au (n.natAbs/Nat.gcd n.natAbs d.natAbs),au (d.natAbs/Nat.gcd n.natAbs d.natAbs)⟩:=by
 have i:Int.gcd d n=Nat.gcd n.natAbs d.natAbs:=by rw[Int.gcd_comm];rfl
 have b:0<Nat.gcd n.natAbs d.natAbs:=Nat.gcd_pos_of_pos_right _ (by omega);have m:(Nat.gcd n.natAbs d.natAbs:Int) ∣ n:=by rw[<-i];exact Int.gcd_dvd_right ..
 have q:(Rat.divInt n d).num=n/(Nat.gcd n.natAbs d.natAbs:Int):=by
  rw[Rat.num_divInt,i,FX hd,Int.one_mul]
 have o:(Rat.divInt n d).den=d.natAbs/Nat.gcd n.natAbs d.natAbs:=by
  rw[Rat.den_divInt,i,kl (by omega)]
 obtain⟨k,a⟩:=m
 have f:n/(Nat.gcd n.natAbs d.natAbs:Int)=k:=by
  generalize Nat.gcd n.natAbs d.natAbs=g at a b⊢;rw[a];exact Int.mul_ediv_cancel_left _ (by omega)
 have j:k≠0:=by rintro rfl;simp at a;exact p a
 have c:(k<0) ↔ (n<0):=by
  constructor
  ·intro h
   have:=Int.mul_neg_of_pos_of_neg (show (0:Int)<(Nat.gcd n.natAbs d.natAbs:Int) by omega) h;omega
  intro h;rcases (show k<0\/0<=k by omega) with l|l
  ·exact l
  have:=Int.mul_nonneg (show (0:Int)<=(Nat.gcd n.natAbs d.natAbs:Int) by omega) l;omega
 unfold rd;rw[q,o,f,kl j]
 have r:k.natAbs=n.natAbs/Nat.gcd n.natAbs d.natAbs:=by
  have:n.natAbs=Nat.gcd n.natAbs d.natAbs*k.natAbs:=by
   conv=>lhs;rw[a]
   rw[Hx];simp
  exact(Nat.div_eq_of_eq_mul_right b this).symm
 rw[r];congr 1;simp[c]
theorem tN:rd 0=⟨false,[],[]⟩:=by unfold rd;simp[ax]
theorem me(n d:Int)(h:d≠0):Rat.divInt (-n) (-d)=Rat.divInt n d:=by
 rw[Rat.divInt_eq_divInt_iff (by omega) h]
 grind
theorem nB(q:Rat):q=Rat.divInt q.num q.den:=(Rat.num_divInt_den q).symm
theorem fx(q:Rat):(q.den:Int)≠0:=by have:=q.den_nz;omega
theorem xx(a b:Rat):a+b=Rat.divInt (a.num*b.den+b.num*a.den) (a.den*b.den):=by
 conv=>lhs;rw[nB a,nB b]
 exact Rat.divInt_add_divInt _ _ (fx a) (fx b)
theorem Cy(a b:Rat):a*b=Rat.divInt (a.num*b.num) (a.den*b.den):=by
 conv=>lhs;rw[nB a,nB b]
 exact Rat.divInt_mul_divInt _ _
theorem Eo(a:Rat):-a=Rat.divInt (-a.num) a.den:=by
 conv=>lhs;rw[nB a]
 exact Rat.neg_divInt _ _
theorem Cz(a b:Rat)(hb:b≠0):a/b=Rat.divInt (a.num*b.den) (a.den*b.num):=by
 have c:b.num≠0:=fun h=>hb (Hs.1 h)
 have f:a/b=((a.num:Rat)/(a.den:Rat))/((b.num:Rat)/(b.den:Rat)):=by
  conv=>lhs;rw[nB a,nB b]
  rw[GN,GN];rfl
 rw[f,GN];have i:(a.den:Rat)≠0:=by have:=a.den_nz;exact_mod_cast this
 have g:(b.den:Rat)≠0:=by have:=b.den_nz;exact_mod_cast this
 have d:(b.num:Rat)≠0:=by exact_mod_cast c
 push_cast
 grind
theorem CV(q:Rat):q.num.sign=if q<0 then -1 else if q=0 then 0 else 1:=by
 by_cases h:q<0
 ·rw[kZ h]
  have:q.num<0:=by
   rcases (show q.num<0\/0<=q.num by omega) with a|a
   ·exact a
   exact absurd (Rat.num_nonneg.1 a) (Rat.not_le.2 h)
  exact F7 this
 rw[kl h];have a:0<=q.num:=Rat.num_nonneg.2 (Rat.not_lt.1 h);by_cases h0:q=0
 ·rw[kZ h0,h0];rfl
 rw[kl h0];have:q.num≠0:=fun e=>h0 (Hs.1 e)
 exact FX (by omega)
theorem Ep(a b:Rat):(a.num*b.den<b.num*a.den ↔ a<b)/\(a.num*b.den=b.num*a.den ↔ a=b):=by
 refine⟨(Rat.lt_iff a b).symm,?_⟩;constructor
 ·intro h
  rw[nB a,nB b];exact(Rat.divInt_eq_divInt_iff (fx a) (fx b)).2 h
 rintro rfl;rfl

/-! ### sizes -/
theorem bR{a b:Int}{i j:Nat}(c:a.natAbs<4294967296^i)(hb:b.natAbs<4294967296^j):(a*b).natAbs<4294967296^(i+j):=by
 rw[Hx,Nat.pow_add];exact Nat.mul_lt_mul'' c hb
theorem jX{a b:Int}{i:Nat}(c:a.natAbs<4294967296^i)(hb:b.natAbs<4294967296^i):(a+b).natAbs<4294967296^(i+1):=by
 rw[Nat.pow_succ];omega
theorem Sz.pos{q:Rat}{k:Nat}(h:Sz q k):0<k:=by
 rcases Nat.eq_zero_or_pos k with rfl|a
 ·have:=h.2;have:=q.den_nz;simp at *;omega
 exact a
theorem CW{a b:Rat}{i j:Nat}(c:Sz a i)(hb:Sz b j):Sz (a*b) (i+j):=by
 rw[Cy];have:=c.pos;exact jk (bR c.1 hb.1) (bR (by simpa using c.2) (by simpa using hb.2)) (by omega)
theorem xy{a b:Rat}{i j:Nat}(c:Sz a i)(hb:Sz b j):Sz (a+b) (i+j+1):=by
 rw[xx];have f:=bR c.1 (b:=(b.den:Int)) (by simpa using hb.2);have d:=bR hb.1 (b:=(a.den:Int)) (by simpa using c.2);rw[Nat.add_comm j i]at d;have g:=bR (a:=(a.den:Int)) (b:=(b.den:Int)) (by simpa using c.2) (by simpa using hb.2);exact jk (jX f d) (Nat.lt_of_lt_of_le g (Nat.pow_le_pow_right (by omega) (by omega))) (by omega)
theorem CX{a:Rat}{i:Nat}(b:Sz a i):Sz (-a) i:=by
 refine⟨?_,?_⟩
 ·rw[Rat.neg_num];have:=b.1;omega
 have:(-a).den=a.den:=rfl;rw[this];exact b.2
theorem CY{a b:Rat}{i j:Nat}(c:Sz a i)(hb:Sz b j)(d:b≠0):Sz (a/b) (i+j):=by
 rw[Cz a b d];have:=c.pos;exact jk (bR c.1 (by simpa using hb.2)) (bR (by simpa using c.2) hb.1) (by omega)
theorem CZ{z:Int}{k:Nat}(h:z.natAbs<4294967296^k)(b:0<k):Sz (z:Rat) k:=by
 have a:1<4294967296^k:=Nat.one_lt_pow (by omega) (by omega);exact⟨by simpa using h,by simpa using a⟩
end Bn

/- Words, integers and fractions in memory: what a value of the program reads as; what keeps it so. -/
namespace Go.Proofs.YtfilnhompchciaaGreatDoor
open Go Go.RowKit Bn
attribute [local go_sem ↓] Go.wp_at_zero Go.wp_at_succ

def uX(p:Prop):Prop:=p
def KT(t:TypeId):Bool:=!(t==194
  || t==65
  )
theorem C0:KT 58=true:=by decide
def uY:Value->Bool
  | .bool _=>true
  | .slice _ _ _=>true
  |_=>false
def noU(c:Array Value):Bool:=c.toList.all uY
def ik(w:World)(g:Nat)(cur:Array Value)(fr:Nat × Nat):Prop:=∃t,(KT t=true\/noU cur=false)/\w.heap[g]?=some (.cells cur t fr)
theorem ik.u32{w:World}{g:Nat}{a:Array Value}{fr:Nat × Nat}(h:w.heap[g]?=some (.cells a 58 fr)):ik w g a fr:=⟨_,.inl C0,h⟩
class NoU (c:Array Value):Prop where
 h:noU c=true
instance Fq:NoU (List.toArray []):=⟨rfl⟩
instance Er (b:Bool) (l:List Value) [x:NoU (List.toArray l)]:NoU (List.toArray (.bool b::l)):=⟨x.h⟩
instance Em (A:Option Addr) (n c:Nat) (l:List Value) [x:NoU (List.toArray l)]:NoU (List.toArray (.slice A n c::l)):=⟨x.h⟩
theorem ik.lt{w:World}{g:Nat}{a:Array Value}{fr:Nat × Nat}(h:ik w g a fr):g<w.heap.size:=by obtain⟨t,_,h⟩:=h;exact Gi h
theorem ik.same{w b:World}{g:Nat}{a:Array Value}{fr:Nat × Nat}(h:ik w g a fr)(e:b.heap[g]?=w.heap[g]?):ik b g a fr:=by obtain⟨t,c,h⟩:=h;exact⟨t,c,e.trans h⟩
theorem ik.cell{w:World}{g:Nat}{a:Array Value}{fr:Nat × Nat}(h:ik w g a fr)(o:Nat):w.cell? ⟨g,o,none⟩=a[o]?:=by obtain⟨t,b,h⟩:=h;simp[World.cell?,h]
def Kp(w w':World):Prop:=∀(g:Nat) (cur:Array Value) (fr:Nat × Nat),ik w g cur fr->ik w' g cur fr
theorem Kp.refl(w:World):Kp w w:=fun _ _ _ h=>h
theorem Kp.trans{a b c:World}(h:Kp a b)(k:Kp b c):Kp a c:=fun g d fr x=>k g d fr (h g d fr x)
theorem Kp.below{a b c:World}(h:Kp a b)(k:Below b.heap.size b c):Kp a c:=fun g d fr x=>(h g d fr x).same (k.block g (h g d fr x).lt)
theorem Kp.alloc{a b:World}(h:Kp a b)(o:Obj):Kp a (b.alloc o):=fun g c fr x=>(h g c fr x).same (GR _ _ _ (h g c fr x).lt)
theorem Kp.drew{a b:World}(h:Kp a b):Kp a b.drew:=h
theorem Kp.drewN{a b:World}(h:Kp a b)(n:Nat):Kp a (b.drewN n):=h
theorem ik.ne{w:World}{g g':Nat}{d c:Array Value}{t:TypeId}{fr f:Nat × Nat}(x:ik w g d fr)(h:w.heap[g']?=some (.cells c t f))(i:KT t=false)(j:noU c=true):g≠g':=by
 rintro rfl;obtain⟨k,a,b⟩:=x;rw[h]at b;injection b with b;injection b with e1 e2;rw[<-e1,<-e2,j,i]at a;rcases a with a|a<;>cases a
theorem Kp.set{a b:World}(h:Kp a b){p:Addr}{c:Array Value}{t:TypeId}{fr:Nat × Nat}(i:b.heap[p.block]?=some (.cells c t fr))(j:KT t=false)(k:noU c=true)(u:Value):Kp a (b.setCell p u):=fun g d f x=>by
 refine(h g d f x).same ?_;rw[so];exact(h g d f x).ne i j k

def Box(w:World)(g:Nat)(t:TypeId):Prop:=∃c fr,w.heap[g]?=some (.cells c t fr)/\noU c=true
theorem Box.new(w:World)(c:Array Value)(t:TypeId)(fr:Nat × Nat)(a:noU c=true:=by rfl):Box (w.alloc (.cells c t fr)) w.heap.size t:=⟨c,fr,Ao w _,a⟩
theorem Box.alloc{w:World}{g:Nat}{t:TypeId}(h:Box w g t)(o:Obj):Box (w.alloc o) g t:=by
 obtain⟨c,fr,h,a⟩:=h;exact⟨c,fr,(GR w o g (Gi h)).trans h,a⟩
theorem AO{c:Array Value}(b:noU c=true){u:Value}(d:uY u=true)(i:Nat):noU (c.setIfInBounds i u)=true:=by
 unfold noU at b⊢;rw[Hy,zX];intro x a;rcases List.mem_or_eq_of_mem_set a with a|rfl
 ·exact zX.1 b x a
 exact d
theorem Box.set{w:World}{g:Nat}{t:TypeId}(h:Box w g t)(p:Addr)(u:Value)(b:uY u=true:=by rfl):Box (w.setCell p u) g t:=by
 obtain⟨c,fr,h,a⟩:=h;by_cases e:g=p.block
 ·subst e
  refine⟨if p.spot.isSome then c else c.setIfInBounds p.off u,fr,by simp[World.setCell,Hh,h],?_⟩;split
  ·exact a
  exact AO a b _
 exact⟨c,fr,(so w p u g e).trans h,a⟩
theorem Box.below{w a:World}{g:Nat}{t:TypeId}(h:Box w g t)(hb:Below w.heap.size w a):Box a g t:=by
 obtain⟨c,fr,h,b⟩:=h;exact⟨c,fr,(hb.block g (Gi h)).trans h,b⟩
theorem ik.neB{w:World}{g g':Nat}{a:Array Value}{t:TypeId}{fr:Nat × Nat}(x:ik w g a fr)(h:Box w g' t)(b:KT t=false):g≠g':=by
 obtain⟨c,d,h,f⟩:=h;exact x.ne h b f
theorem Kp.setB{a b:World}(h:Kp a b){p:Addr}{t:TypeId}(d:Box b p.block t)(f:KT t=false)(u:Value):Kp a (b.setCell p u):=by
 obtain⟨c,fr,d,g⟩:=d;exact h.set d f g u
theorem Kp.sb{a b:World}(h:Kp a b)(g i:Nat){t:TypeId}(c:Box b g t)(d:KT t=false)(u:Value):Kp a (b.setCell ⟨g,i,none⟩ u):=h.setB (p:=⟨g,i,none⟩) c d u
def Wd(w:World)(A:Option Addr)(n c:Nat)(l:List Nat):Prop :=
  Wds l/\n=l.length/\n<=c/\(0<n->∃(g o:Nat) (cur:Array Value) (fr:Nat × Nat),A=some ⟨g,o,none⟩/\ik w g cur fr/\∀i,i<n->cur[o+i]?=some (.int .u32 (wd l i:Nat)))
theorem Wd.keep{w b:World}{A:Option Addr}{n c:Nat}{l:List Nat}(h:Wd w A n c l)(k:Kp w b):Wd b A n c l :=
 ⟨h.1,h.2.1,h.2.2.1,fun f=>by
  obtain⟨g,o,a,fr,e,hb,d⟩:=h.2.2.2 f
  exact⟨g,o,a,fr,e,k _ _ _ hb,d⟩⟩
theorem Wd.nil_(w:World):Wd w none 0 0 []:=⟨by simp[Wds],rfl,Qr,fun h=>absurd h (by omega)⟩
theorem Wd.at_{w:World}{A:Option Addr}{n c:Nat}{l:List Nat}(h:Wd w A n c l)(f:0<n):∃g o,A=some ⟨g,o,none⟩/\∀i,i<n->w.cell? ⟨g,o+i,none⟩=some (.int .u32 (wd l i:Nat)):=by
 obtain⟨g,o,a,fr,e,hb,b⟩:=h.2.2.2 f;exact⟨g,o,e,fun i d=>(hb.cell _).trans (b i d)⟩
theorem Wd.at2{w:World}{A:Option Addr}{n c:Nat}{l:List Nat}(h:Wd w A n c l)(f:0<n):∃g o,A=some ⟨g,o,none⟩/\g<w.heap.size/\∀i,i<n->w.cell? ⟨g,o+i,none⟩=some (.int .u32 (wd l i:Nat)):=by
 obtain⟨g,o,a,fr,e,hb,b⟩:=h.2.2.2 f;exact⟨g,o,e,hb.lt,fun i d=>(hb.cell _).trans (b i d)⟩
theorem Wd.lt{w:World}{A:Option Addr}{n c:Nat}{l:List Nat}(h:Wd w A n c l)(i:Nat):wd l i<4294967296:=cf h.1 i

def gS(w:World)(l:List Nat)(e:Ending)(w':World):Prop:=∃A n c,e=.returned (.slice A n c)/\Wd w' A n c l/\Below w.heap.size w w'
def av(w:World)(v:Value)(e:Ending)(w':World):Prop:=e=.returned v/\Below w.heap.size w w'
def jU(w:World)(a:WD)(e:Ending)(w':World):Prop:=∃A n c,e=.returned (.agg #[.bool a.neg,.slice A n c])/\Wd w' A n c a.mag/\Below w.heap.size w w'
theorem cg{w a:World}{x y:Bool}(h:x=y)(hb:Below w.heap.size w a):av w (.bool y) (.returned (.bool x)) a:=⟨by rw[h],hb⟩
theorem cF{w a:World}{k:IntKind}{x y:Int}(h:x=y)(hb:Below w.heap.size w a):av w (.int k y) (.returned (.int k x)) a:=⟨by rw[h],hb⟩
theorem dU{W a:World}(hb:Below W.heap.size W a):(∀b o,b<W.heap.size->a.cell? ⟨b,o,none⟩=W.cell? ⟨b,o,none⟩)/\(∀b o,b<W.heap.size->a.frozen? ⟨b,o,none⟩=W.frozen? ⟨b,o,none⟩) :=
 ⟨fun b o h=>hb.cell (p:=⟨b,o,none⟩) h,fun b o h=>hb.frozen (p:=⟨b,o,none⟩) h⟩
theorem af{B:Nat}{a w:World}(h:Below B a w)(n:Nat):Below B a (w.drewN n):=⟨h.os,h.tape,h.output,h.size,h.block⟩
def Blk(w:World)(g:Nat)(t:TypeId)(cs:Array Value):Prop:=w.heap[g]?=some (.cells cs t (0,0))
section
variable {w w':World}{g:Nat}{t:TypeId}{cs:Array Value}
theorem Blk.lt(h:Blk w g t cs):g<w.heap.size:=Gi h
theorem Blk.cell(h:Blk w g t cs)(i:Nat):w.cell? ⟨g,i,none⟩=cs[i]?:=by unfold Blk at h;simp[World.cell?,h]
theorem Blk.frozen(h:Blk w g t cs)(i:Nat):w.frozen? ⟨g,i,none⟩=false:=by unfold Blk at h;simp[World.frozen?,h]
theorem Blk.new(w:World)(t:TypeId)(cs:Array Value):Blk (w.alloc (.cells cs t)) w.heap.size t cs:=Ao w _
theorem Blk.drew(h:Blk w g t cs):Blk w.drew g t cs:=h
theorem Blk.drewN(h:Blk w g t cs)(n:Nat):Blk (w.drewN n) g t cs:=h
theorem Blk.alloc(h:Blk w g t cs)(o:Obj):Blk (w.alloc o) g t cs:=(GR w o g h.lt).trans h
theorem Blk.set_(h:Blk w g t cs)(i:Nat)(u:Value):Blk (w.setCell ⟨g,i,none⟩ u) g t (cs.setIfInBounds i u):=by
 unfold Blk at h⊢;simp[World.setCell,Hh,h]
theorem Blk.far(h:Blk w g t cs){p:Addr}(a:g≠p.block)(u:Value):Blk (w.setCell p u) g t cs:=(so w p u g a).trans h
theorem Blk.below{B:Nat}(h:Blk w g t cs)(hb:Below B w w')(a:g<B):Blk w' g t cs:=(hb.block g a).trans h
theorem Blk.b(h:Blk w g t cs){v:World}(hb:Below w.heap.size w v):Blk v g t cs:=h.below hb h.lt
theorem Blk.fr(h:Blk w g t cs)(b i:Nat)(a:g≠b)(u:Value):Blk (w.setCell ⟨b,i,none⟩ u) g t cs:=h.far (p:=⟨b,i,none⟩) a u
end
def cellsOf(l:List Nat):Array Value:=(l.map fun x=>Value.int .u32 (x:Nat)).toArray
theorem aE{l:List Nat}{i:Nat}(h:i<l.length):(cellsOf l)[i]?=some (.int .u32 (wd l i:Nat)):=by
 simp[cellsOf,wd,h]
theorem qx(l:List Nat)(i x:Nat):(cellsOf l).setIfInBounds i (.int .u32 (x:Nat))=cellsOf (l.set i x):=by
 simp[cellsOf,List.map_set]
theorem Blk.setW{w:World}{g:Nat}{l:List Nat}(h:Blk w g 58 (cellsOf l))(i:Nat)(z:Int)(x:Nat)(a:z=x):Blk (w.setCell ⟨g,i,none⟩ (.int .u32 z)) g 58 (cellsOf (l.set i x)):=by
 subst a;rw[<-qx];exact h.set_ i _
theorem Blk.wdN{w:World}{g n:Nat}{l:List Nat}(h:Blk w g 58 (cellsOf l))(hw:Wds l)(b:l.length=n):Wd w (some ⟨g,0,none⟩) n n l:=by
 subst b;exact⟨hw,rfl,Qr,fun _=>⟨g,0,_,_,rfl,ik.u32 h,fun i a=>by rw[Nat.zero_add];exact aE a⟩⟩
def bA(l:List Nat):List Value:=l.map fun x=>Value.int .u32 (x:Nat)
theorem la{l:List Nat}{i:Nat}(h:i<l.length):(bA l)[i]?=some (.int .u32 (wd l i:Nat)):=by
 simp[bA,wd,h]
theorem dx(l:List Nat):(bA l).length=l.length:=by simp[bA]
theorem gU(l:List Nat):∀u∈bA l,u.oneCell'=true:=by
 intro u a;simp only[bA,List.mem_map]at a;obtain⟨x,_,rfl⟩:=a;rfl
theorem Wd.of_own{w:World}{base n cap:Nat}{A:Option Addr}{l:List Nat}(h:w.ownsRow base 58 1 (.slice A n cap) n (bA l))(hw:Wds l):Wd w A n cap l:=by
 have b:n=l.length:=by have:=h.1;rw[dx]at this;omega
 refine⟨hw,b,?_,fun q=>?_⟩
 ·rcases h.2 with⟨e,rfl⟩|⟨g,c,a,e,_,_,k,_⟩
  ·omega
  injection e with _ _ e;omega
 rcases h.2 with⟨e,m⟩|⟨g,c,a,e,_,j,k,_,o,f⟩
 ·omega
 injection e with e1 _ e2;refine⟨g,0,a,_,e1,ik.u32 j,fun i p=>?_⟩;have d:(bA l)[i]?=some (.int .u32 (wd l i:Nat)):=la (by omega);rw[<-f,Gk,kZ (by omega)]at d;rw[Nat.zero_add];simpa using d
theorem Wd.news{w:World}{g o n c:Nat}{l:List Nat}(h:Wd w (some ⟨g,o,none⟩) n c l)(m:0<n){k:Nat}(q:k<=n):
 ∀j u,(bA (l.take k))[j]?=some u->w.cell? ((⟨g,o,none⟩:Addr).add j)=some u:=by
 intro j u a;obtain⟨g',r,e,p⟩:=h.at_ m;injection e with e;injection e with e1 e2;subst e1;subst e2;have d:j<(bA (l.take k)).length:=(ts.1 a).1;have b:=h.2.1;rw[dx,vq]at d;have i:(bA (l.take k))[j]?=some (.int .u32 (wd (l.take k) j:Nat)):=la (by rw[vq];exact d);rw[i]at a;injection a with a;rw[<-a];have f:wd (l.take k) j=wd l j:=by simp[wd,List.getD,show j<k by omega]
 rw[f,<-p j (by omega)];unfold Addr.add;by_cases hj0:j=0
 ·subst hj0;simp
 simp[hj0]
theorem Wds.take{l:List Nat}(h:Wds l)(k:Nat):Wds (l.take k):=fun x a=>h x (GM a)

theorem km{w f:World}{b:Bool}{A:Option Addr}{n c:Nat}{a:WD}(hb:b=a.neg)(h:Wd f A n c a.mag)(d:Below w.heap.size w f):jU w a (.returned (.agg #[.bool b,.slice A n c])) f :=
 ⟨A,n,c,by rw[hb],h,d⟩

theorem Blk.wdT{w:World}{g n c:Nat}{l:List Nat}(h:Blk w g 58 (cellsOf l))(hw:Wds l)(d:n<=l.length)(b:n<=c):Wd w (some ⟨g,0,none⟩) n c (l.take n):=by
 refine⟨Wds.take hw n,by rw[vq];omega,b,fun _=>⟨g,0,_,_,rfl,ik.u32 h,fun i a=>?_⟩⟩;rw[Nat.zero_add,aE (by omega)];have:wd (l.take n) i=wd l i:=by simp[wd,List.getD,a]
 rw[this]
theorem Blk.grown{w b:World}{g t:Nat}{cs:Array Value}{row:Option Nat}(h:Blk w g t cs)(hb:w.grownBy b row)(c:some g≠row):Blk b g t cs:=(hb.block g h.lt c).trans h
/-! ### All the cells of a block at once, and where it lies -/
theorem Blk.c2{w:World}{g t:Nat}{a b:Value}(h:Blk w g t #[a,b]):w.cell? ⟨g,0,none⟩=some a/\w.cell? ⟨g,1,none⟩=some b:=⟨h.cell 0,h.cell 1⟩
theorem Blk.f2{w:World}{g t:Nat}{a b:Value}(h:Blk w g t #[a,b]):w.frozen? ⟨g,0,none⟩=false/\w.frozen? ⟨g,1,none⟩=false:=⟨h.frozen 0,h.frozen 1⟩
theorem Blk.c3{w:World}{g t:Nat}{a b c:Value}(h:Blk w g t #[a,b,c]):w.cell? ⟨g,0,none⟩=some a/\w.cell? ⟨g,1,none⟩=some b/\w.cell? ⟨g,2,none⟩=some c:=⟨h.cell 0,h.cell 1,h.cell 2⟩
theorem Blk.f3{w:World}{g t:Nat}{a b c:Value}(h:Blk w g t #[a,b,c]):w.frozen? ⟨g,0,none⟩=false/\w.frozen? ⟨g,1,none⟩=false/\w.frozen? ⟨g,2,none⟩=false:=⟨h.frozen 0,h.frozen 1,h.frozen 2⟩
theorem Blk.c4{w:World}{g t:Nat}{a b c d:Value}(h:Blk w g t #[a,b,c,d]):w.cell? ⟨g,0,none⟩=some a/\w.cell? ⟨g,1,none⟩=some b/\w.cell? ⟨g,2,none⟩=some c/\w.cell? ⟨g,3,none⟩=some d:=⟨h.cell 0,h.cell 1,h.cell 2,h.cell 3⟩
theorem Blk.f4{w:World}{g t:Nat}{a b c d:Value}(h:Blk w g t #[a,b,c,d]):w.frozen? ⟨g,0,none⟩=false/\w.frozen? ⟨g,1,none⟩=false/\w.frozen? ⟨g,2,none⟩=false/\w.frozen? ⟨g,3,none⟩=false:=⟨h.frozen 0,h.frozen 1,h.frozen 2,h.frozen 3⟩
theorem Blk.c6{w:World}{g t:Nat}{b c d f a i:Value}(h:Blk w g t #[b,c,d,f,a,i]):w.cell? ⟨g,0,none⟩=some b/\w.cell? ⟨g,1,none⟩=some c/\w.cell? ⟨g,2,none⟩=some d/\w.cell? ⟨g,3,none⟩=some f/\w.cell? ⟨g,4,none⟩=some a/\w.cell? ⟨g,5,none⟩=some i:=⟨h.cell 0,h.cell 1,h.cell 2,h.cell 3,h.cell 4,h.cell 5⟩
theorem Blk.f6{w:World}{g t:Nat}{b c d f a i:Value}(h:Blk w g t #[b,c,d,f,a,i]):w.frozen? ⟨g,0,none⟩=false/\w.frozen? ⟨g,1,none⟩=false/\w.frozen? ⟨g,2,none⟩=false/\w.frozen? ⟨g,3,none⟩=false/\w.frozen? ⟨g,4,none⟩=false/\w.frozen? ⟨g,5,none⟩=false:=⟨h.frozen 0,h.frozen 1,h.frozen 2,h.frozen 3,h.frozen 4,h.frozen 5⟩
theorem fd{b H:Nat}(h:b<H):b<H/\b<H+1/\b<H+2/\b<H+3:=by omega
theorem kn{b H:Nat}(h:b+1<H):b+1<H/\b<H/\b<H+1/\b<H+2:=by omega
theorem uZ{b H:Nat}(h:b+2<H):b+2<H/\b+1<H/\b<H/\b<H+1:=by omega
theorem FU{b H:Nat}(h:b+3<H):b+3<H/\b+2<H/\b+1<H/\b<H:=by omega

theorem xA{b:Nat}(w:World)(A:Option Addr)(n c:Nat)(l:List Nat)(h:Wd w A n c l)(i:Int)(d:0<=i)(s:n<=4398046511104)(p:b=250\/b=256:=by first|exact .inl rfl|exact .inr rfl):
 Calls Tryz.prog b #[.slice A n c,.int .i64 i] w fun e m=>e=.returned (.int .u64 (wd l i.toNat:Nat))/\w=m:=by
 rcases p with rfl|rfl
 all_goals
  obtain⟨k,rfl⟩:=Int.eq_ofNat_of_zero_le d;have r:=h.lt k;have a:n=l.length:=h.2.1;by_cases hk:k<n
  ·obtain⟨g,o,rfl,j⟩:=h.at_ (by omega)
   have q:=j k hk;clear j d;have H:=Qh a;clear a;go_in;go_wp2;go_ret;exact⟨by simp,rfl⟩
  have f:wd l k=0:=fV (by omega);have H:=Qh f;have t:=Qh a;clear f d a;go_in;go_wp2;go_ret;exact⟨by simp[H.out],rfl⟩

theorem mf(w:World)(A:Option Addr)(n c:Nat)(l:List Nat)(h:Wd w A n c l)(k x:Nat)(d:wd l k=x)(b:n<=4398046511104):
 Calls Tryz.prog 250 #[.slice A n c,.int .i64 (k:Nat)] w fun e a=>e=.returned (.int .u64 (x:Nat))/\w=a:=by
 subst d;have:=xA w A n c l h (k:Nat) (by omega) b;simpa using this

theorem xC(w:World)(A:Option Addr)(n c:Nat)(l:List Nat)(h:Wd w A n c l)(k x:Nat)(g:wd l k=x)(f:n<=4398046511104):
 Calls Tryz.prog 250 #[.slice A n c,.int .i64 (k:Nat)] w fun e d=>e=.returned (.int .u64 (x:Nat))/\d=w :=
 (mf w A n c l h k x g f).mono fun _ _ ⟨a,b⟩=>⟨a,b.symm⟩

theorem fe:(Tryz.prog.info? 58).map (fun i=>(i.zero,i.size,i.bytes))=some (some (.int .u32 0),1,4):=by kernel_rfl

theorem vc(n:Nat):madeCells #[Value.int .u32 0] n=cellsOf (List.replicate n 0):=by
 apply Array.toList_inj.1;rw[toList_madeCells_one];simp[cellsOf,List.map_replicate]
theorem aQ(w:World){ops:Array Oper}{rest:List Oper}{o:Oper}{a:Act}{Q:Exit->Act->World->Prop}
 (q:o.guard=none) (l c:Operand) (d:o.op=Op.makeSlice 63 l c)
 (m k:IntKind) (L C:Int) (n:Nat) (v:a.eval l=.int m L) (s:a.eval c=.int k C) (t:L=(n:Int)) (p:C=(n:Int)) (x:n<=4398046511104)
 (r:wpList Tryz.prog ops Q rest (a.put o.dst (.slice (some ⟨w.heap.size,0,none⟩) n n)) (w.alloc (.cells (cellsOf (List.replicate n 0)) 58))) :
 wpList Tryz.prog ops Q (o::rest) a w:=by
 refine wpList_plain q fun K f=>?_
 obtain⟨u,j,b,g,h⟩:=Gb fe;have i:=run_make (P:=Tryz.prog) w 63 58 u (.int .u32 0) Tryz.underlying63 j b m k n n (by omega) (by omega) (by rw[h];omega) (by omega);subst t;subst p;simp only[Hf,g,Nat.mul_one]at i;have e:(Value.int IntKind.u32 0).cells=#[Value.int IntKind.u32 0]:=rfl;rw[e,vc]at i;unfold Oper.wp;simp[execOp,d,v,s,i,Result.andThen];exact f _ _ r

def tP(l:List Nat)(k:Nat):Prop:=∀i,k<=i->wd l i=0
theorem gB(w:World)(A:Option Addr)(n c:Nat)(l:List Nat)(h:Wd w A n c l)(V:n<=4398046511104):
 Calls Tryz.prog 226 #[.slice A n c] w (gS w (au (val l))):=by
 have B:=Qh h.2.1;have F:n<=c:=h.2.2.1;obtain⟨N,s,r,u,z⟩:=Gb fe;go_in;go_wp2;go_loop [3] (fun v=>∃k:Nat,k<=n/\v=.int .i64 k/\tP l k) (fun v=>(intOf v).toNat)
 case atStart=>exact⟨n,Qr,rfl,fun i G=>fV (by rw[<-B.out];exact G)⟩
 case round =>
  obtain⟨k,E,rfl,p⟩:=hrel;by_cases C:k=0
  ·subst C
   have q:=Qh p;clear p;go_wp2;go_ret;refine⟨none,0,0,rfl,?_,kz _ _⟩;have:=ct h.1 (Nat.zero_le _) q.out (.inl rfl);rw[this];exact Wd.nil_ _
  have T:0<k:=by omega
  obtain⟨g,o,rfl,I⟩:=h.at_ (by omega);have R:=I (k-1) (by omega);have K:=h.lt (k-1);have q:=Qh p;generalize H:wd l (k-1)=x at *;have J:=Qh H;clear I C p H;by_cases y:x=0
  ·subst y
   go_wp2;go_round
   case rel=>exact⟨k-1,by omega,by go_num,fun i G=>by
    by_cases he:i=k-1
    ·subst he;exact J.out
    exact q.out i (by omega)⟩
   case measure=>simp[intOf];omega
  have S:((x:Int)==0)=false:=by simp;omega
  have M:((k:Int)==0)=false:=by simp;omega
  have Q:=Qh y;clear y;have f:=F4 (e:=58) (size:=1) w #[] 0 Qr (by simp[maxLen]) rfl;have a:=(h.keep ((Kp.refl w).alloc (.cells #[] 58))).news (by omega) E;have m:(bA (l.take k)).length=k*1:=by rw[dx,vq,<-B.out];omega
  have O:=Qh f;have P:=Qh a;have t:=Qh m;clear f a m;go_wp2_with (at_builtin;refine Gc _ rfl _ _ _ rfl w.heap.size 58 N (.int .u32 0) 1 4 Tryz.underlying63 s r u z rfl (by omega) _ 0 [] rfl O.out ⟨g,o,none⟩ k c (bA (l.take k)) rfl t.out P.out (gU _) (by omega) (by unfold maxLen;omega) (by omega) (by simp) (w.heap.size+1) (by simp) ?_;intro g' cap U d j L D);go_ret;simp only[Nat.zero_add,Gf]at d⊢;have hd:=ct h.1 (by rw[<-B.out];exact E) q.out (.inr (by rw[J.out];exact Q.out));refine⟨_,_,_,rfl,?_,?_⟩
  ·rw[hd];exact Wd.of_own d (Wds.take h.1 k)
  exact((kz _ _).alloc Qr _).grown j (by simp) (fun b hb=>Nat.le_of_eq (F5 hb))

theorem ko{d:Nat}(w:World)(b:Bool)(A:Option Addr)(n c:Nat)(l:List Nat)(h:Wd w A n c l)(z:n<=1099511627776)(s:d=151\/d=248:=by first|exact .inl rfl|exact .inr rfl):
 Calls Tryz.prog d #[.agg #[.bool b,.slice A n c]] w (av w (.bool (WD.ok ⟨b,l⟩))):=by
 rcases s with rfl|rfl
 all_goals
  have f:=Qh h.2.1;by_cases k:n=0
  ·subst k
   have m:l=[]:=lq f.out.symm;have j:=Qh (show WD.ok ⟨b,l⟩=!b by unfold WD.ok;simp[m]);clear m;go_in;go_wp2;go_ret;exact cg j.out.symm ((kz _ _).alloc Qr _)
  obtain⟨g,o,rfl,v,q⟩:=h.at2 (by omega);have u:=q (n-1) (by omega);have r:=h.lt (n-1)
  have p:WD.ok ⟨b,l⟩=!decide (wd l (n-1)=0):=by
   have a:l≠[]:=by rintro rfl;have:=f.out;simp at this;omega
   unfold WD.ok;simp only[kl a,<-f.out];by_cases hz:wd l (n-1)=0<;>simp[hz]
  have j:=Qh p;clear p;have t:((n:Int)==0)=false:=by simp;omega
  have y:0<n:=by omega
  clear q k;generalize i:wd l (n-1)=x at *;clear i;go_in;go_wp2;go_ret;refine cg ?_ ((kz _ _).alloc Qr _);rw[j.out];by_cases hz:x=0<;>simp[hz]

theorem cU{d:Nat}(w:World)(b:Bool)(A:Option Addr)(n c:Nat)(l:List Nat)(h:Wd w A n c l)(g:n<=1099511627776)(f:d=194\/d=215:=by first|exact .inl rfl|exact .inr rfl):
 Calls Tryz.prog d #[.agg #[.bool b,.slice A n c]] w (gS w (WD.m ⟨b,l⟩)):=by
 rcases f with rfl|rfl
 all_goals
  cases hk:WD.ok ⟨b,l⟩
  ·have a:=Qh hk
   go_in;go_wp2_with ((first|go_at_call 248|go_at_call 151);refine(ko _ b A n c l (h.keep ((Kp.refl _).alloc _)) g).mono ?_;rintro e i⟨rfl,hb⟩);go_ret;refine⟨none,0,0,rfl,?_,((kz _ _).alloc Qr _).trans (hb.mono (by simp))⟩;unfold WD.m;rw[a.out];exact Wd.nil_ _
  have a:=Qh hk;go_in;go_wp2_with ((first|go_at_call 248|go_at_call 151);refine(ko _ b A n c l (h.keep ((Kp.refl _).alloc _)) g).mono ?_;rintro e i⟨rfl,hb⟩;obtain⟨j,f⟩:=dU hb);go_ret;refine⟨A,n,c,rfl,?_,((kz _ _).alloc Qr _).trans (hb.mono (by simp))⟩;unfold WD.m;rw[a.out];exact h.keep (((Kp.refl _).alloc _).below hb)

theorem fX{d:Nat}(w:World)(b:Bool)(A:Option Addr)(n c:Nat)(l:List Nat)(h:Wd w A n c l)(g:n<=1099511627776)(f:d=195\/d=222:=by first|exact .inl rfl|exact .inr rfl):
 Calls Tryz.prog d #[.agg #[.bool b,.slice A n c]] w (av w (.bool (WD.s ⟨b,l⟩))):=by
 rcases f with rfl|rfl
 all_goals
  cases hk:WD.ok ⟨b,l⟩
  ·have a:=Qh hk
   go_in;go_wp2_with ((first|go_at_call 248|go_at_call 151);refine(ko _ b A n c l (h.keep ((Kp.refl _).alloc _)) g).mono ?_;rintro e i⟨rfl,hb⟩);go_ret;refine cg ?_ (((kz _ _).alloc Qr _).trans (hb.mono (by simp)));unfold WD.s;rw[a.out];rfl
  have a:=Qh hk;go_in;go_wp2_with ((first|go_at_call 248|go_at_call 151);refine(ko _ b A n c l (h.keep ((Kp.refl _).alloc _)) g).mono ?_;rintro e i⟨rfl,hb⟩;obtain⟨j,f⟩:=dU hb);go_ret;refine cg ?_ (((kz _ _).alloc Qr _).trans (hb.mono (by simp)));unfold WD.s;rw[a.out];simp

theorem pg(w:World)(b:Bool)(A:Option Addr)(n c:Nat)(l:List Nat)(h:Wd w A n c l)(j:n<=1099511627776):
 Calls Tryz.prog 197 #[.bool b,.slice A n c] w (jU w (wh (sgn b (val l)))):=by
 go_in;go_wp2_with (go_at_call 226;refine(gB _ A n c l (h.keep ((Kp.refl _).alloc _)) (Nat.le_trans j (by decide))).mono ?_;rintro e m⟨i,f,g,rfl,d,hb⟩;obtain⟨k,o⟩:=dU hb)
 all_goals
  refine xD (v:=.agg #[.bool _,.slice i f g]) (by simp[results,Tryz.results197,go_sem,k];rfl) rfl ?_;rw[xt];have a:=(Box.new w #[.bool false,.slice none 0 0] 194 (0,0)).below hb;refine km ?_ (d.keep (((Kp.refl _).setB a (by decide) _).setB (a.set _ _) (by decide) _)) ?_
  ·have p:=d.2.1
   simp_all
  exact((((kz _ _).alloc Qr _).trans (hb.mono (by simp))).setCell (by simp) _).setCell (by simp) _

def Es(l l':List Nat)(k:Nat):Prop:=∀j,k<=j->wd l j=wd l' j
theorem jl(w:World)(A:Option Addr)(n c:Nat)(l:List Nat)(h:Wd w A n c l)(X:n<=1099511627776)(P:Option Addr)(B N:Nat)(b:List Nat)(I:Wd w P B N b)(S:B<=1099511627776)(Q:aX l)(p:aX b):
 Calls Tryz.prog 193 #[.slice A n c,.slice P B N] w (av w (.int .i64 (bS (val l) (val b)))):=by
 have K:=Qh h.2.1;have m:=Qh I.2.1;rcases Nat.lt_trichotomy n B with E|G|H
 ·have D:val l<val b:=eN Q.1 p (by rw[<-K.out,<-m.out];exact E)
  have d:=Qh (show bS (val l) (val b)=-1 by unfold bS;rw[kZ D]);clear D;go_in;go_wp2;go_ret;exact cF d.out.symm (kz _ _)
 ·subst G
  go_in;go_wp2;go_loopw [5] (fun v wr=>∃k q:Nat,k<=n/\v=.int .i64 ((k:Int)-1)/\Es l b k/\wr=w.drewN q) (fun v _=>(intOf v+1).toNat)
  case atStart=>exact⟨n,0,Qr,rfl,fun j t=>by rw[fV (by rw[<-K.out];exact t),fV (by rw[<-m.out];exact t)],rfl⟩
  case round =>
   obtain⟨k,q,V,rfl,C,rfl⟩:=hrel;by_cases O:k=0
   ·subst O
    have d:=Qh (show bS (val l) (val b)=0 by unfold bS;rw[nW (fun j=>C j (Nat.zero_le _))];simp);clear C;go_wp2;go_ret;exact cF d.out.symm (by repeat (first|exact kz _ _|refine af ?_ _))
   obtain⟨g,o,rfl,z⟩:=h.at_ (by omega);obtain⟨g',W,rfl,s⟩:=I.at_ (by omega);have r:=z (k-1) (by omega);have u:=s (k-1) (by omega);have U:(0:Int)<=(k:Int)-1:=by omega
   have T:(k:Int)-1<(n:Int):=by omega
   have M:=Qh C;have ex:∃x y,wd l (k-1)=x/\wd b (k-1)=y:=⟨_,_,rfl,rfl⟩;obtain⟨x,y,L,J⟩:=ex;rw[L]at r;rw[J]at u;have a:=Qh (And.intro L J);clear C z s L J O;have R:((k:Int)-1).toNat=k-1:=by omega
   rcases Nat.lt_trichotomy x y with f|rfl|f
   ·have F:((x:Int) != (y:Int))=true:=by rw[F6];omega
    have d:=Qh (show bS (val l) (val b)=-1 by unfold bS;rw[kZ (ji h.1 (i:=k-1) (by rw[a.out.1,a.out.2];exact f) (fun j t=>M.out j (by omega)))]);go_wp2_with fail;go_quiet (fail);go_wp2_with fail;go_quiet (fail);go_wp2;go_ret;exact cF d.out.symm (by repeat (first|exact kz _ _|refine af ?_ _))
   ·go_wp2_with fail
    go_quiet (fail);go_wp2;go_roundw
    case rel=>exact⟨k-1,_,by omega,by go_num,fun j t=>by
     by_cases hj':j=k-1
     ·subst hj';rw[a.out.1,a.out.2]
     exact M.out j (by omega),rfl⟩
    case measure=>simp[intOf];omega
   have F:((x:Int) != (y:Int))=true:=by rw[F6];omega
   have d:=Qh (show bS (val l) (val b)=1 by
    have:=ji I.1 (i:=k-1) (by rw[a.out.1,a.out.2];exact f) (fun j t=>(M.out j (by omega)).symm)
    unfold bS;rw[kl (by omega),kl (by omega)])
   go_wp2_with fail;go_quiet (fail);go_wp2_with fail;go_quiet (fail);go_wp2;go_ret;exact cF d.out.symm (by repeat (first|exact kz _ _|refine af ?_ _))
 have D:val b<val l:=eN p.1 Q (by rw[<-K.out,<-m.out];exact H);have d:=Qh (show bS (val l) (val b)=1 by unfold bS;rw[kl (by omega),kl (by omega)]);clear D;go_in;go_wp2;go_ret;exact cF d.out.symm (kz _ _)

abbrev Sees(B:Nat)(W0 W:World):Prop:=((∀b o,b<B->W.cell? ⟨b,o,none⟩=W0.cell? ⟨b,o,none⟩)/\(∀b o,b<B->W.frozen? ⟨b,o,none⟩=W0.frozen? ⟨b,o,none⟩))/\B<=W.heap.size
theorem Sees.of{B:Nat}{c W:World}(h:B<=c.heap.size)(hb:Below c.heap.size c W):Sees B c W :=
 ⟨⟨fun b o a=>(dU hb).1 b o (Nat.lt_of_lt_of_le a h),fun b o a=>(dU hb).2 b o (Nat.lt_of_lt_of_le a h)⟩,Nat.le_trans h hb.size⟩
theorem bT(w:World)(c:Array Value)(t:TypeId){g:Nat}(h:g=w.heap.size)(a:noU c=true:=by rfl):Box (w.alloc (.cells c t)) g t:=by subst h;exact Box.new w c t (0,0) a
theorem Sees.set{B:Nat}{c W:World}(h:Sees B c W){g i:Nat}{u:Value}(d:B<=g):Sees B c (W.setCell ⟨g,i,none⟩ u):=by
 refine⟨⟨fun b o a=>?_,fun b o a=>?_⟩,?_⟩
 ·rw[<-h.1.1 b o a];unfold World.cell?;rw[so _ _ _ b (by show b≠g;omega)]
 ·rw[<-h.1.2 b o a];unfold World.frozen?;rw[so _ _ _ b (by show b≠g;omega)]
 have:=h.2;simp[World.setCell];exact this
def xF(w:World)(p:Addr):Value:=(w.cell? p).getD (.bool false)
abbrev bO(R B m:Nat)(W0 W:World):Prop:=((∀b o,b<R->W.cell? ⟨b,o,none⟩=W0.cell? ⟨b,o,none⟩)/\(∀b o,b<R->W.frozen? ⟨b,o,none⟩=W0.frozen? ⟨b,o,none⟩)) /\
  (∀b o,R<=b->b<B->o<m->W.cell? ⟨b,o,none⟩=some (xF W ⟨b,o,none⟩))/\(∀b o,R<=b->b<B->W.frozen? ⟨b,o,none⟩=false)
theorem qA{w:World}{p:Addr}:w.cell? p=some (xF w p) ↔ (w.cell? p).isSome=true:=by
 unfold xF;cases w.cell? p<;>simp
abbrev j7(R B m:Nat)(W:World):Prop:=∀b,R<=b->b<B->∃c t,Blk W b t c/\c.size=m
theorem bO.of{R B m:Nat}{a W:World}(n:R<=B)(h:B<=a.heap.size)(k:j7 R B m a)(hb:Below a.heap.size a W):bO R B m a W:=by
 refine⟨⟨fun b o d=>(dU hb).1 b o (by omega),fun b o d=>(dU hb).2 b o (by omega)⟩,fun b o g f l=>?_,fun b o g f=>?_⟩
 ·obtain⟨c,t,i,j⟩:=k b g f
  rw[qA,(dU hb).1 b o (by omega),i.cell];simp[j,l]
 obtain⟨c,t,i,j⟩:=k b g f;rw[(dU hb).2 b o (by omega),i.frozen]
theorem mg{w:World}{c:Array Value}{t:TypeId}{R:Nat}(h:R=w.heap.size):j7 R (R+1) c.size (w.alloc (.cells c t)):=by
 intro b a d;have:b=w.heap.size:=by omega
 subst this;exact⟨c,t,Blk.new _ _ _,rfl⟩
theorem CA{w:World}{c a:Array Value}{t d:TypeId}{R:Nat}(h:R=w.heap.size)(f:c.size=a.size):j7 R (R+1+1) a.size ((w.alloc (.cells c t)).alloc (.cells a d)):=by
 intro b i g;by_cases e:b=w.heap.size
 ·subst e;exact⟨c,t,(Blk.new _ _ _).alloc _,f⟩
 have:b=(w.alloc (.cells c t)).heap.size:=by simp;omega
 subst this;exact⟨a,d,Blk.new _ _ _,rfl⟩
theorem ag{a b c:World}(h:Below a.heap.size a b)(hb:Below b.heap.size b c):Below a.heap.size a c:=h.trans (hb.mono h.size)
theorem aa(a:World):Below a.heap.size a a:=kz _ _
theorem Wd.belw{w a:World}{A:Option Addr}{n c:Nat}{l:List Nat}(h:Wd w A n c l)(hb:Below w.heap.size w a):Wd a A n c l:=h.keep ((Kp.refl w).below hb)
theorem kp2{w:World}{g:Nat}{t:TypeId}(x:Box w g t)(a:KT t=false)(i j:Nat)(u v:Value):Kp w ((w.setCell ⟨g,i,none⟩ u).setCell ⟨g,j,none⟩ v) :=
 fun g' _ _ y=>y.same ((so _ _ v g' (y.neB x a)).trans (so w _ u g' (y.neB x a)))
theorem xG{w:World}{A:Option Addr}{n c:Nat}{l:List Nat}{i:Option Addr}{a j:Nat}{d:List Nat}(h:Wd w A n c l)(g:Wd w i a j d)(k:aX l)(b:aX d)(m:val l<=val d):n<=a:=by
 rcases Nat.lt_or_ge a n with f|f
 ·have:=eN b.1 k (by rw[<-h.2.1,<-g.2.1];exact f)
  omega
 exact f
theorem WD.m_len(a:WD):a.m.length<=a.mag.length:=by unfold WD.m;split<;>simp
theorem Wd.m_len{w:World}{A:Option Addr}{n c:Nat}{b:Bool}{l:List Nat}(h:Wd w A n c (WD.m ⟨b,l⟩)){N:Nat}(a:l.length<=N):n<=N:=by
 rw[h.2.1];exact Nat.le_trans (WD.m_len _) a
theorem C3{a b:WD}(h:a.s=b.s):a.z+b.z=sgn a.s (val a.m+val b.m):=by
 rw[a.z_eq,b.z_eq,<-h];cases a.s<;>simp[sgn];omega
theorem C4{a b:WD}(h:a.s≠b.s)(c:val b.m<=val a.m):a.z+b.z=sgn a.s (val a.m-val b.m):=by
 rw[a.z_eq,b.z_eq];cases ha:a.s<;>cases hb:b.s<;>simp_all[sgn]<;>omega
theorem C5{a b:WD}(h:a.s≠b.s)(c:val a.m<=val b.m):a.z+b.z=sgn b.s (val b.m-val a.m):=by
 rw[a.z_eq,b.z_eq];cases ha:a.s<;>cases hb:b.s<;>simp_all[sgn]<;>omega
theorem sC{x n N:Nat}(h:x<4294967296^n)(a:n<=N):(au x).length<=N:=Nat.le_trans (ay h) a
theorem Wd.vlt{w:World}{A:Option Addr}{n c:Nat}{l:List Nat}(h:Wd w A n c l){N:Nat}(a:n<=N):val l<4294967296^N :=
 Nat.lt_of_lt_of_le (dl h.1) (Nat.pow_le_pow_right (by omega) (by have:=h.2.1;omega))
theorem sD{x y n:Nat}(b:x<4294967296^n)(a:y<4294967296^n):x+y<4294967296^(n+1):=by rw[Nat.pow_succ];omega
theorem xH{w:World}{A:Option Addr}{n c:Nat}{l:List Nat}{g:Option Addr}{b i:Nat}{d:List Nat}{N M:Nat}(h:Wd w A n c l)(f:Wd w g b i d)(k:n<=N)(a:b<=N)(j:N+1<=M):(au (val l+val d)).length<=M :=
 sC (sD (h.vlt k) (f.vlt a)) j
theorem nX{w:World}{A:Option Addr}{n c:Nat}{l:List Nat}{f:Option Addr}{a g:Nat}{b:List Nat}{M:Nat}(h:Wd w A n c l)(d:Wd w f a g b)(i:n+a<=M):(au (val l*val b)).length<=M :=
 sC (Nat.lt_of_lt_of_eq (Nat.mul_lt_mul'' (h.vlt Qr) (d.vlt Qr)) (Nat.pow_add _ _ _).symm) i
theorem dV(w:World)(b:Bool)(A:Option Addr)(n c:Nat)(l:List Nat)(z:Int)(h:Wd w A n c l)(a:n<=1099511627776)(d:sgn b (val l)=z):
 Calls Tryz.prog 197 #[.bool b,.slice A n c] w (jU w (wh z)):=by subst d;exact pg w b A n c l h a
theorem tQ{a b:Nat}:(0<=bS a b)=(b<=a):=by
 unfold bS;split
 ·simp;omega
 split<;>simp<;>omega
end Go.Proofs.YtfilnhompchciaaGreatDoor
namespace Bn
theorem split_mul(s P:Nat):s%4294967296*P+s/4294967296*(P*4294967296)=s*P:=by
 have h:=Nat.div_add_mod s 4294967296
 have e:s/4294967296*(P*4294967296)=(4294967296*(s/4294967296))*P:=by
  rw[Nat.mul_comm P,<-Nat.mul_assoc,Nat.mul_comm (s/4294967296)]
 rw[e,<-Nat.add_mul,Nat.add_comm,h]

theorem jm{O A C c x y P:Nat}(h:O+c*P=A+C):(O+(c+x+y)%4294967296*P)+(c+x+y)/4294967296*(P*4294967296)=(A+x*P)+(C+y*P):=by
 have:=split_mul (c+x+y) P;rw[Nat.add_mul,Nat.add_mul]at this;omega

theorem mh{T a R c x y o Sb P Pi Pk:Nat}(h:T+c*P=R+x*Sb*Pi)(b:P=Pi*Pk)(f:a+o*P=T+(c+x*y+o)%4294967296*P):
 a+(c+x*y+o)/4294967296*(P*4294967296)=R+x*(Sb+y*Pk)*Pi:=by
 have d:=split_mul (c+x*y+o) P;rw[Nat.add_mul,Nat.add_mul]at d
 have e:x*(Sb+y*Pk)*Pi=x*Sb*Pi+x*y*P:=by
  subst b;grind
 rw[e];omega

theorem lb{O A C b x y a l P:Nat}(h:O+C=A+b*P)(c:l+y+b=x+a*4294967296):(O+l*P)+(C+y*P)=(A+x*P)+a*(P*4294967296):=by
 have e:a*(P*4294967296)=(a*4294967296)*P:=by grind
 have:(l+y+b)*P=(x+a*4294967296)*P:=by rw[c]
 rw[Nat.add_mul,Nat.add_mul,Nat.add_mul]at this;rw[e];omega

theorem mi{a V r b U:Nat}(h:U=b*V+r):a+4294967296*U=b*((r*4294967296+a)/b+4294967296*V)+(r*4294967296+a)%b:=by
 have:=Nat.div_add_mod (r*4294967296+a) b;rw[h,Nat.mul_add,Nat.mul_add];have e:b*(4294967296*V)=4294967296*(b*V):=by grind
 rw[e];omega

/-! ### Knuth's division -/
theorem xI{P v q top head D low third:Nat}(f:P=head*D+third)(h:third<D)(c:v=top*D+low)(b:q*v<=P)(a:0<top):q<=head/top:=by
 rw[Nat.le_div_iff_mul_le a]
 have g:q*top*D<=P:=by
  rw[c,Nat.mul_add]at b;have:q*(top*D)=q*top*D:=by grind
  omega
 have d:q*top*D<(head+1)*D:=by rw[Nat.add_mul];omega
 have:=Nat.lt_of_mul_lt_mul_right d;omega
end Bn
namespace Bn
theorem xJ{P v q top next head D low third d b a rest:Nat}(p:P=head*(D*4294967296)+d*D+b)(k:b<D)(i:v=top*(D*4294967296)+next*D+low)
 (f:a*top+rest=head) (g:q*v<=P) (c:rest*4294967296+d<a*next):q<a:=by
 have _:=third;rcases Nat.lt_or_ge q a with h|h
 ·exact h
 exfalso;have m:a*v<=P:=Nat.le_trans (Nat.mul_le_mul_right v h) g;have j:a*v=a*top*(D*4294967296)+a*next*D+a*low:=by rw[i];grind
 have o:(rest*4294967296+d+1)*D<=a*next*D:=Nat.mul_le_mul_right D c;have l:head*(D*4294967296)=a*top*(D*4294967296)+rest*(D*4294967296):=by rw[<-f,Nat.add_mul]
 have n:(rest*4294967296+d+1)*D=rest*(D*4294967296)+d*D+D:=by grind
 omega

theorem xK{P v q top next head D low c d a rest:Nat}(y:P=head*(D*4294967296)+c*D+d)(o:v=top*(D*4294967296)+next*D+low)(k:low<D)
 (m:a*top+rest=head) (p:P<(q+1)*v) (g:0<top) (f:a<=4294967296) (j:next<4294967296)
 (b:4294967296<=rest\/a*next<=rest*4294967296+c):a<=q+1:=by
 have i:a*next<=rest*4294967296+c:=by
  rcases b with h|h
  ·have n:a*next<=4294967296*next:=Nat.mul_le_mul_right _ f
   have l:4294967296*next<=4294967296*4294967296:=Nat.mul_le_mul_left _ (by omega);omega
  exact h
 rcases Nat.lt_or_ge (q+1) a with h|h
 ·exfalso
  have n:(q+1+1)*v<=a*v:=Nat.mul_le_mul_right v h;have l:a*v=a*top*(D*4294967296)+a*next*D+a*low:=by rw[o];grind
  have w:a*next*D<=(rest*4294967296+c)*D:=Nat.mul_le_mul_right D i;have r:head*(D*4294967296)=a*top*(D*4294967296)+rest*(D*4294967296):=by rw[<-m,Nat.add_mul]
  have t:(rest*4294967296+c)*D=rest*(D*4294967296)+c*D:=by grind
  have x:a*low<=4294967296*low:=Nat.mul_le_mul_right _ f;have s:(q+1+1)*v=(q+1)*v+v:=by grind
  have u:1*(D*4294967296)<=top*(D*4294967296):=Nat.mul_le_mul_right _ g;omega
 exact h

theorem qB{top head a rest:Nat}(b:head<(top+1)*4294967296)(f:a*top+rest=head)(c:4294967296<=a):rest<4294967296:=by
 rcases Nat.lt_or_ge rest 4294967296 with h|h
 ·exact h
 exfalso;have d:4294967296*top<=a*top:=Nat.mul_le_mul_right _ c;rw[Nat.add_mul]at b;omega
end Bn

/- Walks: sums, differences and products of lists of words. -/
namespace Go.Proofs.YtfilnhompchciaaGreatDoor
open Go Go.RowKit Bn
attribute [local go_sem ↓] Go.wp_at_zero Go.wp_at_succ

def xM(l l' L:List Nat)(i:Nat)(cr:Nat):Prop:=Wds L/\Sm (wd L) i+cr*4294967296^i=Sm (wd l) i+Sm (wd l') i
theorem xN(w:World)(A n c l)(q:Wd w A n c l)(hn:n<=1099511627776)(A' n' c' l')(m:Wd w A' n' c' l')(Q:n'<=1099511627776):
 Calls Tryz.prog 224 #[.slice A n c,.slice A' n' c'] w (gS w (au (val l+val l'))):=by
 have F:=Qh q.2.1;have g:=Qh m.2.1;obtain⟨M,C⟩:∃M,M=max n n'+1:=⟨_,rfl⟩;have j:=Qh C;have O:n<M:=by omega
 have R:n'<M:=by omega
 have K:M<=1099511627777:=by omega
 clear C;go_in;go_wp2_with (at_make;refine aQ _ rfl _ _ rfl _ _ _ _ M rfl rfl (by have:=j.out;omega) (by have:=j.out;omega) (by omega) ?_)
 all_goals
  go_loopw [6,17] (fun N v wr=>∃(k d:Nat) (L:List Nat),k<=M/\v=.int .i64 (k:Nat)/\N=.int .u64 (d:Nat)/\d<=1/\L.length=M/\xM l l' L k d/\Blk wr w.heap.size 58 (cellsOf L)/\Below w.heap.size w wr) (fun _ v _=>M-(intOf v).toNat)
  case atStart=>exact⟨0,0,List.replicate M 0,Nat.zero_le _,rfl,rfl,by omega,by simp,⟨by intro x h;rw[zD h];omega,by simp[Sm]⟩,Blk.new _ _ _,(kz _ _).alloc Qr _⟩
  case round =>
   obtain⟨k,d,L,Y,rfl,rfl,T,i,D,hB,a⟩:=hrel;have f:=Qh ((Kp.refl w).below a);have r:=Qh D;have o:=Qh hB;have b:=Qh i;clear D hB i;by_cases hkM:k<M
   ·obtain⟨x,y,h,u⟩:∃x y,wd l k=x/\wd l' k=y:=⟨_,_,rfl,rfl⟩
    have P:x<4294967296:=by rw[<-h];exact q.lt k
    have J:y<4294967296:=by rw[<-u];exact m.lt k
    have H:=Qh h;have E:=Qh u;have z:=o.out.cell k;rw[aE (by rw[b.out];exact hkM)]at z;have S:=o.out.frozen k;clear h u
    go_wp2_with (first
     |(go_at_call 250;(with_reducible refine(mf _ A n c l ?_ k x H.out (by omega)).mono ?_);exact q.keep f.out;rintro e I⟨rfl,rfl⟩)
     |(go_at_call 250;(with_reducible refine(mf _ A' n' c' l' ?_ k y E.out (by omega)).mono ?_);exact m.keep f.out;rintro e I⟨rfl,rfl⟩))
    go_roundw
    case rel =>
     have t:=jm (x:=x) (y:=y) r.out.2;refine⟨k+1,(d+x+y)/4294967296,L.set k ((d+x+y)%4294967296),by omega,by go_num,by go_num,by omega,by rw[xv];exact b.out,⟨wds_set r.out.1 _ (Nat.mod_lt _ (by omega)),?_⟩,o.out.setW k _ _ (by omega),a.setCell Qr _⟩;rw[cI _ _ _ (by rw[b.out];exact hkM),Sm,Sm,H.out,E.out,Nat.pow_succ];exact t
    case measure=>simp[intOf];omega
   have s:k=M:=by omega
   subst s
   have G:val L=val l+val l':=by
    have p:=r.out.2;have W:=dl q.1;have h3:=dl m.1;rw[bf L (by rw[b.out];exact Qr),bf l (by rw[<-F.out];omega),bf l' (by rw[<-g.out];omega)]at p;have Z:4294967296^l.length<=4294967296^(k-1):=Nat.pow_le_pow_right (by omega) (by rw[<-F.out];have:=j.out;omega);have h5:4294967296^l'.length<=4294967296^(k-1):=Nat.pow_le_pow_right (by omega) (by rw[<-g.out];have:=j.out;omega);have h6:4294967296^k=4294967296^(k-1)*4294967296:=by rw[<-Nat.pow_succ];congr 1;omega
    rcases (show d=0\/d=1 by omega) with rfl|rfl
    ·omega
    omega
   have U:=Qh G;clear G;go_wp2_with fail;refine(gB _ _ k k L ?_ ?_).mono ?_
   ·exact o.out.wdN r.out.1 b.out
   ·omega
   rintro e V⟨X,n1,c1,rfl,p,B⟩;go_wp2;go_ret;rw[U.out]at p;exact⟨_,_,_,rfl,p,a.trans (B.mono a.size)⟩

theorem nY{x y a:Nat}(l:x<4294967296)(k:y<4294967296)(j:a<=1){f b:Int}(i:IntKind.u64.wrap ((x:Int)-(y:Int))=f)(g:IntKind.u64.wrap (f-(a:Int))=b):
 ∃c d:Nat,c<=1/\d<4294967296/\b/9223372036854775808=(c:Int)/\b%4294967296=(d:Int)/\d+y+a=x+c*4294967296:=by
 rw[Hk]at i g;by_cases h:y+a<=x
 ·refine⟨0,x-y-a,by omega,by omega,by omega,by omega,by omega⟩
 refine⟨1,4294967296+x-y-a,by omega,by omega,by omega,by omega,by omega⟩
def xO(l l' L:List Nat)(i:Nat)(br:Nat):Prop:=Wds L/\Sm (wd L) i+Sm (wd l') i=Sm (wd l) i+br*4294967296^i
theorem C6(w:World)(A n c l)(I:Wd w A n c l)(hn:n<=1099511627776)(A' n' c' l')(C:Wd w A' n' c' l')(ad:n'<=n)(S:val l'<=val l):
 Calls Tryz.prog 257 #[.slice A n c,.slice A' n' c'] w (gS w (au (val l-val l'))):=by
 have W:=Qh I.2.1;have N:=Qh C.2.1;have HV:=Qh S;clear S;go_in;go_wp2_with (at_make;refine aQ _ rfl _ _ rfl _ _ _ _ n rfl rfl (by omega) (by omega) (by omega) ?_);go_loopw [6,14] (fun cv G wr=>∃(k f:Nat) (L:List Nat),k<=n/\G=.int .i64 (k:Nat)/\cv=.int .u64 (f:Nat)/\f<=1/\L.length=n/\xO l l' L k f/\Blk wr w.heap.size 58 (cellsOf L)/\Below w.heap.size w wr) (fun _ G _=>n-(intOf G).toNat)
 case atStart=>exact⟨0,0,List.replicate n 0,Nat.zero_le _,rfl,rfl,by omega,by simp,⟨by intro x h;rw[zD h];omega,by simp[Sm]⟩,Blk.new _ _ _,(kz _ _).alloc Qr _⟩
 case round =>
  obtain⟨k,f,L,hk,rfl,rfl,K,q,T,hB,a⟩:=hrel;have p:=Qh ((Kp.refl w).below a);have r:=Qh T;have t:=Qh hB;have b:=Qh q;clear T hB q;by_cases hkM:k<n
  ·obtain⟨g,o,rfl,Z,s⟩:=(I.keep p.out).at2 (by omega)
   have z:=s k hkM;obtain⟨x,y,h,M⟩:∃x y,wd l k=x/\wd l' k=y:=⟨_,_,rfl,rfl⟩;have J:x<4294967296:=by rw[<-h];exact I.lt k
   have v:y<4294967296:=by rw[<-M];exact C.lt k
   rw[h]at z;have HX:=Qh h;have R:=Qh M;have H:=t.out.cell k;rw[aE (by rw[b.out];exact hkM)]at H;have X:=t.out.frozen k;clear h M s;have ac:(0:Int)<=(k:Int):=by omega
   have ab:(k:Int)<(n:Int):=by omega
   have Y:IntKind.u64.wrap (x:Int)=(x:Int):=Gg _ ⟨by omega,by omega⟩;obtain⟨d1,m⟩:∃d,IntKind.u64.wrap ((x:Int)-(y:Int))=d:=⟨_,rfl⟩;obtain⟨d2,i⟩:∃d,IntKind.u64.wrap (d1-(f:Int))=d:=⟨_,rfl⟩;have U:=Qh (And.intro m i);go_wp2_with fail;go_quiet ((go_at_call 250;exact zZ (xC _ A' n' c' l' ((C.keep p.out).keep ((Kp.refl _).drewN _)) k y R.out (by omega))));clear m i Y;go_wp2;obtain⟨b',lo,O,F,P,E,hs⟩:=nY J v K U.out.1 U.out.2;go_roundw
   case rel =>
    refine⟨k+1,b',L.set k lo,by omega,by go_num,by rw[P],O,by rw[xv];exact b.out,⟨wds_set r.out.1 _ F,?_⟩,?_,?_⟩
    ·rw[cI _ _ _ (by rw[b.out];exact hkM),Sm,Sm,HX.out,R.out,Nat.pow_succ]
     exact lb r.out.2 hs
    ·exact(t.out.drewN _).setW k _ _ E
    exact(af a _).setCell Qr _
   case measure=>simp[intOf];omega
  have B:k=n:=by omega
  subst B
  have j:val L=val l-val l':=by
   have u:=r.out.2;have V:=dl r.out.1;have h3:=HV.out;rw[b.out]at V;rw[bf L (by rw[b.out];exact Qr),bf l (by rw[<-W.out];omega),bf l' (by rw[<-N.out];omega)]at u;rcases (show f=0\/f=1 by omega) with rfl|rfl
   ·omega
   omega
  have D:=Qh j;clear j;go_wp2_with fail;refine(gB _ _ k k L ?_ ?_).mono ?_
  ·exact t.out.wdN r.out.1 b.out
  ·omega
  rintro e w1⟨A1,n1,c1,rfl,u,Q⟩;go_wp2;go_ret;rw[D.out]at u;exact⟨_,_,_,rfl,u,a.trans (Q.mono a.size)⟩

theorem mj{x y o a:Nat}(j:x<4294967296)(h:y<4294967296)(g:o<4294967296)(i:a<4294967296){p q s:Int}(b:IntKind.u64.wrap ((x:Int)*(y:Int))=p)(d:IntKind.u64.wrap (p+(o:Int))=q)(f:IntKind.u64.wrap ((a:Int)+q)=s):
 s=((a+x*y+o:Nat):Int)/\(a+x*y+o)/4294967296<4294967296:=by
 rw[Hk]at b d f;have c:x*y<=4294967295*4294967295:=Nat.mul_le_mul (by omega) (by omega);have e:(x:Int)*(y:Int)=((x*y:Nat):Int):=by simp
 rw[e]at b;generalize x*y=z at *;omega
def xP(l l' L:List Nat)(N n' i:Nat):Prop:=Wds L/\(∀j,i+n'<=j->wd L j=0)/\Sm (wd L) N=Sm (wd l) i*val l'
def xQ(l l' L:List Nat)(N n' i x k cr:Nat):Prop:=Wds L/\(∀j,i+n'<=j->wd L j=0)/\Sm (wd L) N+cr*4294967296^(i+k)=Sm (wd l) i*val l'+x*Sm (wd l') k*4294967296^i
theorem tR(w:World)(A n c l)(wa:Wd w A n c l)(hn:n<=1099511627776)(A' n' c' l')(Y:Wd w A' n' c' l')(a2:n'<=1099511627776):
 Calls Tryz.prog 225 #[.slice A n c,.slice A' n' c'] w (gS w (au (val l*val l'))):=by
 have HL:=Qh wa.2.1;have aF:=Qh Y.2.1;go_in;go_wp2_with (at_make;refine aQ _ rfl _ _ rfl _ _ _ _ (n+n') rfl rfl (by omega) (by omega) (by omega) ?_);go_loopw [19] (fun iv wr=>∃(i:Nat) (L:List Nat),i<=n/\iv=.int .i64 (i:Nat)/\L.length=n+n'/\xP l l' L (n+n') n' i/\Blk wr w.heap.size 58 (cellsOf L)/\Below w.heap.size w wr) (fun iv _=>n-(intOf iv).toNat)
 case atStart =>
  refine⟨0,List.replicate (n+n') 0,Nat.zero_le _,rfl,by simp,⟨by intro x F;rw[zD F];omega,fun j _=>?_,?_⟩,Blk.new _ _ _,(kz _ _).alloc Qr _⟩
  ·unfold wd;by_cases G:j<n+n'<;>simp[List.getD,G]
  rw[Sm]
  have:∀m,Sm (wd (List.replicate (n+n') 0)) m=0:=by
   intro m
   induction m with
   |zero=>rfl
   |succ m ih =>
    rw[Sm,ih];unfold wd;by_cases G:m<n+n'<;>simp[List.getD,G]
  rw[this];simp
 case round =>
  obtain⟨i,L,hi,rfl,S,hI,hB,h⟩:=hrel;have al:=Qh ((Kp.refl w).below h);have T:=Qh hI;have HB:=Qh hB;have E:=Qh S;clear hI hB S;by_cases hkM:i<n
  ·obtain⟨g,o,rfl,aZ,U⟩:=(wa.keep al.out).at2 (by omega)
   have X:=U i hkM;obtain⟨x,F⟩:=Z9 (wd l i);have aC:x<4294967296:=by rw[<-F];exact wa.lt i
   rw[F]at X;have HX:=Qh F;clear F U;go_wp2_with fail;obtain⟨wo,K⟩:∃wo:World,wo=wr:=⟨_,rfl⟩;have a1:=Qh K;clear K;go_loopw [8,26] (fun cv kv w2=>∃(k t:Nat) (u:List Nat),k<=n'/\kv=.int .i64 (k:Nat)/\cv=.int .u64 (t:Nat)/\t<4294967296/\u.length=n+n'/\xQ l l' u (n+n') n' i x k t/\Blk w2 w.heap.size 58 (cellsOf u)/\Below w.heap.size w w2) (fun _ kv _=>n'-(intOf kv).toNat)
   case atStart=>exact⟨0,0,L,Nat.zero_le _,rfl,rfl,by omega,E.out,⟨T.out.1,T.out.2.1,by rw[T.out.2.2];simp[Sm]⟩,HB.out,h⟩
   case round =>
    obtain⟨k,t,u,hk,rfl,rfl,R,B,J,O,f⟩:=hrel;have H:=Qh ((Kp.refl w).below f);have b:=Qh J;have r:=Qh O;have a:=Qh B;clear J O B;by_cases v:k<n'
    ·obtain⟨g2,o2,rfl,aT,P⟩:=(Y.keep H.out).at2 (by omega)
     have an:=P k v;obtain⟨y,z,V,C⟩:∃y z,wd l' k=y/\wd u (i+k)=z:=⟨_,_,rfl,rfl⟩;have W:y<4294967296:=by rw[<-V];exact Y.lt k
     have ao:z<4294967296:=by rw[<-C];exact cf b.out.1 _
     rw[V]at an;have D:=r.out.cell (i+k);rw[aE (by rw[a.out];omega),C]at D;have ad:=r.out.frozen (i+k);have HY:=Qh V;have HZ:=Qh C;clear V C P;obtain⟨p,hp⟩:∃d,IntKind.u64.wrap ((x:Int)*(y:Int))=d:=⟨_,rfl⟩;obtain⟨q,hq⟩:∃d,IntKind.u64.wrap (p+(z:Int))=d:=⟨_,rfl⟩;obtain⟨s,hs⟩:∃d,IntKind.u64.wrap ((t:Int)+q)=d:=⟨_,rfl⟩;have HD:=Qh (mj aC W ao R hp hq hs);go_wp2;obtain⟨es,ac⟩:=HD.out;clear hp hq hs;go_roundw
     case rel =>
      refine⟨k+1,(t+x*y+z)/4294967296,u.set (i+k) ((t+x*y+z)%4294967296),by omega,by go_num,by rw[es];go_num,ac,by rw[xv];exact a.out,⟨wds_set b.out.1 _ (Nat.mod_lt _ (by omega)),?_,?_⟩,?_,f.setCell Qr _⟩
      ·intro j G;rw[cq,kl (by omega)];exact b.out.2.1 j G
      ·have Q:=eu u (i+k) ((t+x*y+z)%4294967296) (n+n') (by rw[a.out];omega) (by omega)
       rw[HZ.out]at Q;have ht:=mh (o:=z) (x:=x) (y:=y) (Sb:=Sm (wd l') k) (Pi:=4294967296^i) (Pk:=4294967296^k) b.out.2.2 (by rw[Nat.pow_add]) Q;rw[<-Nat.add_assoc,Nat.pow_succ,Sm,HY.out];exact ht
      exact r.out.setW (i+k) _ _ (by rw[es];omega)
     case measure=>simp[intOf];omega
    have M:k=n':=by omega
    have ab:=Qh M;have D:=r.out.cell (i+n');have C:wd u (i+n')=0:=b.out.2.1 _ (by omega);rw[aE (by rw[a.out];omega),C]at D;have ad:=r.out.frozen (i+n');have a0:n'<=k:=by omega
    clear M v C;go_wp2;go_roundw
    case rel =>
     refine⟨i+1,u.set (i+n') t,by omega,by go_num,by rw[xv];exact a.out,⟨wds_set b.out.1 _ R,?_,?_⟩,?_,f.setCell Qr _⟩
     ·intro j G;rw[cq,kl (by omega)];exact b.out.2.1 j (by omega)
     ·have Q:=eu u (i+n') t (n+n') (by rw[a.out];omega) (by omega)
      rw[b.out.2.1 _ (by omega),Nat.zero_mul,Nat.add_zero]at Q;have h2:=b.out.2.2;rw[ab.out,bf l' (by rw[<-aF.out];exact Qr)]at h2;rw[Q,h2,Sm,HX.out,Nat.add_mul];congr 1;rw[Nat.mul_assoc,Nat.mul_comm (val l'),<-Nat.mul_assoc]
     exact r.out.setW (i+n') _ _ rfl
    case measure=>simp[intOf];omega
  have v:i=n:=by omega
  subst v
  have I:val L=val l*val l':=by
   have N:=T.out.2.2;rw[bf L (by rw[E.out];exact Qr),bf l (by rw[<-HL.out];omega)]at N;exact N
  have Z:=Qh I;clear I;go_wp2_with fail;refine(gB _ _ (i+n') (i+n') L ?_ ?_).mono ?_
  ·exact HB.out.wdN T.out.1 E.out
  ·omega
  rintro e w1⟨A1,n1,c1,rfl,N,aS⟩;go_wp2;go_ret;rw[Z.out]at N;exact⟨_,_,_,rfl,N,h.trans (aS.mono h.size)⟩

theorem CB(a:WD):-a.z=sgn (!a.s) (val a.m):=by
 rw[a.z_eq];cases a.s<;>simp[sgn]
theorem CC(a b:WD):a.z*b.z=sgn (!(a.s==b.s)) (val a.m*val b.m):=by
 rw[a.z_eq,b.z_eq];cases a.s<;>cases b.s<;>simp[sgn,Ir,It]
theorem Et(w:World)(b:Bool)(A n c l)(g:Wd w A n c l)(J:n<=1099511627000):
 Calls Tryz.prog 190 #[.agg #[.bool b,.slice A n c]] w (jU w (wh (-WD.z ⟨b,l⟩))):=by
 have H:=Qh g.2.1;go_in;go_wp2_with fail;have b0:Below w.heap.size w ((w.alloc (.cells #[.bool b,.slice A n c] 194)).alloc (.cells #[.bool false,.slice none 0 0] 194)):=(((kz _ _).alloc Qr _).alloc (by simp) _);generalize a:((w.alloc (.cells #[.bool b,.slice A n c] 194)).alloc (.cells #[.bool false,.slice none 0 0] 194))=W0 at b0⊢;have G:W0.cell? ⟨w.heap.size,0,none⟩=some (.bool b):=by subst a;simp[go_sem]
 have Q:W0.frozen? ⟨w.heap.size,0,none⟩=false:=by subst a;simp[go_sem]
 have L:W0.cell? ⟨w.heap.size,1,none⟩=some (.slice A n c):=by subst a;simp[go_sem]
 have E:W0.frozen? ⟨w.heap.size,1,none⟩=false:=by subst a;simp[go_sem]
 have F:W0.cell? ⟨w.heap.size+1,0,none⟩=some (.bool false):=by subst a;simp[go_sem]
 have u:W0.frozen? ⟨w.heap.size+1,0,none⟩=false:=by subst a;simp[go_sem]
 have B:W0.cell? ⟨w.heap.size+1,1,none⟩=some (.slice none 0 0):=by subst a;simp[go_sem]
 have I:W0.frozen? ⟨w.heap.size+1,1,none⟩=false:=by subst a;simp[go_sem]
 have x0:Box W0 w.heap.size 194:=by subst a;exact(bT _ _ _ (by simp)).alloc _
 have O:Box W0 (w.heap.size+1) 194:=by subst a;exact bT _ _ _ (by simp)
 have p:j7 (w.heap.size+1) (w.heap.size+1+1) 2 W0:=by subst a;exact mg (by simp)
 have f:w.heap.size+1+1<=W0.heap.size:=by subst a;simp
 clear a;have g:=g.belw b0;have C:Below W0.heap.size W0 W0:=aa _;have d:w.heap.size+1<=w.heap.size+1+1:=by omega
 go_region_held3 (fun q=>Sees (w.heap.size+1) W0 q) (first|exact Sees.of (Nat.le_trans d f) (by assumption)|exact Sees.of (Nat.le_trans d f) (af (by assumption) _)|exact(Sees.set (Sees.of (Nat.le_trans d f) (by assumption)) (by simp))|exact(Sees.set (Sees.set (Sees.of (Nat.le_trans d f) (by assumption)) (by simp)) (by simp)))
  (first
   |(go_at_call 195;(with_reducible refine(fX _ b A n c l ?_ ?_).mono ?_);(exact g);(omega);rintro e R⟨rfl,h⟩;replace h:=ag (af (aa _) 1) h;have t:=ag C h;replace g:=g.belw h)
   |(go_at_call 194;(with_reducible refine(cU _ b A n c l ?_ ?_).mono ?_);(exact g);(omega);rintro e U⟨y,N,c1,rfl,k,j⟩;have K:=ag t j;replace g:=g.belw j)
   |(go_at_call 197;(with_reducible refine(dV _ (!WD.s ⟨b,l⟩) y N c1 (WD.m ⟨b,l⟩) (-WD.z ⟨b,l⟩) ?_ ?_ ?_).mono ?_);(exact k);(exact Nat.le_trans (k.m_len (by rw[<-H.out];exact J)) (by decide));(exact(CB _).symm);rintro e S⟨M,P,c2,rfl,r,i⟩;have o:=ag K i;replace g:=g.belw i;replace k:=k.belw i;obtain⟨⟨sc,T⟩,D,sz⟩:=bO.of (by omega) f p o))
 clear d;go_wp2_with fail;refine xD (v:=.agg #[.bool _,.slice M P c2]) (by simp[results,Tryz.results190,go_sem,D];rfl) rfl ?_;have x:=O.below o;refine km ?_ ?_ ?_
 ·rfl
 ·exact r.keep (kp2 x (by decide) _ _ _ _)
 exact((b0.trans (o.mono b0.size)).setCell (by dsimp only;omega) _).setCell (by dsimp only;omega) _
theorem Eu(w:World)(b:Bool)(A n c l)(f:Wd w A n c l)(G:n<=500000000000)(i:Bool)(A' n' c' l')(d:Wd w A' n' c' l')(y:n'<=500000000000):
 Calls Tryz.prog 199 #[.agg #[.bool b,.slice A n c],.agg #[.bool i,.slice A' n' c']] w (jU w (wh (WD.z ⟨b,l⟩*WD.z ⟨i,l'⟩))):=by
 have F:=Qh f.2.1;have B:=Qh d.2.1;go_in;go_wp2_with fail;have b0:Below w.heap.size w (((w.alloc (.cells #[.bool b,.slice A n c] 194)).alloc (.cells #[.bool i,.slice A' n' c'] 194)).alloc (.cells #[.bool false,.slice none 0 0] 194)):=((((kz _ _).alloc Qr _).alloc (by simp) _).alloc (by simp;omega) _);generalize a:(((w.alloc (.cells #[.bool b,.slice A n c] 194)).alloc (.cells #[.bool i,.slice A' n' c'] 194)).alloc (.cells #[.bool false,.slice none 0 0] 194))=W0 at b0⊢;have ad:W0.cell? ⟨w.heap.size,0,none⟩=some (.bool b):=by subst a;simp[go_sem]
 have R:W0.frozen? ⟨w.heap.size,0,none⟩=false:=by subst a;simp[go_sem]
 have an:W0.cell? ⟨w.heap.size,1,none⟩=some (.slice A n c):=by subst a;simp[go_sem]
 have ac:W0.frozen? ⟨w.heap.size,1,none⟩=false:=by subst a;simp[go_sem]
 have N:W0.cell? ⟨w.heap.size+1,0,none⟩=some (.bool i):=by subst a;simp[go_sem]
 have U:W0.frozen? ⟨w.heap.size+1,0,none⟩=false:=by subst a;simp[go_sem]
 have X:W0.cell? ⟨w.heap.size+1,1,none⟩=some (.slice A' n' c'):=by subst a;simp[go_sem]
 have O:W0.frozen? ⟨w.heap.size+1,1,none⟩=false:=by subst a;simp[go_sem]
 have ao:W0.cell? ⟨w.heap.size+1+1,0,none⟩=some (.bool false):=by subst a;simp[go_sem]
 have ab:W0.frozen? ⟨w.heap.size+1+1,0,none⟩=false:=by subst a;simp[go_sem]
 have al:W0.cell? ⟨w.heap.size+1+1,1,none⟩=some (.slice none 0 0):=by subst a;simp[go_sem]
 have H:W0.frozen? ⟨w.heap.size+1+1,1,none⟩=false:=by subst a;simp[go_sem]
 have x0:Box W0 w.heap.size 194:=by subst a;exact((bT _ _ _ (by simp)).alloc _).alloc _
 have x1:Box W0 (w.heap.size+1) 194:=by subst a;exact(bT _ _ _ (by simp)).alloc _
 have P:Box W0 (w.heap.size+1+1) 194:=by subst a;exact bT _ _ _ (by simp)
 have E:j7 (w.heap.size+1+1) (w.heap.size+1+1+1) 2 W0:=by subst a;exact mg (by simp)
 have j:w.heap.size+1+1+1<=W0.heap.size:=by subst a;simp
 clear a;have f:=f.belw b0;have d:=d.belw b0;have M:Below W0.heap.size W0 W0:=aa _;have h:w.heap.size+1+1<=w.heap.size+1+1+1:=by omega
 go_region_held3 (fun S=>Sees (w.heap.size+1+1) W0 S) (first|exact Sees.of (Nat.le_trans h j) (by assumption)|exact Sees.of (Nat.le_trans h j) (af (by assumption) _)|exact(Sees.set (Sees.of (Nat.le_trans h j) (by assumption)) (by simp))|exact(Sees.set (Sees.set (Sees.of (Nat.le_trans h j) (by assumption)) (by simp)) (by simp)))
  (first
   |(go_at_call 195;(with_reducible refine(fX _ b A n c l ?_ ?_).mono ?_);(exact f);(omega);rintro e w1⟨rfl,o⟩;replace o:=ag (af (aa _) 1) o;have T:=ag M o;replace f:=f.belw o;replace d:=d.belw o)
   |(go_at_call 195;(with_reducible refine(fX _ i A' n' c' l' ?_ ?_).mono ?_);(exact d);(omega);rintro e w2⟨rfl,t⟩;have r2:=ag T t;replace f:=f.belw t;replace d:=d.belw t)
   |(go_at_call 194;(with_reducible refine(cU _ b A n c l ?_ ?_).mono ?_);(exact f);(omega);rintro e w3⟨K,n1,c1,rfl,p,u⟩;have I:=ag r2 u;replace f:=f.belw u;replace d:=d.belw u)
   |(go_at_call 194;(with_reducible refine(cU _ i A' n' c' l' ?_ ?_).mono ?_);(exact d);(omega);rintro e w4⟨A2,W,c2,rfl,r,q⟩;have V:=ag I q;replace f:=f.belw q;replace d:=d.belw q;replace p:=p.belw q)
   |(go_at_call 225;(with_reducible refine(tR _ K n1 c1 (WD.m ⟨b,l⟩) ?_ ?_ A2 W c2 (WD.m ⟨i,l'⟩) ?_ ?_).mono ?_);(exact p);(exact Nat.le_trans (p.m_len (by rw[<-F.out];exact G)) (by decide));(exact r);(exact Nat.le_trans (r.m_len (by rw[<-B.out];exact y)) (by decide));rintro e w5⟨Q,J,c3,rfl,C,k⟩;have Z:=ag V k;replace f:=f.belw k;replace d:=d.belw k;replace p:=p.belw k;replace r:=r.belw k)
   |(go_at_call 197;(with_reducible refine(dV _ (!(WD.s ⟨b,l⟩==WD.s ⟨i,l'⟩)) Q J c3 (au (val (WD.m ⟨b,l⟩)*val (WD.m ⟨i,l'⟩))) (WD.z ⟨b,l⟩*WD.z ⟨i,l'⟩) ?_ ?_ ?_).mono ?_);(exact C);(rw[C.2.1];exact nX p r (Nat.le_trans (Nat.add_le_add (p.m_len (by rw[<-F.out];exact G)) (r.m_len (by rw[<-B.out];exact y))) (by decide)));(rw[ai];exact(CC _ _).symm);rintro e w6⟨A4,n4,c4,rfl,L,g⟩;have D:=ag Z g;replace f:=f.belw g;replace d:=d.belw g;replace p:=p.belw g;replace r:=r.belw g;replace C:=C.belw g;obtain⟨⟨sc,sf⟩,Y,sz⟩:=bO.of (by omega) j E D))
 clear h;go_wp2_with fail;refine xD (v:=.agg #[.bool _,.slice A4 n4 c4]) (by simp[results,Tryz.results199,go_sem,Y];rfl) rfl ?_;have x:=P.below D;refine km ?_ ?_ ?_
 ·rfl
 ·exact L.keep (kp2 x (by decide) _ _ _ _)
 exact((b0.trans (D.mono b0.size)).setCell (by dsimp only;omega) _).setCell (by dsimp only;omega) _

theorem kr(b:Bool)(n:Nat):(sgn b n).sign=if n=0 then 0 else if b then -1 else 1:=by
 unfold sgn;by_cases h0:n=0
 ·subst h0;cases b<;>rfl
 rw[kl h0];cases b
 ·exact FX (by simp;omega)
 exact F7 (by simp;omega)
theorem AP{a:WD}(h:a.m=[]):a.z.sign=0:=by rw[a.z_eq,kr,h];rfl
theorem AQ{a:WD}(hw:Wds a.mag)(h:a.m≠[]):a.z.sign=if a.neg then -1 else 1:=by
 have c:val a.m≠0:=fun e=>h ((dN (WD.canon_m hw)).1 e)
 rw[a.z_eq,kr,kl c];have b:a.ok=true:=by cases hk:a.ok<;>simp_all[WD.m]
 simp[WD.s,b]
def dD(x y:Int):Int:=if x<y then -1 else if x=y then 0 else 1
theorem ph{x y:Int}(h:x.sign<y.sign):dD x y=-1:=by
 unfold dD;rw[kZ];rcases GA x 0 with b|b|b<;>rcases GA y 0 with a|a|a<;>simp_all[F7,FX]<;>omega
theorem pi{x y:Int}(h:y.sign<x.sign):dD x y=1:=by
 have c:y<x:=by
  rcases GA x 0 with b|b|b<;>rcases GA y 0 with a|a|a<;>simp_all[F7,FX]<;>omega
 unfold dD;rw[kl (by omega),kl (by omega)]
theorem ve{a b:WD}(i:Wds a.mag)(hb:Wds b.mag)(h:a.z.sign=b.z.sign):dD a.z b.z=if a.s then -bS (val a.m) (val b.m) else bS (val a.m) (val b.m):=by
 have d:∀ {x:WD},Wds x.mag->val x.m=0->x.s=false:=by
  intro x f e;have c:=(dN (WD.canon_m f)).1 e;unfold WD.m at c;cases hk:x.ok
  ·simp[WD.s,hk]
  rw[hk,kZ rfl]at c;have:=((WD.ok_iff f).1 hk).2 c;simp[WD.s,this]
 rw[a.z_eq,b.z_eq]at h⊢;rw[kr,kr]at h;have j:=@d a i;have g:=@d b hb;by_cases h1:val a.m=0<;>by_cases h2:val b.m=0<;>cases hsa:a.s<;>cases hsb:b.s<;>simp_all[sgn,dD,bS]<;>(repeat' split)<;>omega
theorem AR(a b:Nat):-1<=bS a b/\bS a b<=1:=by
 unfold bS;split
 ·omega
 split<;>omega
theorem xR(w:World)(b:Bool)(A n c l)(f:Wd w A n c l)(J:n<=1099511627000):
 Calls Tryz.prog 192 #[.agg #[.bool b,.slice A n c]] w (av w (.int .i64 (WD.z ⟨b,l⟩).sign)):=by
 have I:=Qh f.2.1;have j:=f.1;by_cases q:(WD.m ⟨b,l⟩)=[]
 ·have o:=Qh q
  clear q;go_in;go_wp2_with fail;have b0:Below w.heap.size w (w.alloc (.cells #[.bool b,.slice A n c] 194)):=((kz _ _).alloc Qr _);generalize d:(w.alloc (.cells #[.bool b,.slice A n c] 194))=W0 at b0⊢;have x:W0.cell? ⟨w.heap.size,0,none⟩=some (.bool b):=by subst d;simp[go_sem]
  have B:W0.frozen? ⟨w.heap.size,0,none⟩=false:=by subst d;simp[go_sem]
  have y:W0.cell? ⟨w.heap.size,1,none⟩=some (.slice A n c):=by subst d;simp[go_sem]
  have v:W0.frozen? ⟨w.heap.size,1,none⟩=false:=by subst d;simp[go_sem]
  have x0:Box W0 w.heap.size 194:=by subst d;exact bT _ _ _ (by simp)
  have i:j7 (w.heap.size+1) (w.heap.size+1) 0 W0:=fun b p D=>by omega
  have h:w.heap.size+1<=W0.heap.size:=by subst d;simp
  clear d;have f:=f.belw b0;have s:Below W0.heap.size W0 W0:=aa _
  go_wp2_with (first
   |(go_at_call 194;(with_reducible refine(cU _ b A n c l ?_ ?_).mono ?_);(exact f);(omega);rintro e C⟨E,r,c1,rfl,p,g⟩;have F:((r:Int)==0)=true:=(by have:=p.2.1;rw[o.out]at this;simp at this;simp[this]);have k:=ag s g;replace f:=f.belw g;(try clear sc u t sz);obtain⟨⟨sc,u⟩,t,sz⟩:=bO.of (by omega) h i k))
  go_ret;refine cF ?_ (b0.trans (k.mono b0.size));rw[AP o.out]
 have o:=Qh q;clear q;go_in;go_wp2_with fail;have b0:Below w.heap.size w (w.alloc (.cells #[.bool b,.slice A n c] 194)):=((kz _ _).alloc Qr _);generalize d:(w.alloc (.cells #[.bool b,.slice A n c] 194))=W0 at b0⊢;have x:W0.cell? ⟨w.heap.size,0,none⟩=some (.bool b):=by subst d;simp[go_sem]
 have B:W0.frozen? ⟨w.heap.size,0,none⟩=false:=by subst d;simp[go_sem]
 have y:W0.cell? ⟨w.heap.size,1,none⟩=some (.slice A n c):=by subst d;simp[go_sem]
 have v:W0.frozen? ⟨w.heap.size,1,none⟩=false:=by subst d;simp[go_sem]
 have x0:Box W0 w.heap.size 194:=by subst d;exact bT _ _ _ (by simp)
 have i:j7 (w.heap.size+1) (w.heap.size+1) 0 W0:=fun b p D=>by omega
 have h:w.heap.size+1<=W0.heap.size:=by subst d;simp
 clear d;have f:=f.belw b0;have s:Below W0.heap.size W0 W0:=aa _
 go_wp2_with (first
  |(go_at_call 194;(with_reducible refine(cU _ b A n c l ?_ ?_).mono ?_);(exact f);(omega);rintro e C⟨E,r,c1,rfl,p,g⟩;have F:((r:Int)==0)=false:=(by have:=p.2.1;have G:=o.out;have H:r≠0:=(fun e=>G (lq (by omega)));simp;omega);have k:=ag s g;replace f:=f.belw g;(try clear sc u t sz);obtain⟨⟨sc,u⟩,t,sz⟩:=bO.of (by omega) h i k))
 all_goals go_ret
 all_goals refine cF ?_ (b0.trans (k.mono b0.size))
 all_goals rw[AQ (a:=⟨b,l⟩) j o.out];simp_all
theorem xS(w:World)(b:Bool)(A:Option Addr)(n c:Nat)(l:List Nat)(s:Int)(a:Wd w A n c l)(f:n<=1099511627000)(d:(WD.z ⟨b,l⟩).sign=s):
 Calls Tryz.prog 192 #[.agg #[.bool b,.slice A n c]] w (av w (.int .i64 s)):=by subst d;exact xR w b A n c l a f
theorem gV(w:World)(b:Bool)(A:Option Addr)(n c:Nat)(l:List Nat)(s:Bool)(a:Wd w A n c l)(f:n<=1099511627776)(d:WD.s ⟨b,l⟩=s):
 Calls Tryz.prog 195 #[.agg #[.bool b,.slice A n c]] w (av w (.bool s)):=by subst d;exact fX w b A n c l a f
theorem vf(w:World)(A n c l)(h:Wd w A n c l)(i:n<=1099511627776)(A' n' c' l')(f:Wd w A' n' c' l')(a:n'<=1099511627776)(g:aX l)(b:aX l')(k:Int)(d:bS (val l) (val l')=k):
 Calls Tryz.prog 193 #[.slice A n c,.slice A' n' c'] w (av w (.int .i64 k)):=by subst d;exact jl w A n c l h i A' n' c' l' f a g b
theorem Ew(w:World)(b:Bool)(A n c l)(g:Wd w A n c l)(hn:n<=1099511627000)(o:Bool)(A' n' c' l')(h:Wd w A' n' c' l')(V:n'<=1099511627000):
 Calls Tryz.prog 152 #[.agg #[.bool b,.slice A n c],.agg #[.bool o,.slice A' n' c']] w (av w (.int .i64 (dD (WD.z ⟨b,l⟩) (WD.z ⟨o,l'⟩)))):=by
 have HL:=Qh g.2.1;have X:=Qh h.2.1;have W:=g.1;have T:=h.1;have O:aX (WD.m ⟨b,l⟩):=WD.canon_m g.1;have N:aX (WD.m ⟨o,l'⟩):=WD.canon_m h.1;obtain⟨sa,L⟩:∃s,(WD.z ⟨b,l⟩).sign=s:=⟨_,rfl⟩;obtain⟨sb,M⟩:∃s,(WD.z ⟨o,l'⟩).sign=s:=⟨_,rfl⟩;have F:=Qh L;have B:=Qh M;clear L M;go_in;go_wp2_with fail;have b0:Below w.heap.size w ((w.alloc (.cells #[.bool b,.slice A n c] 194)).alloc (.cells #[.bool o,.slice A' n' c'] 194)):=(((kz _ _).alloc Qr _).alloc (by simp) _);generalize d:((w.alloc (.cells #[.bool b,.slice A n c] 194)).alloc (.cells #[.bool o,.slice A' n' c'] 194))=W0 at b0⊢;have aF:W0.cell? ⟨w.heap.size,0,none⟩=some (.bool b):=by subst d;simp[go_sem]
 have ad:W0.frozen? ⟨w.heap.size,0,none⟩=false:=by subst d;simp[go_sem]
 have aS:W0.cell? ⟨w.heap.size,1,none⟩=some (.slice A n c):=by subst d;simp[go_sem]
 have aC:W0.frozen? ⟨w.heap.size,1,none⟩=false:=by subst d;simp[go_sem]
 have ab:W0.cell? ⟨w.heap.size+1,0,none⟩=some (.bool o):=by subst d;simp[go_sem]
 have an:W0.frozen? ⟨w.heap.size+1,0,none⟩=false:=by subst d;simp[go_sem]
 have ao:W0.cell? ⟨w.heap.size+1,1,none⟩=some (.slice A' n' c'):=by subst d;simp[go_sem]
 have ac:W0.frozen? ⟨w.heap.size+1,1,none⟩=false:=by subst d;simp[go_sem]
 have x0:Box W0 w.heap.size 194:=by subst d;exact(bT _ _ _ (by simp)).alloc _
 have x1:Box W0 (w.heap.size+1) 194:=by subst d;exact bT _ _ _ (by simp)
 have D:j7 (w.heap.size+1+1) (w.heap.size+1+1) 0 W0:=fun b q v=>by omega
 have i:w.heap.size+1+1<=W0.heap.size:=by subst d;simp
 clear d;have g:=g.belw b0;have h:=h.belw b0;have r0:Below W0.heap.size W0 W0:=aa _;have j:w.heap.size+1+1<=w.heap.size+1+1:=by omega
 go_region_held3 (fun R=>Sees (w.heap.size+1+1) W0 R) (first|exact Sees.of (Nat.le_trans j i) (by assumption)|exact Sees.of (Nat.le_trans j i) (af (by assumption) _))
  (first
   |(go_at_call 192;(with_reducible refine(xS _ b A n c l sa ?_ ?_ ?_).mono ?_);(exact g);(omega);(exact F.out);rintro e w1⟨rfl,t⟩;replace t:=ag (af (aa _) 1) t;have r1:=ag r0 t;replace g:=g.belw t;replace h:=h.belw t)
   |(go_at_call 192;(with_reducible refine(xS _ o A' n' c' l' sb ?_ ?_ ?_).mono ?_);(exact h);(omega);(exact B.out);rintro e w2⟨rfl,G⟩;have Q:=ag r1 G;replace g:=g.belw G;replace h:=h.belw G))
 obtain⟨⟨sc,H⟩,I,sz⟩:=bO.of (by omega) i D Q;clear j;by_cases p:sa=sb
 ·have J:=Qh (ve (a:=⟨b,l⟩) (b:=⟨o,l'⟩) W T (by rw[F.out,B.out];exact p))
  subst p;obtain⟨k,S⟩:=Z9 (bS (val (WD.m ⟨b,l⟩)) (val (WD.m ⟨o,l'⟩)));have al:-1<=k/\k<=1:=by rw[<-S];exact AR _ _
  have Y:=Qh S;clear S;go_wp2_with fail;clear sc H I sz;have j:w.heap.size+1+1<=w.heap.size+1+1:=by omega
  go_region_held3 (fun R=>Sees (w.heap.size+1+1) W0 R) (first|exact Sees.of (Nat.le_trans j i) (by assumption)|exact Sees.of (Nat.le_trans j i) (af (by assumption) _))
   (first
    |(go_at_call 194;(with_reducible refine(cU _ b A n c l ?_ ?_).mono ?_);(exact g);(omega);rintro e w3⟨A1,n1,c1,rfl,q,u⟩;replace u:=ag (af (aa _) 1) u;have r3:=ag Q u;replace g:=g.belw u;replace h:=h.belw u)
    |(go_at_call 194;(with_reducible refine(cU _ o A' n' c' l' ?_ ?_).mono ?_);(exact h);(omega);rintro e w4⟨A2,n2,c2,rfl,v,E⟩;have r4:=ag r3 E;replace g:=g.belw E;replace h:=h.belw E;replace q:=q.belw E)
    |(go_at_call 193;(with_reducible refine(vf _ A1 n1 c1 (WD.m ⟨b,l⟩) ?_ ?_ A2 n2 c2 (WD.m ⟨o,l'⟩) ?_ ?_ O N k ?_).mono ?_);(exact q);(exact Nat.le_trans (q.m_len (by rw[<-HL.out];exact hn)) (by decide));(exact v);(exact Nat.le_trans (v.m_len (by rw[<-X.out];exact V)) (by decide));(exact Y.out);rintro e w5⟨rfl,r⟩;have U:=ag r4 r;replace g:=g.belw r;replace h:=h.belw r;replace q:=q.belw r;replace v:=v.belw r))
  obtain⟨⟨sc,H⟩,I,sz⟩:=bO.of (by omega) i D U;clear j;obtain⟨s,Z⟩:=Z9 (WD.s ⟨b,l⟩);have P:=Qh Z;clear Z;cases s
  ·go_wp2_with (first
    |(go_at_call 195;(with_reducible refine(gV _ b A n c l false ?_ ?_ ?_).mono ?_);(exact g);(omega);(exact P.out);rintro e w6⟨rfl,f⟩;have K:=ag U f;replace g:=g.belw f;replace h:=h.belw f;replace q:=q.belw f;replace v:=v.belw f;(try clear sc H I sz);obtain⟨⟨sc,H⟩,I,sz⟩:=bO.of (by omega) i D K))
   go_ret;refine cF ?_ (b0.trans (K.mono b0.size));rw[J.out,P.out,Y.out];rfl
  have hw:IntKind.i64.wrap (-k)=-k:=ty _ ⟨by omega,by omega⟩
  go_wp2_with (first
   |(go_at_call 195;(with_reducible refine(gV _ b A n c l true ?_ ?_ ?_).mono ?_);(exact g);(omega);(exact P.out);rintro e w6⟨rfl,f⟩;have K:=ag U f;replace g:=g.belw f;replace h:=h.belw f;replace q:=q.belw f;replace v:=v.belw f;(try clear sc H I sz);obtain⟨⟨sc,H⟩,I,sz⟩:=bO.of (by omega) i D K))
  go_ret;refine cF ?_ (b0.trans (K.mono b0.size));rw[J.out,P.out,Y.out];rfl
 by_cases C:sa<sb
 ·have J:=Qh (ph (x:=WD.z ⟨b,l⟩) (y:=WD.z ⟨o,l'⟩) (by rw[F.out,B.out];exact C))
  have e1:(sa==sb)=false:=by simp[p]
  have e2:decide (sa<sb)=true:=by simp[C]
  clear p C;go_wp2;go_ret;refine cF ?_ (b0.trans (Q.mono b0.size));rw[J.out]
 have J:=Qh (pi (x:=WD.z ⟨b,l⟩) (y:=WD.z ⟨o,l'⟩) (by rw[F.out,B.out];omega));have e1:(sa==sb)=false:=by simp[p]
 have e2:decide (sa<sb)=false:=by simp;omega
 clear p C;go_wp2;go_ret;refine cF ?_ (b0.trans (Q.mono b0.size));rw[J.out]

theorem qC(r x:Nat)(a:x<4294967296):r*4294967296 ||| x=r*4294967296+x:=by
 have:=Nat.two_pow_add_eq_or_of_lt (i:=32) (b:=x) (by simpa using a) r;simp at this;rw[Nat.mul_comm];exact this.symm
theorem jn{r x:Nat}(b:r<4294967296)(a:x<4294967296):bits .or .u64 ((r:Int)*4294967296) (x:Int)=((r*4294967296+x:Nat):Int):=by
 have e:(r:Int)*4294967296=((r*4294967296:Nat):Int):=by simp
 rw[e,u64_or_nat _ _ (by omega) (by omega),qC r x a]
theorem iM(l:List Nat){k:Nat}(h:k<l.length):val (l.drop k)=wd l k+4294967296*val (l.drop (k+1)):=by
 rw[Gp h,val,mc h]
theorem jY(l:List Nat)(k x:Nat):(l.set k x).drop (k+1)=l.drop (k+1):=by
 rw[List.drop_set_of_lt (by omega)]
def xT(l L:List Nat)(b k r:Nat):Prop:=Wds L/\r<b/\val (l.drop k)=b*val (L.drop k)+r
theorem tS(w:World)(A n c l)(E:Wd w A n c l)(hn:n<=1099511627776)(b:Nat)(f:0<b)(ac:b<4294967296):
 Calls Tryz.prog 220 #[.slice A n c,.int .u32 (b:Nat)] w fun e M=>∃D I c1,e=.returned (.tuple #[.slice D I c1,.int .u32 ((val l%b:Nat):Int)])/\Wd M D I c1 (au (val l/b))/\Below w.heap.size w M:=by
 have Q:=Qh E.2.1;go_in;go_wp2_with (at_make;refine aQ _ rfl _ _ rfl _ _ _ _ n rfl rfl (by omega) (by omega) (by omega) ?_);go_loopw [7,8] (fun Y J wr=>∃(k r:Nat) (L:List Nat),k<=n/\J=.int .i64 ((k:Int)-1)/\Y=.int .u64 (r:Nat)/\r<b/\L.length=n/\xT l L b k r/\Blk wr w.heap.size 58 (cellsOf L)/\Below w.heap.size w wr) (fun _ J _=>(intOf J+1).toNat)
 case atStart=>exact⟨n,0,List.replicate n 0,Qr,rfl,rfl,f,by simp,⟨by intro x i;rw[zD i];omega,f,by rw[Q.out];simp[val]⟩,Blk.new _ _ _,(kz _ _).alloc Qr _⟩
 case round =>
  obtain⟨k,r,L,hk,rfl,rfl,Z,q,P,hB,a⟩:=hrel;have C:=Qh ((Kp.refl w).below a);have j:=Qh P;have y:=Qh hB;have d:=Qh q;clear P hB q;by_cases m:k=0
  ·subst m
   have z:=j.out.2.2;simp only[Gl]at z
   have O:val l/b=val L:=by
    rw[z,Nat.mul_add_div f,Nat.div_eq_of_lt j.out.2.1,Nat.add_zero]
   have S:val l%b=r:=by rw[z];rw[Nat.mul_add_mod];exact Nat.mod_eq_of_lt j.out.2.1
   have N:=Qh (And.intro O S);have U:r<4294967296:=by omega
   clear O S z;go_wp2_with fail;refine(gB _ _ n n L ?_ ?_).mono ?_
   ·exact y.out.wdN j.out.1 d.out
   ·omega
   rintro e w1⟨D,I,c1,rfl,T,H⟩;go_wp2;go_ret2;rw[N.out.1,N.out.2];exact⟨_,_,_,rfl,T,a.trans (H.mono a.size)⟩
  obtain⟨g,o,rfl,ad,u⟩:=(E.keep C.out).at2 (by omega);have B:=u (k-1) (by omega);obtain⟨x,i⟩:=Z9 (wd l (k-1));have F:x<4294967296:=by rw[<-i];exact E.lt _
  rw[i]at B;have HX:=Qh i;have K:=y.out.cell (k-1);rw[aE (by rw[d.out];omega)]at K;have ab:=y.out.frozen (k-1);have al:0<k:=by omega
  obtain⟨s,G⟩:∃s:Nat,s=r*4294967296+x:=⟨_,rfl⟩;have e1:bits .or .u64 ((r:Int)*4294967296) (x:Int)=(s:Int):=by rw[G];exact jn (by omega) F
  have R:=Qh G
  have p:s/b<4294967296:=by
   rw[Nat.div_lt_iff_lt_mul f,R.out];have:(r+1)*4294967296<=b*4294967296:=Nat.mul_le_mul_right _ Z;rw[Nat.add_mul]at this;rw[Nat.mul_comm 4294967296];omega
  obtain⟨t,v⟩:∃t:Nat,s/b=t:=⟨_,rfl⟩;rw[v]at p
  have X:IntKind.u64.wrap ((s:Int)/(b:Int))=(t:Int):=by
   have W:((s/b:Nat):Int)=(s:Int)/(b:Int):=by simp
   rw[<-W,v];exact Gg _ ⟨by omega,by omega⟩
  have V:=Qh v;clear i u m G v;go_wp2;clear e1 X;have h:s%b<b:=Nat.mod_lt _ f;go_roundw
  case rel =>
   refine⟨k-1,s%b,L.set (k-1) t,by omega,by go_num,by simp,h,by rw[xv];exact d.out,⟨wds_set j.out.1 _ p,h,?_⟩,?_,a.setCell Qr _⟩
   ·rw[iM l (by rw[<-Q.out];omega),iM (L.set (k-1) t) (by rw[xv,d.out];omega),jY,show k-1+1=k by omega,HX.out,cq,kZ ⟨rfl,by rw[d.out];omega⟩,<-V.out,R.out]
    exact mi j.out.2.2
   exact y.out.setW (k-1) _ _ (by omega)
  case measure=>simp[intOf];omega

theorem AU{x q q2:Nat}(a:x<4294967296)(h:q+1*4294967296<=q2):x+q<q2:=by omega
theorem AV{a b x c:Nat}(h:a=c+b):a+x=x+b+c:=by omega
theorem vg{x y m:Nat}(j:x<4294967296)(n:y<4294967296)(o:m<32){s:Int}(i:bits .or .u64 (x:Int) ((y:Int)*4294967296)=s):
 ∃v:Nat,IntKind.u32.wrap (s/2^m)=(v:Int)/\v<4294967296/\v*2^m+x%2^m=x+y%2^m*4294967296:=by
 have e:(y:Int)*4294967296=((y*4294967296:Nat):Int):=by simp
 rw[e,u64_or_nat _ _ (by omega) (by omega),Nat.or_comm,qC y x j]at i;have a:0<2^m:=Nat.pow_pos (by omega)
 have g:4294967296=2^m*2^(32-m):=by
  rw[<-Nat.pow_add,show m+(32-m)=32 by omega]
 have d:=Nat.div_add_mod y (2^m)
 have h:y*4294967296+x=(x+y%2^m*4294967296)+2^m*(y/2^m*4294967296):=by
  have b:y*4294967296=(2^m*(y/2^m)+y%2^m)*4294967296:=by rw[d]
  rw[Nat.add_mul,Nat.mul_assoc]at b;exact AV b
 have c:(x+y%2^m*4294967296)/2^m<4294967296:=by
  rw[Nat.div_lt_iff_lt_mul a];have b:y%2^m+1<=2^m:=Nat.mod_lt _ a;have f:(y%2^m+1)*4294967296<=2^m*4294967296:=Nat.mul_le_mul_right _ b;rw[Nat.add_mul]at f;rw[Nat.mul_comm 4294967296];exact AU j f
 refine⟨(x+y%2^m*4294967296)/2^m,?_,c,?_⟩
 ·rw[<-i,h]
  have k:((((x+y%2^m*4294967296)+2^m*(y/2^m*4294967296):Nat):Int))/2^m=((((x+y%2^m*4294967296)+2^m*(y/2^m*4294967296))/2^m:Nat):Int):=by simp
  rw[k,Nat.add_mul_div_left _ _ a,IntKind.wrap_u32];have l:((((x+y%2^m*4294967296)/2^m+y/2^m*4294967296:Nat):Int))%4294967296=((((x+y%2^m*4294967296)/2^m+y/2^m*4294967296)%4294967296:Nat):Int):=by simp
  rw[l,Nat.add_mul_mod_self_right,Nat.mod_eq_of_lt c]
 have b:=Nat.div_add_mod (x+y%2^m*4294967296) (2^m)
 have f:(x+y%2^m*4294967296)%2^m=x%2^m:=by
  have:y%2^m*4294967296=2^m*(y%2^m*2^(32-m)):=by
   conv=>lhs;rw[g]
   rw[Nat.mul_left_comm]
  rw[this,Nat.add_mul_mod_self_left]
 rw[f,Nat.mul_comm]at b;exact b
theorem xU{d SM f P c v M x b PB a:Nat}(h:d*M+f=SM+c*P)(g:v*M+c=x+b)(k:b*P=a):(d+v*P)*M+f=SM+x*P+a:=by
 have j:(v*M+c)*P=(x+b)*P:=by rw[g]
 rw[Nat.add_mul,Nat.add_mul]at j;have i:v*P*M=v*M*P:=by rw[Nat.mul_assoc,Nat.mul_comm P,<-Nat.mul_assoc]
 have _:=PB;rw[Nat.add_mul,i];omega
def Ex(l L:List Nat)(m k:Nat):Prop:=Wds L/\Sm (wd L) k*2^m+val l%2^m=Sm (wd l) k+wd l k%2^m*4294967296^k
theorem C7(w:World)(A n c l)(i:Wd w A n c l)(hn:n<=1099511627776)(m:Nat)(hm:m<32):
 Calls Tryz.prog 233 #[.slice A n c,.int .i64 (m:Nat)] w (gS w (au (val l/2^m))):=by
 have Q:=Qh i.2.1;go_in;go_wp2_with (at_make;refine aQ _ rfl _ _ rfl _ _ _ _ n rfl rfl (by omega) (by omega) (by omega) ?_);go_loopw [12] (fun H wr=>∃(k:Nat) (L:List Nat),k<=n/\H=.int .i64 (k:Nat)/\L.length=n/\Ex l L m k/\Blk wr w.heap.size 58 (cellsOf L)/\Below w.heap.size w wr) (fun H _=>n-(intOf H).toNat)
 case atStart =>
  refine⟨0,List.replicate n 0,Nat.zero_le _,rfl,by simp,⟨by intro x h;rw[zD h];omega,?_⟩,Blk.new _ _ _,(kz _ _).alloc Qr _⟩
  have d:val l=wd l 0+4294967296*val (l.drop 1):=by
   by_cases h0:0<l.length
   ·have:=iM l h0;simpa using this
   have:l=[]:=lq (by omega);subst this;simp[val,wd]
  have E:4294967296=2^m*2^(32-m):=by
   rw[<-Nat.pow_add,show m+(32-m)=32 by omega]
  have O:val l%2^m=wd l 0%2^m:=by
   rw[d]
   conv=>lhs;rw[E]
   rw[Nat.mul_assoc,Nat.add_mul_mod_self_left]
  simp[Sm,O]
 case round =>
  obtain⟨k,L,hk,rfl,q,S,hB,a⟩:=hrel;have p:=Qh ((Kp.refl w).below a);have z:=Qh S;have u:=Qh hB;have b:=Qh q;clear S hB q;by_cases hkn:k<n
  ·obtain⟨g,o,rfl,W,_⟩:=i.at2 (by omega)
   obtain⟨g2,o2,F,ab,r⟩:=(i.keep p.out).at2 (by omega);injection F with F;injection F with eg1 eg2;subst eg1;subst eg2;have C:=r k hkn;obtain⟨x,y,h,M⟩:∃x y,wd l k=x/\wd l (k+1)=y:=⟨_,_,rfl,rfl⟩;have K:x<4294967296:=by rw[<-h];exact i.lt _
   have B:y<4294967296:=by rw[<-M];exact i.lt _
   rw[h]at C;have I:=u.out.cell k;rw[aE (by rw[b.out];omega)]at I;have Y:=u.out.frozen k;have U:=Qh h;have P:=Qh M;have ad:(0:Int)<=(k:Int):=by omega
   have ac:(k:Int)<(n:Int):=by omega
   have V:IntKind.i64.wrap ((k:Int)+1)=((k+1:Nat):Int):=by rw[ty _ ⟨by omega,by omega⟩];simp
   have Z:IntKind.u64.wrap (x:Int)=(x:Int):=Gg _ ⟨by omega,by omega⟩;have X:IntKind.u64.wrap ((y:Int)*4294967296)=(y:Int)*4294967296:=Gg _ ⟨by omega,by omega⟩;obtain⟨s,T⟩:=Z9 (bits .or .u64 (x:Int) ((y:Int)*4294967296));have HS:=Qh T;clear h M r;go_wp2_with fail
   go_region_held3 (fun R=>R.cell? ⟨g,o+k,none⟩=some (.int .u32 x)) (first|assumption|(simp[*];done)|(simp[*,go_sem];done))
    (first
     |(go_at_call 250;(refine(mf _ (some ⟨g,o,none⟩) n c l ?_ (k+1) y P.out (by omega)).mono ?_);exact(i.keep p.out).keep ((Kp.refl _).drew);rintro e R⟨rfl,rfl⟩))
   clear T V Z X;go_wp2;obtain⟨v,ev,J,hv⟩:=vg K B hm HS.out;go_roundw
   case rel =>
    refine⟨k+1,L.set k v,by omega,by go_num,by rw[xv];exact b.out,⟨wds_set z.out.1 _ J,?_⟩,(u.out.setW k _ _ ev).drew,(a.setCell Qr _).drew⟩;rw[cI _ _ _ (by rw[b.out];exact hkn),Sm,U.out,P.out];have t:=z.out.2;rw[U.out]at t;exact xU (PB:=0) t hv (by rw[Nat.pow_succ,Nat.mul_assoc,Nat.mul_comm 4294967296])
   case measure=>simp[intOf];omega
  have D:k=n:=by omega
  subst D
  have j:val L=val l/2^m:=by
   have d:=z.out.2;rw[bf L (by rw[b.out];exact Qr),bf l (by rw[<-Q.out];omega),fV (by rw[<-Q.out];omega)]at d;have f:0<2^m:=Nat.pow_pos (by omega);have O:=Nat.mod_lt (val l) f;simp at d;have t:val l=2^m*val L+val l%2^m:=by rw[Nat.mul_comm];exact d.symm
   rw[t,Nat.mul_add_div f,Nat.div_eq_of_lt (Nat.mod_lt _ f)];simp
  have G:=Qh j;clear j;go_wp2_with fail;refine(gB _ _ k k L ?_ ?_).mono ?_
  ·exact u.out.wdN z.out.1 b.out
  ·omega
  rintro e w1⟨A1,n1,c1,rfl,d,N⟩;go_wp2;go_ret;rw[G.out]at d;exact⟨_,_,_,rfl,d,a.trans (N.mono a.size)⟩

theorem AW{x z m:Nat}(n:x<4294967296)(o:m<32)(k:z<2^m):
 bits .or .u32 (z:Int) (IntKind.u64.wrap ((x:Int)*2^m)%4294967296)=((z+x*2^m%4294967296:Nat):Int) /\
 IntKind.u64.wrap ((x:Int)*2^m)/4294967296%4294967296=((x*2^m/4294967296:Nat):Int) /\
 z+x*2^m%4294967296<4294967296/\x*2^m/4294967296<2^m:=by
 have e:(x:Int)*2^m=((x*2^m:Nat):Int):=by simp
 have l:2^m<=2^31:=Nat.pow_le_pow_right (by omega) (by omega);have b:0<2^m:=Nat.pow_pos (by omega);have hb:x*2^m<=4294967295*2^31:=Nat.mul_le_mul (by omega) l;have g:x*2^m<4294967296*2^m:=Nat.mul_lt_mul_of_pos_right n b;have hw:IntKind.u64.wrap ((x*2^m:Nat):Int)=((x*2^m:Nat):Int):=Gg _ ⟨by omega,by omega⟩
 have c:4294967296=2^m*2^(32-m):=by
  rw[<-Nat.pow_add,show m+(32-m)=32 by omega]
 have f:x*2^m%4294967296=2^m*(x%2^(32-m)):=by
  rw[c,Nat.mul_comm x,Nat.mul_mod_mul_left]
 have d:z ||| x*2^m%4294967296=z+x*2^m%4294967296:=by
  rw[f,Nat.or_comm,<-Nat.two_pow_add_eq_or_of_lt k];omega
 have a:z+x*2^m%4294967296<4294967296:=by
  have i:x%2^(32-m)<2^(32-m):=Nat.mod_lt _ (Nat.pow_pos (by omega));have h:2^m*(x%2^(32-m)+1)<=2^m*2^(32-m):=Nat.mul_le_mul_left _ i;rw[Nat.mul_add]at h;rw[f];generalize 2^m*(x%2^(32-m))=q at *;omega
 refine⟨?_,?_,a,?_⟩
 ·rw[e,hw]
  have j:((x*2^m:Nat):Int)%4294967296=((x*2^m%4294967296:Nat):Int):=by omega
  rw[j,u32_or_nat _ _ (by omega) (by omega),d]
 ·rw[e,hw]
  generalize x*2^m=q at *;omega
 rw[Nat.div_lt_iff_lt_mul (by omega)];omega
theorem C8{a z SM P PB b r q:Nat}(d:a+z*P=SM)(c:r*P+q*PB=b):a+(z+r)*P+q*PB=SM+b:=by
 rw[Nat.add_mul];omega
def UpI(l L:List Nat)(m k:Nat):Prop:=Wds L/\(∀j,k<j->wd L j=0)/\wd L k<2^m/\Sm (wd L) (k+1)=Sm (wd l) k*2^m
theorem Fx(w:World)(A n c l)(y:Wd w A n c l)(hn:n<=1099511627776)(m:Nat)(W:m<32):
 Calls Tryz.prog 230 #[.slice A n c,.int .i64 (m:Nat)] w fun e F=>∃L,e=.returned (.slice (some ⟨w.heap.size,0,none⟩) (n+1) (n+1))/\Wds L/\L.length=n+1/\val L=val l*2^m/\Blk F w.heap.size 58 (cellsOf L)/\Below w.heap.size w F:=by
 have U:=Qh y.2.1;go_in;go_wp2_with (at_make;refine aQ _ rfl _ _ rfl _ _ _ _ (n+1) rfl rfl (by omega) (by omega) (by omega) ?_);go_loopw [15] (fun C wr=>∃(k:Nat) (L:List Nat),k<=n/\C=.int .i64 (k:Nat)/\L.length=n+1/\UpI l L m k/\Blk wr w.heap.size 58 (cellsOf L)/\Below w.heap.size w wr) (fun C _=>n-(intOf C).toNat)
 case atStart =>
  have d:∀j,wd (List.replicate (n+1) 0) j=0:=fun j=>by unfold wd;by_cases M:j<n+1<;>simp[List.getD,M]
  exact⟨0,List.replicate (n+1) 0,Nat.zero_le _,rfl,by simp,⟨by intro x i;rw[zD i];omega,fun j _=>d j,by rw[d];exact Nat.pow_pos (by omega),by simp[Sm,d]⟩,Blk.new _ _ _,(kz _ _).alloc Qr _⟩
 case round =>
  obtain⟨k,L,hk,rfl,q,H,hB,b⟩:=hrel;have u:=Qh ((Kp.refl w).below b);have f:=Qh H;have h:=Qh hB;have a:=Qh q;clear H hB q;by_cases hkn:k<n
  ·obtain⟨g,o,rfl,Z,s⟩:=(y.keep u.out).at2 (by omega)
   have t:=s k hkn;obtain⟨x,z,i,d⟩:∃x z,wd l k=x/\wd L k=z:=⟨_,_,rfl,rfl⟩;have B:x<4294967296:=by rw[<-i];exact y.lt _
   have Q:z<4294967296:=by rw[<-d];exact cf f.out.1 _
   rw[i]at t;have D:=h.out.cell k;rw[aE (by rw[a.out];omega),d]at D;have V:=h.out.frozen k;have r:=h.out.cell (k+1);rw[aE (by rw[a.out];omega)]at r;have J:=h.out.frozen (k+1);have HX:=Qh i;have N:=Qh d;clear i d s;go_wp2;obtain⟨X,S,E,p⟩:=AW (z:=z) B W (by rw[<-N.out];exact f.out.2.2.1);rw[X,S];go_roundw
   case rel =>
    have T:x*2^m/4294967296<4294967296:=Nat.lt_trans p (Nat.lt_of_le_of_lt (Nat.pow_le_pow_right (by omega) (show m<=31 by omega)) (by decide));refine⟨k+1,(L.set k (z+x*2^m%4294967296)).set (k+1) (x*2^m/4294967296),by omega,by go_num,by rw[xv,xv];exact a.out,⟨wds_set (wds_set f.out.1 _ E) _ T,?_,?_,?_⟩,(h.out.setW k _ _ rfl).setW (k+1) _ _ rfl,(b.setCell Qr _).setCell Qr _⟩
    ·intro j M;rw[cq,kl (by omega),cq,kl (by omega)];exact f.out.2.1 j (by omega)
    ·rw[cq,kZ ⟨rfl,by rw[xv,a.out];omega⟩];exact p
    rw[cI _ _ _ (by rw[xv,a.out];omega),cI _ _ _ (by rw[a.out];omega),Sm,HX.out];have I:=f.out.2.2.2;rw[Sm,N.out]at I;have O:=Bn.split_mul (x*2^m) (4294967296^k);have P:(Sm (wd l) k+x*4294967296^k)*2^m=Sm (wd l) k*2^m+x*4294967296^k*2^m:=Nat.add_mul _ _ _;have R:x*4294967296^k*2^m=x*2^m*4294967296^k:=by rw[Nat.mul_assoc,Nat.mul_comm (4294967296^k),<-Nat.mul_assoc]
    rw[Nat.pow_succ,P,R];exact C8 I O
   case measure=>simp[intOf];omega
  have v:k=n:=by omega
  subst v
  have K:val L=val l*2^m:=by
   have G:=f.out.2.2.2;rw[bf L (by rw[a.out];exact Qr),bf l (by rw[<-U.out];omega)]at G;exact G
  have Y:=Qh K;clear K;go_wp2;go_ret;exact⟨L,rfl,f.out.1,a.out,Y.out,h.out,b⟩

theorem Ey(w:World)(A n c l)(k:Wd w A n c l)(p:n<=1099511627776)(m:Nat)(b:m<32):
 Calls Tryz.prog 230 #[.slice A n c,.int .i64 (m:Nat)] w fun e a=>∃L g,e=.returned (.slice (some ⟨g,0,none⟩) (n+1) (n+1))/\w.heap.size<=g/\Wds L/\L.length=n+1/\val L=val l*2^m/\Blk a g 58 (cellsOf L)/\Below w.heap.size w a :=
 (Fx w A n c l k p m b).mono fun _ _ ⟨L,i,f,o,h,j,d⟩=>⟨L,w.heap.size,i,Qr,f,o,h,j,d⟩
end Go.Proofs.YtfilnhompchciaaGreatDoor
namespace Bn
theorem sE(f:Nat->Nat)(j t:Nat):Sm f (j+t)=Sm f j+4294967296^j*Sm (fun i=>f (j+i)) t:=by
 induction t with
 |zero=>simp[Sm]
 |succ t ih =>
  rw[<-Nat.add_assoc,Sm,ih,Sm,Nat.mul_add,Nat.pow_add];have:f (j+t)*(4294967296^j*4294967296^t)=4294967296^j*(f (j+t)*4294967296^t):=by rw[Nat.mul_left_comm]
  omega
def wn(L:List Nat)(off:Nat)(i:Nat):Nat:=wd L (off+i)
def Win(L L':List Nat)(off n:Nat):Prop:=L'.length=L.length/\Wds L'/\∀j,j<off\/off+n<=j->wd L' j=wd L j
theorem pj{L:List Nat}{N:Nat}(h:val L<4294967296^N):Sm (wd L) N=val L/\∀j,N<=j->wd L j=0:=by
 have key:∀M,N<=M->Sm (wd L) M=Sm (wd L) N->Sm (wd L) (M+1)=Sm (wd L) N/\wd L M=0:=by
  intro M g b
  have f:Sm (wd L) (M+1)<=val L:=by
   rw[<-bf L (Nat.le_max_left L.length (M+1))];exact qw _ (Nat.le_max_right _ _)
  rw[Sm,b]at f;have i:4294967296^N<=4294967296^M:=Nat.pow_le_pow_right (by omega) g
  have a:wd L M=0:=by
   rcases Nat.eq_zero_or_pos (wd L M) with a|a
   ·exact a
   have:1*4294967296^M<=wd L M*4294967296^M:=Nat.mul_le_mul_right _ a;omega
  refine⟨?_,a⟩;rw[Sm,b,a];simp
 have all:∀d,Sm (wd L) (N+d)=Sm (wd L) N:=by
  intro d
  induction d with
  |zero=>rfl
  |succ d ih=>rw[<-Nat.add_assoc];exact(key (N+d) (by omega) ih).1
 refine⟨?_,fun j c=>?_⟩
 ·have:=all L.length
  rw[bf L (by omega)]at this;exact this.symm
 have:=(key j c (by have:=all (j-N);rwa[show N+(j-N)=j by omega]at this)).2;exact this
theorem sF{L:List Nat}{j t:Nat}(h:val L<4294967296^(j+t)):val L=Sm (wd L) j+4294967296^j*Sm (wn L j) t:=by
 rw[<-(pj h).1,sE];rfl
theorem qD{L a:List Nat}{j t:Nat}(h:val L<4294967296^(j+t))(hw:Win L a j t):val a=Sm (wd L) j+4294967296^j*Sm (wn a j) t:=by
 have g:Sm (wd a) j=Sm (wd L) j:=eZ fun i b=>hw.2.2 i (.inl b)
 have f:Sm (wd a) (j+t)=val a:=by
  have k:∀i,j+t<=i->wd a i=0:=fun i b=>by rw[hw.2.2 i (.inr b)];exact(pj h).2 i b
  have:∀d,Sm (wd a) (j+t+d)=Sm (wd a) (j+t):=by
   intro d
   induction d with
   |zero=>rfl
   |succ d ih=>rw[<-Nat.add_assoc,Sm,k _ (by omega),ih];simp
  have c:=this a.length;rw[bf a (by omega)]at c;exact c.symm
 rw[<-f,sE,g];rfl
theorem Win.trans{A B C:List Nat}{j t:Nat}(h:Win A B j t)(k:Win B C j t):Win A C j t :=
 ⟨k.1.trans h.1,k.2.1,fun i a=>(k.2.2 i a).trans (h.2.2 i a)⟩

theorem xV(f:Nat->Nat)(nn:Nat):Sm f (nn+2)=f (nn+1)*(4294967296^nn*4294967296)+f nn*4294967296^nn+Sm f nn:=by
 rw[Sm,Sm,Nat.pow_succ];omega
theorem xW(f:Nat->Nat)(nn:Nat):Sm f (nn+3)=(f (nn+2)*4294967296+f (nn+1))*(4294967296^nn*4294967296)+f nn*4294967296^nn+Sm f nn:=by
 rw[Sm,xV,Nat.pow_succ,Nat.pow_succ,Nat.add_mul]
 have:f (nn+2)*(4294967296^nn*4294967296*4294967296)=f (nn+2)*4294967296*(4294967296^nn*4294967296):=by
  rw[Nat.mul_assoc (f (nn+2)),Nat.mul_comm 4294967296 (4294967296^nn*4294967296)]
 omega
theorem AX{head D third top lowv V P:Nat}(d:P=head*(D*4294967296)+third)(h:V=top*(D*4294967296)+lowv)(g:lowv<D*4294967296)(a:P<V*4294967296):head<(top+1)*4294967296:=by
 have b:V<(top+1)*(D*4294967296):=by rw[Nat.add_mul];omega
 have f:V*4294967296<=(top+1)*(D*4294967296)*4294967296:=Nat.mul_le_mul_right _ (Nat.le_of_lt b)
 have c:head*(D*4294967296)<(top+1)*4294967296*(D*4294967296):=by
  have:(top+1)*(D*4294967296)*4294967296=(top+1)*4294967296*(D*4294967296):=by rw[Nat.mul_assoc,Nat.mul_comm (D*4294967296),<-Nat.mul_assoc]
  omega
 exact Nat.lt_of_mul_lt_mul_right c
theorem xX{head top:Nat}(h:head<(top+1)*4294967296)(a:2147483648<=top):head/top<=4294967298:=by
 have:head/top<4294967299:=by
  rw[Nat.div_lt_iff_lt_mul (by omega)];rw[Nat.add_mul]at h;have:4294967299*top=top*4294967296+3*top:=by omega
  omega
 omega
theorem nZ{P a g V q:Nat}(i:0<V)(c:q=P/V)(d:q<=g)(h:a+g*V=P):g=q/\a=P%V:=by
 have f:g*V<=P:=by omega
 have j:g<=P/V:=(Nat.le_div_iff_mul_le i).2 f;have b:g=q:=by omega
 refine⟨b,?_⟩;have k:=Nat.div_add_mod P V;rw[b,c,Nat.mul_comm]at h;omega
theorem qE{P b d g V q T c:Nat}(n:0<V)(m:q=P/V)(k:g<=q+1)(l:b<T)(h:b+g*V=P+1*T)(o:d+c*T=b+V)(r:c<=1)(j:d<T):g=q+1/\d=P%V:=by
 have f:=Nat.div_add_mod P V;have p:=Nat.mod_lt P n;rw[<-m]at f
 have a:q<g:=by
  rcases Nat.lt_or_ge q g with a|a
  ·exact a
  have:g*V<=q*V:=Nat.mul_le_mul_right _ a;rw[Nat.mul_comm V q]at f;omega
 have i:g=q+1:=by omega
 refine⟨i,?_⟩;rw[i,Nat.add_mul]at h;rw[Nat.mul_comm V q]at f;rcases (show c=0\/c=1 by omega) with rfl|rfl
 ·omega
 omega
theorem C9{f V g i low Bj P q b:Nat}(h:i+V*g=f)(c:i=low+Bj*P)(a:b=low+Bj*(P%V))(k:q=P/V)(d:low<Bj)(m:0<V):b+V*(g+q*Bj)=f/\b<V*Bj:=by
 have l:=Nat.div_add_mod P V;have j:=Nat.mod_lt P m;subst k;constructor
 ·rw[a,<-h,c,Nat.mul_add]
  have:Bj*P=Bj*(P%V)+V*(P/V*Bj):=by
   conv=>lhs;rw[<-l]
   rw[Nat.mul_add,Nat.mul_comm (P/V),<-Nat.mul_assoc V,Nat.mul_comm V Bj,Nat.mul_assoc];omega
  omega
 rw[a];have:Bj*(P%V+1)<=Bj*V:=Nat.mul_le_mul_left _ j;rw[Nat.mul_add]at this;rw[Nat.mul_comm V];omega
theorem vh{U low Bj P V:Nat}(b:U=low+Bj*P)(h:U<V*(Bj*4294967296)):P<V*4294967296:=by
 have a:Bj*P<Bj*(V*4294967296):=by
  have:V*(Bj*4294967296)=Bj*(V*4294967296):=by rw[Nat.mul_left_comm]
  omega
 exact Nat.lt_of_mul_lt_mul_left a
theorem vi{a b q r s:Nat}(c:0<s)(hb:0<b)(h:r+b*s*q=a*s)(f:r<b*s):q=a/b/\r/s=a%b:=by
 have g:a*s/(b*s)=q:=by
  rw[<-h,Nat.add_comm,Nat.mul_add_div (Nat.mul_pos hb c),Nat.div_eq_of_lt f];rfl
 have d:a*s%(b*s)=r:=by
  rw[<-h,Nat.add_comm,Nat.mul_add_mod,Nat.mod_eq_of_lt f]
 rw[Nat.mul_div_mul_right _ _ c]at g;rw[Nat.mul_mod_mul_right]at d;refine⟨g.symm,?_⟩;rw[<-d,Nat.mul_div_cancel _ c]
end Bn
namespace Bn
theorem po{l:List Nat}{k i:Nat}(h:i<k):wd (l.take k) i=wd l i:=by
 simp[wd,List.getD,h]
theorem xY{a b:List Nat}{nn m t0:Nat}(z:Wds a)(d:a.length=nn+2)(l:wd a (nn+1)=t0)(g:2147483648<=t0*2^m)(h:(t0+1)*2^m<=4294967296)(x:b.length=nn+3)(p:Wds b)(k:val b=val a*2^m):
 val (b.take (nn+2))=val a*2^m/\2147483648<=wd b (nn+1):=by
 have y:val a=Sm (wd a) (nn+2):=by rw[gR,d]
 have n:Sm (wd a) (nn+1)<4294967296^(nn+1):=fW (fun i _=>cf z i);rw[Sm,l]at y
 have f:val a*2^m<4294967296^(nn+2):=by
  have r:val a<(t0+1)*4294967296^(nn+1):=by rw[Nat.add_mul];omega
  have A:val a*2^m<(t0+1)*4294967296^(nn+1)*2^m:=Nat.mul_lt_mul_of_pos_right r (Nat.pow_pos (by omega));have D:(t0+1)*4294967296^(nn+1)*2^m=(t0+1)*2^m*4294967296^(nn+1):=by rw[Nat.mul_assoc,Nat.mul_comm (4294967296^(nn+1)),<-Nat.mul_assoc]
  have B:(t0+1)*2^m*4294967296^(nn+1)<=4294967296*4294967296^(nn+1):=Nat.mul_le_mul_right _ h;have C:4294967296*4294967296^(nn+1)=4294967296^(nn+2):=by rw[Nat.mul_comm,<-Nat.pow_succ]
  omega
 have o:=pj (L:=b) (N:=nn+2) (by rw[k];exact f)
 have c:val (b.take (nn+2))=val a*2^m:=by
  have u:(b.take (nn+2)).length=nn+2:=by rw[vq];omega
  rw[gR,u,<-k,<-o.1];exact eZ fun i v=>po v
 refine⟨c,?_⟩;have E:Sm (wd b) (nn+1)<4294967296^(nn+1):=fW (fun i _=>cf p i);have s:=o.1;rw[Sm,k]at s;rcases Nat.lt_or_ge (wd b (nn+1)) 2147483648 with j|j
 ·exfalso
  have w:(wd b (nn+1)+1)*4294967296^(nn+1)<=2147483648*4294967296^(nn+1):=Nat.mul_le_mul_right _ j;rw[Nat.add_mul]at w;have q:2147483648*4294967296^(nn+1)<=t0*2^m*4294967296^(nn+1):=Nat.mul_le_mul_right _ g
  have t:t0*2^m*4294967296^(nn+1)<=val a*2^m:=by
   have:t0*4294967296^(nn+1)*2^m<=val a*2^m:=Nat.mul_le_mul_right _ (by omega);have e:t0*2^m*4294967296^(nn+1)=t0*4294967296^(nn+1)*2^m:=by rw[Nat.mul_assoc,Nat.mul_comm (2^m),<-Nat.mul_assoc]
   omega
  omega
 exact j
theorem sG{x k m:Nat}(a:k+m=31)(c:2^k<=x)(b:x<2^(k+1)):2147483648<=x*2^m/\(x+1)*2^m<=4294967296:=by
 have d:2^k*2^m=2147483648:=by rw[<-Nat.pow_add,a]
 have h:2^(k+1)*2^m=4294967296:=by rw[<-Nat.pow_add,show k+1+m=32 by omega]
 have g:2^k*2^m<=x*2^m:=Nat.mul_le_mul_right _ c;have f:(x+1)*2^m<=2^(k+1)*2^m:=Nat.mul_le_mul_right _ b;omega
end Bn
namespace Bn
theorem vj{L lv:List Nat}{V nn k pa pb pc top next:Nat}(j:Wds L)(d:Wds lv)(a:lv.length=nn+2)(o:val lv=V)(q:0<k)(g:val L<V*4294967296^k)
 (n:wd L (k-1+(nn+2))=pa) (h:wd L (k-1+(nn+1))=pb) (m:wd L (k-1+nn)=pc) (f:wd lv (nn+1)=top) (b:wd lv nn=next) :
 ∃lowp lowv,Sm (wn L (k-1)) (nn+3)=(pa*4294967296+pb)*(4294967296^nn*4294967296)+pc*4294967296^nn+lowp/\lowp<4294967296^nn/\V=top*(4294967296^nn*4294967296)+next*4294967296^nn+lowv/\lowv<4294967296^nn /\
  Sm (wn L (k-1)) (nn+3)<V*4294967296/\val L=Sm (wd L) (k-1)+4294967296^(k-1)*Sm (wn L (k-1)) (nn+3)/\val L<4294967296^(k-1+(nn+3)):=by
 have l:V<4294967296^(nn+2):=by rw[<-o,<-a];exact dl d
 have c:val L<4294967296^(k-1+(nn+3)):=by
  have p:V*4294967296^k<=4294967296^(nn+2)*4294967296^k:=Nat.mul_le_mul_right _ (Nat.le_of_lt l);rw[<-Nat.pow_add,show nn+2+k=k-1+(nn+3) by omega]at p;omega
 have hw:=sF c;refine⟨Sm (wn L (k-1)) nn,Sm (wd lv) nn,?_,fW fun i _=>cf j _,?_,fW fun i _=>cf d _,?_,hw,c⟩
 ·rw[xW];unfold wn;rw[n,h,m]
 ·rw[<-o,gR,a,xV,f,b]
 apply vh (Bj:=4294967296^(k-1)) hw;have:4294967296^k=4294967296^(k-1)*4294967296:=by rw[<-Nat.pow_succ];congr 1;omega
 rw[<-this];exact g
theorem ml{P V D hd pc a top next lowv g r:Nat}(j:P=hd*(D*4294967296)+pc*D+a)(d:a<D)(k:V=top*(D*4294967296)+next*D+lowv)(b:0<V)(c:P<V*4294967296)(f:g*top+r=hd)
 (h:4294967296<=g\/r*4294967296+pc<g*next):P/V<g:=by
 have i:P/V*V<=P:=Nat.div_mul_le_self _ _;rcases h with h|h
 ·have:P/V<4294967296:=by rw[Nat.div_lt_iff_lt_mul b,Nat.mul_comm];exact c
  omega
 exact xJ (third:=0) j d k f i h
theorem mm{P V D hd pc b top next lowv g r:Nat}(n:P=hd*(D*4294967296)+pc*D+b)(o:V=top*(D*4294967296)+next*D+lowv)(j:lowv<D)(d:0<V)(c:0<top)(a:next<4294967296)(i:hd<(top+1)*4294967296)(l:g*top+r=hd)
 (h:4294967296<=r\/(g<4294967296/\g*next<=r*4294967296+pc)):g<4294967296/\g<=P/V+1:=by
 have k:g<4294967296:=by
  rcases h with h|h
  ·rcases Nat.lt_or_ge g 4294967296 with f|f
   ·exact f
   have:=qB i l f;omega
  exact h.1
 refine⟨k,?_⟩
 have m:P<(P/V+1)*V:=by
  have p:=Nat.div_add_mod P V;have q:=Nat.mod_lt P d;rw[Nat.add_mul,Nat.mul_comm (P/V)];omega
 exact xK n o j l m c (by omega) a (h.imp id fun h=>h.2)
theorem qF{P V D hd pc a top next lowv pb:Nat}(h:P=hd*(D*4294967296)+pc*D+a)(g:a<D)(c:pc<4294967296)(i:V=top*(D*4294967296)+next*D+lowv)(b:0<top):P/V<=hd/top:=by
 have _:=pb;have d:P/V*V<=P:=Nat.div_mul_le_self _ _;refine xI (D:=D*4294967296) (third:=pc*D+a) (low:=next*D+lowv) (v:=V) (head:=hd) (P:=P) (by omega) ?_ (by omega) d b;have f:(pc+1)*D<=4294967296*D:=Nat.mul_le_mul_right _ c;rw[Nat.add_mul,Nat.mul_comm 4294967296]at f;omega
end Bn

/- Walks: a multiple taken from a window of words, and added back, in place. -/
namespace Go.Proofs.YtfilnhompchciaaGreatDoor
open Go Go.RowKit Bn
attribute [local go_sem ↓] Go.wp_at_zero Go.wp_at_succ

theorem Wd.keepG{w i:World}{A:Option Addr}{n c g:Nat}{l:List Nat}(h:Wd w A n c l)(b:∀a,A=some a->a.block≠g)(j:w.grownBy i (some g)):Wd i A n c l :=
 ⟨h.1,h.2.1,h.2.2.1,fun k=>by
  obtain⟨g',o,f,fr,e,hb,m⟩:=h.2.2.2 k;refine⟨g',o,f,fr,e,?_,m⟩
  exact hb.same (j.block g' hb.lt (by intro d;injection d with d;exact b _ e d))⟩
theorem n0(w:World)(row:Option Nat):w.grownBy w row:=⟨rfl,rfl,rfl,Qr,fun _ _ _=>rfl⟩
theorem only_drewN{a w:World}{row:Option Nat}(h:a.grownBy w row)(n:Nat):a.grownBy (w.drewN n) row:=⟨h.os,h.tape,h.output,h.size,h.block⟩
theorem qG{a w:World}{g:Nat}(h:a.grownBy w (some g))(i:Nat)(u:Value):a.grownBy (w.setCell ⟨g,i,none⟩ u) (some g) :=
 ⟨h.os,h.tape,h.output,by simpa[World.setCell]using h.size,fun c d b=>(so w _ u c (by
  rintro rfl
  exact b rfl)).trans (h.block c d b)⟩

theorem qH{x y a g q:Nat}(C:x<4294967296)(F:y<4294967296)(E:a<4294967296)(D:q<4294967296)(i:g<=1){p s o f:Int}(r:IntKind.u64.wrap ((q:Int)*(y:Int))=p)(u:IntKind.u64.wrap ((a:Int)+p)=s)
 (t:IntKind.u64.wrap ((x:Int)-s%4294967296)=o) (v:IntKind.u64.wrap (o-(g:Int))=f) :
 ∃d b c:Nat,d<4294967296/\b<=1/\c<4294967296/\s/4294967296=(d:Int)/\f/9223372036854775808=(b:Int)/\f%4294967296=(c:Int)/\c+q*y+g+a=x+(d+b)*4294967296/\(y=0->d=0):=by
 have n:y=0->q*y=0:=by rintro rfl;rfl
 rw[Hk]at r u;have A:q*y<=4294967295*4294967295:=Nat.mul_le_mul (by omega) (by omega);have e:(q:Int)*(y:Int)=((q*y:Nat):Int):=by simp
 rw[e]at r;generalize q*y=z at *;have B:s=((a+z:Nat):Int):=by omega
 subst B;have w:(((a+z:Nat):Int))%4294967296=(((a+z)%4294967296:Nat):Int):=by omega
 rw[w]at t;obtain⟨b,c,k,l,m,j,G⟩:=nY C (Nat.mod_lt (a+z) (by omega)) i t v;exact⟨(a+z)/4294967296,b,c,by omega,k,l,by omega,m,j,by omega,fun h=>by rw[n h];omega⟩

def Fy(L L' l':List Nat)(off nu q k cr br:Nat):Prop:=Win L L' off nu/\((∀j,off+k<=j->wd L' j=wd L j)/\(l'.length<k->cr=0))/\Sm (wn L' off) k+q*Sm (wd l') k=Sm (wn L off) k+(cr+br)*4294967296^k
theorem AY{b f k a x j q y g i c d P PB:Nat}(h:b+f=k+a*P)(e:a=i+g)(n:j+q*y+g+i=x+(c+d)*4294967296)(o:PB=P*4294967296):b+j*P+(f+q*y*P)=k+x*P+(c+d)*PB:=by
 subst e;subst o;have m:(j+q*y+g+i)*P=(x+(c+d)*4294967296)*P:=by rw[n]
 have l:(c+d)*(P*4294967296)=(c+d)*4294967296*P:=by rw[Nat.mul_comm P,Nat.mul_assoc]
 rw[Nat.add_mul,Nat.add_mul,Nat.add_mul,Nat.add_mul]at m;rw[Nat.add_mul]at h;rw[l];omega
theorem qI(w:World)(l off c cu:Nat)(L:List Nat)(r:Blk w l 58 (cellsOf L))(u:Wds L)(W:off+c<=L.length)(ad:c<=4398046511104)
 (A' n' c' l') (I:Wd w A' n' c' l') (D:∀a,A'=some a->a.block≠l) (P:n'<c) (q:Nat) (hq:q<4294967296) :
 Calls Tryz.prog 231 #[.slice (some ⟨l,off,none⟩) c cu,.slice A' n' c',.int .u64 (q:Nat)] w fun e Q=>∃(f:List Nat) (b:Nat),b<=1/\e=.returned (.bool (b==1))/\Blk Q l 58 (cellsOf f)/\Win L f off c/\Sm (wn f off) c+q*val l'=Sm (wn L off) c+b*4294967296^c/\w.grownBy Q (some l):=by
 have z:=Qh I.2.1;have S:=Qh r;clear r;go_in;go_wp2;go_loopw [7,8,13] (fun cv bv N wr=>∃(k m i:Nat) (f:List Nat),k<=c/\N=.int .i64 (k:Nat)/\cv=.int .u64 (m:Nat)/\bv=.int .u64 (i:Nat)/\m<4294967296/\i<=1/\Fy L f l' off c q k m i/\Blk wr l 58 (cellsOf f)/\w.grownBy wr (some l)) (fun _ _ N _=>c-(intOf N).toNat)
 case atStart=>exact⟨0,0,0,L,Nat.zero_le _,rfl,rfl,rfl,by omega,by omega,⟨⟨rfl,u,fun _ _=>rfl⟩,⟨fun _ _=>rfl,fun h=>absurd h (by omega)⟩,by simp[Sm]⟩,S.out,n0 _ _⟩
 case round =>
  obtain⟨k,m,i,f,hk,rfl,rfl,rfl,U,v,hI,hB,X⟩:=hrel;have g:=Qh hI;have C:=Qh hB;have H:=Qh X;clear hI hB X;by_cases hkn:k<c
  ·obtain⟨x,y,A,T⟩:∃x y,wd L (off+k)=x/\wd l' k=y:=⟨_,_,rfl,rfl⟩
   have R:x<4294967296:=by rw[<-A];exact cf u _
   have E:y<4294967296:=by rw[<-T];exact I.lt _
   have O:=C.out.cell (off+k);rw[aE (by rw[g.out.1.1];omega),g.out.2.1.1 _ Qr,A]at O;have ac:=C.out.frozen (off+k);have HX:=Qh A;have J:=Qh T;obtain⟨p,Z⟩:∃d,IntKind.u64.wrap ((q:Int)*(y:Int))=d:=⟨_,rfl⟩;obtain⟨s,hs⟩:∃d,IntKind.u64.wrap ((m:Int)+p)=d:=⟨_,rfl⟩;obtain⟨d1,o⟩:∃d,IntKind.u64.wrap ((x:Int)-s%4294967296)=d:=⟨_,rfl⟩;obtain⟨d2,n⟩:∃d,IntKind.u64.wrap (d1-(i:Int))=d:=⟨_,rfl⟩;have HD:=Qh (qH R E U hq v Z hs o n);clear A T;go_wp2_with (go_at_call 250;(refine(mf _ A' n' c' l' ?_ k y J.out (by omega)).mono ?_);exact I.keepG D H.out;rintro e Q⟨rfl,rfl⟩);clear Z hs o n;obtain⟨cn,bn,B,F,V,M,ec,eb,el,hh,hz⟩:=HD.out;rw[ec,eb];go_roundw
   case rel =>
    refine⟨k+1,cn,bn,f.set (off+k) B,by omega,by go_num,rfl,rfl,F,V,⟨⟨by rw[xv];exact g.out.1.1,wds_set g.out.1.2.1 _ M,?_⟩,⟨?_,?_⟩,?_⟩,C.out.setW (off+k) _ _ el,qG H.out _ _⟩
    ·intro j K;rw[cq,kl (by omega)];exact g.out.1.2.2 j K
    ·intro j K;rw[cq,kl (by omega)];exact g.out.2.1.1 j (by omega)
    ·intro ab
     apply hz;rw[<-J.out];exact fV (by omega)
    have e1:Sm (wn (f.set (off+k) B) off) k=Sm (wn f off) k:=eZ fun j K=>by unfold wn;rw[cq,kl (by omega)]
    have e2:wn (f.set (off+k) B) off k=B:=by unfold wn;rw[cq,kZ ⟨rfl,by rw[g.out.1.1];omega⟩]
    have e3:wn L off k=x:=HX.out;rw[Sm,Sm,Sm,e1,e2,e3,J.out,Nat.mul_add,<-Nat.mul_assoc];exact AY g.out.2.2 rfl hh (by rw[Nat.pow_succ])
   case measure=>simp[intOf];omega
  have G:k=c:=by omega
  subst G
  have t:m=0:=by
   exact g.out.2.1.2 (by rw[<-z.out];exact P)
  have HC:=Qh t;clear t;go_wp2;go_ret;refine⟨f,i,v,?_,C.out,g.out.1,?_,H.out⟩
  ·rcases (show i=0\/i=1 by omega) with rfl|rfl<;>rfl
  have Y:=g.out.2.2;rw[HC.out,Nat.zero_add,bf l' (by rw[<-z.out];omega)]at Y;exact Y
theorem vk{x y a:Nat}(g:x<4294967296)(d:y<4294967296)(f:a<=1){p s:Int}(c:IntKind.u64.wrap ((x:Int)+(y:Int))=p)(b:IntKind.u64.wrap ((a:Int)+p)=s):s=((a+x+y:Nat):Int)/\(a+x+y)/4294967296<=1:=by
 rw[Hk]at c b;omega
def Ez(L L' l':List Nat)(off nu k cr:Nat):Prop:=Win L L' off nu/\(∀j,off+k<=j->wd L' j=wd L j)/\Sm (wn L' off) k+cr*4294967296^k=Sm (wn L off) k+Sm (wd l') k
theorem xZ(w:World)(h off c W:Nat)(L:List Nat)(m:Blk w h 58 (cellsOf L))(i:Wds L)(Q:off+c<=L.length)(T:c<=4398046511104)
 (A' n' c' l') (v:Wd w A' n' c' l') (q:∀a,A'=some a->a.block≠h) (R:n'<=c) :
 Calls Tryz.prog 232 #[.slice (some ⟨h,off,none⟩) c W,.slice A' n' c'] w fun e I=>∃(f:List Nat) (b:Nat),b<=1/\e=.returned (.tuple #[])/\Blk I h 58 (cellsOf f)/\Win L f off c/\Sm (wn f off) c+b*4294967296^c=Sm (wn L off) c+val l'/\w.grownBy I (some h):=by
 have D:=Qh v.2.1;have A:=Qh m;clear m;go_in;go_wp2;go_loopw [4,8] (fun U G wr=>∃(k b:Nat) (f:List Nat),k<=c/\G=.int .i64 (k:Nat)/\U=.int .u64 (b:Nat)/\b<=1/\Ez L f l' off c k b/\Blk wr h 58 (cellsOf f)/\w.grownBy wr (some h)) (fun _ G _=>c-(intOf G).toNat)
 case atStart=>exact⟨0,0,L,Nat.zero_le _,rfl,rfl,by omega,⟨⟨rfl,i,fun _ _=>rfl⟩,fun _ _=>rfl,by simp[Sm]⟩,A.out,n0 _ _⟩
 case round =>
  obtain⟨k,b,f,hk,rfl,rfl,l,N,hB,J⟩:=hrel;have g:=Qh N;have n:=Qh hB;have u:=Qh J;clear N hB J;by_cases hkn:k<c
  ·obtain⟨x,y,o,B⟩:∃x y,wd L (off+k)=x/\wd l' k=y:=⟨_,_,rfl,rfl⟩
   have z:x<4294967296:=by rw[<-o];exact cf i _
   have r:y<4294967296:=by rw[<-B];exact v.lt _
   have H:=n.out.cell (off+k);rw[aE (by rw[g.out.1.1];omega),g.out.2.1 _ Qr,o]at H;have Y:=n.out.frozen (off+k);have HX:=Qh o;have O:=Qh B;have V:(0:Int)<=(k:Int):=by omega
   have S:(k:Int)<(c:Int):=by omega
   have E:IntKind.u64.wrap (x:Int)=(x:Int):=Gg _ ⟨by omega,by omega⟩;obtain⟨p,M⟩:∃d,IntKind.u64.wrap ((x:Int)+(y:Int))=d:=⟨_,rfl⟩;obtain⟨s,P⟩:∃d,IntKind.u64.wrap ((b:Int)+p)=d:=⟨_,rfl⟩;have HD:=Qh (vk z r l M P);clear o B;go_wp2_with fail;go_quiet ((go_at_call 250;exact zZ (xC _ A' n' c' l' ((v.keepG q u.out).keep ((Kp.refl _).drewN _)) k y O.out (by omega))));clear M P E;go_wp2;obtain⟨es,C⟩:=HD.out;rw[es];go_roundw
   case rel =>
    refine⟨k+1,(b+x+y)/4294967296,f.set (off+k) ((b+x+y)%4294967296),by omega,by go_num,by go_num,C,⟨⟨by rw[xv];exact g.out.1.1,wds_set g.out.1.2.1 _ (Nat.mod_lt _ (by omega)),?_⟩,?_,?_⟩,?_,qG (only_drewN u.out _) _ _⟩
    ·intro j F;rw[cq,kl (by omega)];exact g.out.1.2.2 j F
    ·intro j F;rw[cq,kl (by omega)];exact g.out.2.1 j (by omega)
    ·have E:Sm (wn (f.set (off+k) ((b+x+y)%4294967296)) off) k=Sm (wn f off) k:=eZ fun j F=>by unfold wn;rw[cq,kl (by omega)]
     have X:wn (f.set (off+k) ((b+x+y)%4294967296)) off k=(b+x+y)%4294967296:=by unfold wn;rw[cq,kZ ⟨rfl,by rw[g.out.1.1];omega⟩]
     have Z:wn L off k=x:=HX.out;rw[Sm,Sm,Sm,E,X,Z,O.out,Nat.pow_succ];exact jm g.out.2.2
    exact(n.out.drewN _).setW (off+k) _ _ (by omega)
   case measure=>simp[intOf];omega
  have t:k=c:=by omega
  subst t;go_wp2;go_end0;refine⟨f,b,l,rfl,n.out,g.out.1,?_,u.out⟩;have K:=g.out.2.2;rw[bf l' (by rw[<-D.out];omega)]at K;exact K
end Go.Proofs.YtfilnhompchciaaGreatDoor
namespace Go.Proofs
open Go.Shelf
def Tryz.lays170_ren:Go.Shelf.Ren:=⟨fun|170=>31|n=>n,fun|70=>68|3=>3|0=>0|72=>70|37=>47|5=>5|n=>n,fun|n=>n⟩
theorem Tryz.lays170:Go.Proofs.Lays.n170 Tryz.prog Tryz.lays170_ren:={
 mixed:=by kernel_rfl
 f170:=Tryz.func31.trans (congrArg some (by kernel_rfl))
 t0:=Tryz.underlying0
 a0:=Tryz.isAgg0
 z0:=Tryz.sizeOf0
 v0:=Tryz.zeroValue0
 t3:=Tryz.underlying3
 a3:=Tryz.isAgg3
 z3:=Tryz.sizeOf3
 v3:=Tryz.zeroValue3
 t37:=Tryz.underlying47
 a37:=Tryz.isAgg47
 z37:=Tryz.sizeOf47
 v37:=Tryz.zeroValue47
 t70:=Tryz.underlying68
 a70:=Tryz.isAgg68
 z70:=Tryz.sizeOf68
 v70:=Tryz.zeroValue68
 t72:=Tryz.underlying70
 a72:=Tryz.isAgg70
 z72:=Tryz.sizeOf70
 v72:=Tryz.zeroValue70 }
open Go.RowKit in
theorem Tryz.Builder_Len(B b:Nat)(bs:List Value)(w:World)(h:Lib.IsBuilder 70 5 B b bs w):
 Calls Tryz.prog 31 #[.pointer (some ⟨b,0,none⟩)] w fun e a=>e=.returned (.int .i64 bs.length)/\a=w:=Any.Builder_Len Tryz.lays170 B b bs w h
def Tryz.lays169_ren:Go.Shelf.Ren:=⟨fun|169=>32|n=>n,fun|70=>68|9=>9|0=>0|72=>70|37=>47|127=>119|3=>3|5=>5|n=>n,fun|n=>n⟩
theorem Tryz.lays169:Go.Proofs.Lays.n169 Tryz.prog Tryz.lays169_ren:={
 mixed:=by kernel_rfl
 f169:=Tryz.func32.trans (congrArg some (by kernel_rfl))
 t0:=Tryz.underlying0
 a0:=Tryz.isAgg0
 z0:=Tryz.sizeOf0
 v0:=Tryz.zeroValue0
 t3:=Tryz.underlying3
 a3:=Tryz.isAgg3
 z3:=Tryz.sizeOf3
 v3:=Tryz.zeroValue3
 t9:=Tryz.underlying9
 a9:=Tryz.isAgg9
 z9:=Tryz.sizeOf9
 v9:=Tryz.zeroValue9
 t37:=Tryz.underlying47
 a37:=Tryz.isAgg47
 z37:=Tryz.sizeOf47
 v37:=Tryz.zeroValue47
 t70:=Tryz.underlying68
 a70:=Tryz.isAgg68
 z70:=Tryz.sizeOf68
 v70:=Tryz.zeroValue68
 t72:=Tryz.underlying70
 a72:=Tryz.isAgg70
 z72:=Tryz.sizeOf70
 v72:=Tryz.zeroValue70
 t127:=Tryz.underlying119
 a127:=Tryz.isAgg119
 z127:=Tryz.sizeOf119
 v127:=Tryz.zeroValue119 }
theorem Tryz.Builder_Extra_169:Builder.Extra Tryz.prog Tryz.lays169_ren:={
 sizeBuilder:=by kernel_rfl
 liesBuilder:=by kernel_rfl
 t5:=Tryz.underlying5
 a5:=Tryz.isAgg5
 z5:=Tryz.sizeOf5
 v5:=Tryz.zeroValue5
 infoByte:=by kernel_rfl
 cellsByte:=by kernel_rfl
 sizeByte:=by kernel_rfl
 neB5:=by decide }
open Go.RowKit in
theorem Tryz.Builder_String_any(B b:Nat)(l:List UInt8)(w:World)(h:Lib.IsBuilder 70 5 B b (Lib.byteCells l) w)(a:B<=w.heap.size):
 Calls Tryz.prog 32 #[.pointer (some ⟨b,0,none⟩)] w fun e c=>e=.returned (.string ⟨l.toArray⟩)/\Below B w c:=Any.Builder_String_any Tryz.lays169 Tryz.Builder_Extra_169 B b l w h a
def Tryz.lays156_ren:Go.Shelf.Ren:=⟨fun|156=>62|165=>102|166=>27|169=>32|240=>58|241=>142|276=>99|277=>183|n=>n,fun|31=>113|9=>9|3=>3|4=>4|0=>0|20=>20|72=>70|76=>51|70=>68|37=>47|75=>26|127=>119|164=>152|5=>5|80=>75|n=>n,fun|n=>n⟩
theorem Tryz.lays156:Go.Proofs.Lays.n156 Tryz.prog Tryz.lays156_ren:={
 mixed:=by kernel_rfl
 f156:=Tryz.func62.trans (congrArg some (by kernel_rfl))
 f165:=Tryz.func102.trans (congrArg some (by kernel_rfl))
 f166:=Tryz.func27.trans (congrArg some (by kernel_rfl))
 f169:=Tryz.func32.trans (congrArg some (by kernel_rfl))
 f240:=Tryz.func58.trans (congrArg some (by kernel_rfl))
 f241:=Tryz.func142.trans (congrArg some (by kernel_rfl))
 f276:=Tryz.func99.trans (congrArg some (by kernel_rfl))
 f277:=Tryz.func183.trans (congrArg some (by kernel_rfl))
 t0:=Tryz.underlying0
 a0:=Tryz.isAgg0
 z0:=Tryz.sizeOf0
 v0:=Tryz.zeroValue0
 t3:=Tryz.underlying3
 a3:=Tryz.isAgg3
 z3:=Tryz.sizeOf3
 v3:=Tryz.zeroValue3
 t4:=Tryz.underlying4
 a4:=Tryz.isAgg4
 z4:=Tryz.sizeOf4
 v4:=Tryz.zeroValue4
 t9:=Tryz.underlying9
 a9:=Tryz.isAgg9
 z9:=Tryz.sizeOf9
 v9:=Tryz.zeroValue9
 t20:=Tryz.underlying20
 a20:=Tryz.isAgg20
 z20:=Tryz.sizeOf20
 v20:=Tryz.zeroValue20
 t31:=Tryz.underlying113
 a31:=Tryz.isAgg113
 z31:=Tryz.sizeOf113
 v31:=Tryz.zeroValue113
 t37:=Tryz.underlying47
 a37:=Tryz.isAgg47
 z37:=Tryz.sizeOf47
 v37:=Tryz.zeroValue47
 t70:=Tryz.underlying68
 a70:=Tryz.isAgg68
 z70:=Tryz.sizeOf68
 v70:=Tryz.zeroValue68
 t72:=Tryz.underlying70
 a72:=Tryz.isAgg70
 z72:=Tryz.sizeOf70
 v72:=Tryz.zeroValue70
 t75:=Tryz.underlying26
 a75:=Tryz.isAgg26
 z75:=Tryz.sizeOf26
 v75:=Tryz.zeroValue26
 t76:=Tryz.underlying51
 a76:=Tryz.isAgg51
 z76:=Tryz.sizeOf51
 v76:=Tryz.zeroValue51
 t127:=Tryz.underlying119
 a127:=Tryz.isAgg119
 z127:=Tryz.sizeOf119
 v127:=Tryz.zeroValue119
 t164:=Tryz.underlying152
 a164:=Tryz.isAgg152
 z164:=Tryz.sizeOf152
 v164:=Tryz.zeroValue152 }
theorem Tryz.Builder_Extra_156:Builder.Extra Tryz.prog Tryz.lays156_ren:={
 sizeBuilder:=by kernel_rfl
 liesBuilder:=by kernel_rfl
 t5:=Tryz.underlying5
 a5:=Tryz.isAgg5
 z5:=Tryz.sizeOf5
 v5:=Tryz.zeroValue5
 infoByte:=by kernel_rfl
 cellsByte:=by kernel_rfl
 sizeByte:=by kernel_rfl
 neB5:=by decide }
open Go.RowKit in
theorem Tryz.strings_Join_none(a:Option Addr)(c:Nat)(b:ByteArray)(w:World):
 Calls Tryz.prog 62 #[.slice a 0 c,.string b] w fun e d=>e=.returned (.string ⟨#[]⟩)/\d=w:=Any.strings_Join_none Tryz.lays156 Tryz.Builder_Extra_156 a c b w
open Go.RowKit in
theorem Tryz.strings_Join(h o c:Nat)(d:List ByteArray)(a:ByteArray)(w:World)(b:∀(j:Nat) x,d[j]?=some x->w.cell? ⟨h,o+j,none⟩=some (.string x))(i:h<w.heap.size)(l:d.length<=140737488355328)(f:d.length<=c)(g:(Lib.join (d.map (·.data.toList)) a.data.toList).length<=140737488355328):
 Calls Tryz.prog 62 #[.slice (some ⟨h,o,none⟩) d.length c,.string a] w fun e k=>e=.returned (.string ⟨(Lib.join (d.map (·.data.toList)) a.data.toList).toArray⟩)/\Below w.heap.size w k:=Any.strings_Join Tryz.lays156 Tryz.Builder_Extra_156 h o c d a w b i l f g
def Tryz.lays161_ren:Go.Shelf.Ren:=⟨fun|161=>227|231=>127|227=>129|233=>130|235=>132|228=>166|197=>167|151=>168|260=>208|152=>209|137=>107|119=>241|224=>159|225=>158|217=>147|266=>186|n=>n,fun|9=>9|4=>4|3=>3|5=>5|117=>177|116=>176|0=>0|124=>180|105=>207|21=>21|119=>259|46=>157|139=>262|138=>261|n=>n,fun|3=>4|4=>5|n=>n⟩
theorem Tryz.lays161:Go.Proofs.Lays.n161 Tryz.prog Tryz.lays161_ren:={
 mixed:=by kernel_rfl
 f119:=Tryz.func241.trans (congrArg some (by kernel_rfl))
 f137:=Tryz.func107.trans (congrArg some (by kernel_rfl))
 f151:=Tryz.func168.trans (congrArg some (by kernel_rfl))
 f152:=Tryz.func209.trans (congrArg some (by kernel_rfl))
 f161:=Tryz.func227.trans (congrArg some (by kernel_rfl))
 f197:=Tryz.func167.trans (congrArg some (by kernel_rfl))
 f217:=Tryz.func147.trans (congrArg some (by kernel_rfl))
 f224:=Tryz.func159.trans (congrArg some (by kernel_rfl))
 f225:=Tryz.func158.trans (congrArg some (by kernel_rfl))
 f227:=Tryz.func129.trans (congrArg some (by kernel_rfl))
 f228:=Tryz.func166.trans (congrArg some (by kernel_rfl))
 f231:=Tryz.func127.trans (congrArg some (by kernel_rfl))
 f233:=Tryz.func130.trans (congrArg some (by kernel_rfl))
 f235:=Tryz.func132.trans (congrArg some (by kernel_rfl))
 f260:=Tryz.func208.trans (congrArg some (by kernel_rfl))
 f266:=Tryz.func186.trans (congrArg some (by kernel_rfl))
 t0:=Tryz.underlying0
 a0:=Tryz.isAgg0
 z0:=Tryz.sizeOf0
 v0:=Tryz.zeroValue0
 t3:=Tryz.underlying3
 a3:=Tryz.isAgg3
 z3:=Tryz.sizeOf3
 v3:=Tryz.zeroValue3
 t4:=Tryz.underlying4
 a4:=Tryz.isAgg4
 z4:=Tryz.sizeOf4
 v4:=Tryz.zeroValue4
 t5:=Tryz.underlying5
 a5:=Tryz.isAgg5
 z5:=Tryz.sizeOf5
 v5:=Tryz.zeroValue5
 t9:=Tryz.underlying9
 a9:=Tryz.isAgg9
 z9:=Tryz.sizeOf9
 v9:=Tryz.zeroValue9
 t21:=Tryz.underlying21
 a21:=Tryz.isAgg21
 z21:=Tryz.sizeOf21
 v21:=Tryz.zeroValue21
 t46:=Tryz.underlying157
 a46:=Tryz.isAgg157
 z46:=Tryz.sizeOf157
 v46:=Tryz.zeroValue157
 t105:=Tryz.underlying207
 a105:=Tryz.isAgg207
 z105:=Tryz.sizeOf207
 v105:=Tryz.zeroValue207
 t116:=Tryz.underlying176
 a116:=Tryz.isAgg176
 z116:=Tryz.sizeOf176
 t117:=Tryz.underlying177
 a117:=Tryz.isAgg177
 z117:=Tryz.sizeOf177
 v117:=Tryz.zeroValue177
 t119:=Tryz.underlying259
 a119:=Tryz.isAgg259
 z119:=Tryz.sizeOf259
 t124:=Tryz.underlying180
 a124:=Tryz.isAgg180
 z124:=Tryz.sizeOf180
 v124:=Tryz.zeroValue180
 t138:=Tryz.underlying261
 a138:=Tryz.isAgg261
 z138:=Tryz.sizeOf261
 v138:=Tryz.zeroValue261
 t139:=Tryz.underlying262
 a139:=Tryz.isAgg262
 z139:=Tryz.sizeOf262
 v139:=Tryz.zeroValue262
 g3:=by kernel_rfl
 g4:=by kernel_rfl }
open Go.RowKit in
theorem Tryz.strings_TrimLeft_one(s:ByteArray)(c:UInt8)(b:c.toNat<128)(w:World):
 Calls Tryz.prog 227 #[.string s,.string ⟨#[c]⟩] w fun e a=>e=.returned (.string ⟨(Lib.trimLeftB s.data.toList c).toArray⟩)/\a=w:=Any.strings_TrimLeft_one Tryz.lays161 s c b w
def Tryz.lays160_ren:Go.Shelf.Ren:=⟨fun|160=>91|232=>128|231=>127|227=>129|234=>131|233=>130|236=>133|235=>132|228=>166|271=>169|151=>168|197=>167|120=>210|152=>209|260=>208|137=>107|119=>241|224=>159|225=>158|217=>147|266=>186|n=>n,fun|9=>9|4=>4|3=>3|5=>5|117=>177|116=>176|0=>0|124=>180|21=>21|105=>207|46=>157|119=>259|139=>262|138=>261|n=>n,fun|3=>4|4=>5|n=>n⟩
theorem Tryz.lays160:Go.Proofs.Lays.n160 Tryz.prog Tryz.lays160_ren:={
 mixed:=by kernel_rfl
 f119:=Tryz.func241.trans (congrArg some (by kernel_rfl))
 f120:=Tryz.func210.trans (congrArg some (by kernel_rfl))
 f137:=Tryz.func107.trans (congrArg some (by kernel_rfl))
 f151:=Tryz.func168.trans (congrArg some (by kernel_rfl))
 f152:=Tryz.func209.trans (congrArg some (by kernel_rfl))
 f160:=Tryz.func91.trans (congrArg some (by kernel_rfl))
 f197:=Tryz.func167.trans (congrArg some (by kernel_rfl))
 f217:=Tryz.func147.trans (congrArg some (by kernel_rfl))
 f224:=Tryz.func159.trans (congrArg some (by kernel_rfl))
 f225:=Tryz.func158.trans (congrArg some (by kernel_rfl))
 f227:=Tryz.func129.trans (congrArg some (by kernel_rfl))
 f228:=Tryz.func166.trans (congrArg some (by kernel_rfl))
 f231:=Tryz.func127.trans (congrArg some (by kernel_rfl))
 f232:=Tryz.func128.trans (congrArg some (by kernel_rfl))
 f233:=Tryz.func130.trans (congrArg some (by kernel_rfl))
 f234:=Tryz.func131.trans (congrArg some (by kernel_rfl))
 f235:=Tryz.func132.trans (congrArg some (by kernel_rfl))
 f236:=Tryz.func133.trans (congrArg some (by kernel_rfl))
 f260:=Tryz.func208.trans (congrArg some (by kernel_rfl))
 f266:=Tryz.func186.trans (congrArg some (by kernel_rfl))
 f271:=Tryz.func169.trans (congrArg some (by kernel_rfl))
 t0:=Tryz.underlying0
 a0:=Tryz.isAgg0
 z0:=Tryz.sizeOf0
 v0:=Tryz.zeroValue0
 t3:=Tryz.underlying3
 a3:=Tryz.isAgg3
 z3:=Tryz.sizeOf3
 v3:=Tryz.zeroValue3
 t4:=Tryz.underlying4
 a4:=Tryz.isAgg4
 z4:=Tryz.sizeOf4
 v4:=Tryz.zeroValue4
 t5:=Tryz.underlying5
 a5:=Tryz.isAgg5
 z5:=Tryz.sizeOf5
 v5:=Tryz.zeroValue5
 t9:=Tryz.underlying9
 a9:=Tryz.isAgg9
 z9:=Tryz.sizeOf9
 v9:=Tryz.zeroValue9
 t21:=Tryz.underlying21
 a21:=Tryz.isAgg21
 z21:=Tryz.sizeOf21
 v21:=Tryz.zeroValue21
 t46:=Tryz.underlying157
 a46:=Tryz.isAgg157
 z46:=Tryz.sizeOf157
 v46:=Tryz.zeroValue157
 t105:=Tryz.underlying207
 a105:=Tryz.isAgg207
 z105:=Tryz.sizeOf207
 v105:=Tryz.zeroValue207
 t116:=Tryz.underlying176
 a116:=Tryz.isAgg176
 z116:=Tryz.sizeOf176
 t117:=Tryz.underlying177
 a117:=Tryz.isAgg177
 z117:=Tryz.sizeOf177
 v117:=Tryz.zeroValue177
 t119:=Tryz.underlying259
 a119:=Tryz.isAgg259
 z119:=Tryz.sizeOf259
 t124:=Tryz.underlying180
 a124:=Tryz.isAgg180
 z124:=Tryz.sizeOf180
 v124:=Tryz.zeroValue180
 t138:=Tryz.underlying261
 a138:=Tryz.isAgg261
 z138:=Tryz.sizeOf261
 v138:=Tryz.zeroValue261
 t139:=Tryz.underlying262
 a139:=Tryz.isAgg262
 z139:=Tryz.sizeOf262
 v139:=Tryz.zeroValue262
 g3:=by kernel_rfl
 g4:=by kernel_rfl }
def Tryz.lays133_ren:Go.Shelf.Ren:=⟨fun|133=>229|128=>252|n=>n,fun|51=>58|3=>3|4=>4|46=>157|5=>5|9=>9|n=>n,fun|n=>n⟩
theorem Tryz.lays133:Go.Proofs.Lays.n133 Tryz.prog Tryz.lays133_ren:={
 mixed:=by kernel_rfl
 f128:=Tryz.func252.trans (congrArg some (by kernel_rfl))
 f133:=Tryz.func229.trans (congrArg some (by kernel_rfl))
 t3:=Tryz.underlying3
 a3:=Tryz.isAgg3
 z3:=Tryz.sizeOf3
 v3:=Tryz.zeroValue3
 t4:=Tryz.underlying4
 a4:=Tryz.isAgg4
 z4:=Tryz.sizeOf4
 v4:=Tryz.zeroValue4
 t5:=Tryz.underlying5
 a5:=Tryz.isAgg5
 z5:=Tryz.sizeOf5
 v5:=Tryz.zeroValue5
 t9:=Tryz.underlying9
 a9:=Tryz.isAgg9
 z9:=Tryz.sizeOf9
 v9:=Tryz.zeroValue9
 t46:=Tryz.underlying157
 a46:=Tryz.isAgg157
 z46:=Tryz.sizeOf157
 v46:=Tryz.zeroValue157
 t51:=Tryz.underlying58
 a51:=Tryz.isAgg58
 z51:=Tryz.sizeOf58
 v51:=Tryz.zeroValue58 }
theorem Tryz.bits_LeadingZeros32(x:Int)(w:World)(c:0<=x)(b:x<=4294967295):
 Calls Tryz.prog 229 #[.int .u32 x] w fun e a=>e=.returned (.int .i64 (32-(Lib.bitLen x.toNat:Int)))/\a=w:=Any.bits_LeadingZeros32 Tryz.lays133 x w c b
def Tryz.lays137_ren:Go.Shelf.Ren:=⟨fun|137=>107|217=>147|266=>186|n=>n,fun|9=>9|5=>5|3=>3|n=>n,fun|n=>n⟩
theorem Tryz.lays137:Go.Proofs.Lays.n137 Tryz.prog Tryz.lays137_ren:={
 mixed:=by kernel_rfl
 f137:=Tryz.func107.trans (congrArg some (by kernel_rfl))
 f217:=Tryz.func147.trans (congrArg some (by kernel_rfl))
 f266:=Tryz.func186.trans (congrArg some (by kernel_rfl))
 t3:=Tryz.underlying3
 a3:=Tryz.isAgg3
 z3:=Tryz.sizeOf3
 v3:=Tryz.zeroValue3
 t5:=Tryz.underlying5
 a5:=Tryz.isAgg5
 z5:=Tryz.sizeOf5
 v5:=Tryz.zeroValue5
 t9:=Tryz.underlying9
 a9:=Tryz.isAgg9
 z9:=Tryz.sizeOf9
 v9:=Tryz.zeroValue9 }
open Go.RowKit in
theorem Tryz.strings_IndexByte(s:ByteArray)(c:Int)(w:World):
 Calls Tryz.prog 107 #[.string s,.int .u8 c] w fun e a=>e=.returned (.int .i64 (Lib.indexByte s.data.toList c.toNat.toUInt8))/\a=w:=Any.strings_IndexByte Tryz.lays137 s c w
def Tryz.lays103_ren:Go.Shelf.Ren:=⟨fun|103=>88|210=>123|206=>145|n=>n,fun|9=>9|4=>4|24=>124|3=>3|n=>n,fun|n=>n⟩
theorem Tryz.lays103:Go.Proofs.Lays.n103 Tryz.prog Tryz.lays103_ren:={
 mixed:=by kernel_rfl
 f103:=Tryz.func88.trans (congrArg some (by kernel_rfl))
 f206:=Tryz.func145.trans (congrArg some (by kernel_rfl))
 f210:=Tryz.func123.trans (congrArg some (by kernel_rfl))
 t3:=Tryz.underlying3
 a3:=Tryz.isAgg3
 z3:=Tryz.sizeOf3
 v3:=Tryz.zeroValue3
 t4:=Tryz.underlying4
 a4:=Tryz.isAgg4
 z4:=Tryz.sizeOf4
 v4:=Tryz.zeroValue4
 t9:=Tryz.underlying9
 a9:=Tryz.isAgg9
 z9:=Tryz.sizeOf9
 v9:=Tryz.zeroValue9
 t24:=Tryz.underlying124
 a24:=Tryz.isAgg124
 z24:=Tryz.sizeOf124
 v24:=Tryz.zeroValue124 }
open Go.RowKit in
theorem Tryz.strings_CutPrefix(s p:ByteArray)(w:World):
 Calls Tryz.prog 88 #[.string s,.string p] w fun e a=>e=.returned (.tuple #[.string ⟨(Lib.trimPrefix s.data.toList p.data.toList).toArray⟩,.bool (Lib.hasPrefix s.data.toList p.data.toList)])/\a=w:=Any.strings_CutPrefix Tryz.lays103 s p w
def Tryz.lays172_ren:Go.Shelf.Ren:=⟨fun|172=>90|244=>125|245=>126|247=>161|279=>162|280=>163|281=>164|282=>165|287=>205|316=>206|171=>28|205=>207|321=>239|322=>240|243=>59|246=>100|283=>137|284=>138|285=>139|286=>140|129=>177|317=>176|318=>178|319=>179|320=>180|337=>218|338=>219|n=>n,fun|9=>9|3=>3|75=>26|76=>51|4=>4|5=>5|167=>201|37=>47|0=>0|85=>202|2=>2|168=>204|53=>117|175=>239|46=>157|210=>242|127=>119|145=>258|143=>256|21=>21|171=>182|173=>185|212=>214|51=>58|20=>20|213=>215|232=>264|233=>265|80=>75|n=>n,fun|15=>2|16=>3|17=>1|18=>6|19=>7|n=>n⟩
theorem Tryz.lays172:Go.Proofs.Lays.n172 Tryz.prog Tryz.lays172_ren:={
 mixed:=by kernel_rfl
 f129:=Tryz.func177.trans (congrArg some (by kernel_rfl))
 f171:=Tryz.func28.trans (congrArg some (by kernel_rfl))
 f172:=Tryz.func90.trans (congrArg some (by kernel_rfl))
 f205:=Tryz.func207.trans (congrArg some (by kernel_rfl))
 f243:=Tryz.func59.trans (congrArg some (by kernel_rfl))
 f244:=Tryz.func125.trans (congrArg some (by kernel_rfl))
 f245:=Tryz.func126.trans (congrArg some (by kernel_rfl))
 f246:=Tryz.func100.trans (congrArg some (by kernel_rfl))
 f247:=Tryz.func161.trans (congrArg some (by kernel_rfl))
 f279:=Tryz.func162.trans (congrArg some (by kernel_rfl))
 f280:=Tryz.func163.trans (congrArg some (by kernel_rfl))
 f281:=Tryz.func164.trans (congrArg some (by kernel_rfl))
 f282:=Tryz.func165.trans (congrArg some (by kernel_rfl))
 f283:=Tryz.func137.trans (congrArg some (by kernel_rfl))
 f284:=Tryz.func138.trans (congrArg some (by kernel_rfl))
 f285:=Tryz.func139.trans (congrArg some (by kernel_rfl))
 f286:=Tryz.func140.trans (congrArg some (by kernel_rfl))
 f287:=Tryz.func205.trans (congrArg some (by kernel_rfl))
 f316:=Tryz.func206.trans (congrArg some (by kernel_rfl))
 f317:=Tryz.func176.trans (congrArg some (by kernel_rfl))
 f318:=Tryz.func178.trans (congrArg some (by kernel_rfl))
 f319:=Tryz.func179.trans (congrArg some (by kernel_rfl))
 f320:=Tryz.func180.trans (congrArg some (by kernel_rfl))
 f321:=Tryz.func239.trans (congrArg some (by kernel_rfl))
 f322:=Tryz.func240.trans (congrArg some (by kernel_rfl))
 f337:=Tryz.func218.trans (congrArg some (by kernel_rfl))
 f338:=Tryz.func219.trans (congrArg some (by kernel_rfl))
 t0:=Tryz.underlying0
 a0:=Tryz.isAgg0
 z0:=Tryz.sizeOf0
 v0:=Tryz.zeroValue0
 t2:=Tryz.underlying2
 a2:=Tryz.isAgg2
 z2:=Tryz.sizeOf2
 v2:=Tryz.zeroValue2
 t3:=Tryz.underlying3
 a3:=Tryz.isAgg3
 z3:=Tryz.sizeOf3
 v3:=Tryz.zeroValue3
 t4:=Tryz.underlying4
 a4:=Tryz.isAgg4
 z4:=Tryz.sizeOf4
 v4:=Tryz.zeroValue4
 t5:=Tryz.underlying5
 a5:=Tryz.isAgg5
 z5:=Tryz.sizeOf5
 v5:=Tryz.zeroValue5
 t9:=Tryz.underlying9
 a9:=Tryz.isAgg9
 z9:=Tryz.sizeOf9
 v9:=Tryz.zeroValue9
 t20:=Tryz.underlying20
 a20:=Tryz.isAgg20
 z20:=Tryz.sizeOf20
 v20:=Tryz.zeroValue20
 t21:=Tryz.underlying21
 a21:=Tryz.isAgg21
 z21:=Tryz.sizeOf21
 v21:=Tryz.zeroValue21
 t37:=Tryz.underlying47
 a37:=Tryz.isAgg47
 z37:=Tryz.sizeOf47
 v37:=Tryz.zeroValue47
 t46:=Tryz.underlying157
 a46:=Tryz.isAgg157
 z46:=Tryz.sizeOf157
 v46:=Tryz.zeroValue157
 t51:=Tryz.underlying58
 a51:=Tryz.isAgg58
 z51:=Tryz.sizeOf58
 v51:=Tryz.zeroValue58
 t53:=Tryz.underlying117
 a53:=Tryz.isAgg117
 z53:=Tryz.sizeOf117
 v53:=Tryz.zeroValue117
 t75:=Tryz.underlying26
 a75:=Tryz.isAgg26
 z75:=Tryz.sizeOf26
 v75:=Tryz.zeroValue26
 t76:=Tryz.underlying51
 a76:=Tryz.isAgg51
 z76:=Tryz.sizeOf51
 v76:=Tryz.zeroValue51
 t85:=Tryz.underlying202
 a85:=Tryz.isAgg202
 z85:=Tryz.sizeOf202
 v85:=Tryz.zeroValue202
 t127:=Tryz.underlying119
 a127:=Tryz.isAgg119
 z127:=Tryz.sizeOf119
 v127:=Tryz.zeroValue119
 t143:=Tryz.underlying256
 a143:=Tryz.isAgg256
 z143:=Tryz.sizeOf256
 v143:=Tryz.zeroValue256
 t145:=Tryz.underlying258
 a145:=Tryz.isAgg258
 z145:=Tryz.sizeOf258
 v145:=Tryz.zeroValue258
 t167:=Tryz.underlying201
 a167:=Tryz.isAgg201
 z167:=Tryz.sizeOf201
 v167:=Tryz.zeroValue201
 t168:=Tryz.underlying204
 a168:=Tryz.isAgg204
 z168:=Tryz.sizeOf204
 v168:=Tryz.zeroValue204
 t171:=Tryz.underlying182
 a171:=Tryz.isAgg182
 z171:=Tryz.sizeOf182
 v171:=Tryz.zeroValue182
 t173:=Tryz.underlying185
 a173:=Tryz.isAgg185
 z173:=Tryz.sizeOf185
 v173:=Tryz.zeroValue185
 t175:=Tryz.underlying239
 a175:=Tryz.isAgg239
 z175:=Tryz.sizeOf239
 v175:=Tryz.zeroValue239
 t210:=Tryz.underlying242
 a210:=Tryz.isAgg242
 z210:=Tryz.sizeOf242
 v210:=Tryz.zeroValue242
 t212:=Tryz.underlying214
 a212:=Tryz.isAgg214
 z212:=Tryz.sizeOf214
 v212:=Tryz.zeroValue214
 t213:=Tryz.underlying215
 a213:=Tryz.isAgg215
 z213:=Tryz.sizeOf215
 t232:=Tryz.underlying264
 a232:=Tryz.isAgg264
 z232:=Tryz.sizeOf264
 v232:=Tryz.zeroValue264
 t233:=Tryz.underlying265
 a233:=Tryz.isAgg265
 z233:=Tryz.sizeOf265
 v233:=Tryz.zeroValue265
 g15:=by kernel_rfl
 g16:=by kernel_rfl
 g17:=by kernel_rfl
 g18:=by kernel_rfl
 g19:=by kernel_rfl }
open Go.RowKit in
theorem Tryz.strconv_Atoi(s:ByteArray)(n:Int)(b:s.size<=18)(h:Lib.atoi s.data.toList=some n)(w:World):
 Calls Tryz.prog 90 #[.string s] w fun e a=>e=.returned (.tuple #[.int .i64 n,.nilIface])/\∃t,a=Lib.bytesWorld w 5 t:=Any.strconv_Atoi Tryz.lays172 s n b h w
def Tryz.laysM171_ren:Go.Shelf.Ren:=⟨fun|171=>28|243=>59|246=>100|283=>137|284=>138|285=>139|286=>140|129=>177|317=>176|318=>178|319=>179|320=>180|337=>218|338=>219|n=>n,fun|3=>3|9=>9|2=>2|4=>4|171=>182|0=>0|53=>117|37=>47|5=>5|173=>185|212=>214|51=>58|20=>20|213=>215|46=>157|232=>264|233=>265|n=>n,fun|17=>1|18=>6|19=>7|n=>n⟩
theorem Tryz.laysM171:Go.Proofs.LaysM.n171 Tryz.prog Tryz.laysM171_ren:={
 mixed:=by kernel_rfl
 f129:=Tryz.func177.trans (congrArg some (by kernel_rfl))
 f171:=Tryz.func28.trans (congrArg some (by kernel_rfl))
 f243:=Tryz.func59.trans (congrArg some (by kernel_rfl))
 f246:=Tryz.func100.trans (congrArg some (by kernel_rfl))
 f283:=Tryz.func137.trans (congrArg some (by kernel_rfl))
 f284:=Tryz.func138.trans (congrArg some (by kernel_rfl))
 f285:=Tryz.func139.trans (congrArg some (by kernel_rfl))
 f286:=Tryz.func140.trans (congrArg some (by kernel_rfl))
 f317:=Tryz.func176.trans (congrArg some (by kernel_rfl))
 f318:=Tryz.func178.trans (congrArg some (by kernel_rfl))
 f319:=Tryz.func179.trans (congrArg some (by kernel_rfl))
 f320:=Tryz.func180.trans (congrArg some (by kernel_rfl))
 f337:=Tryz.func218.trans (congrArg some (by kernel_rfl))
 f338:=Tryz.func219.trans (congrArg some (by kernel_rfl))
 t0:=Tryz.underlying0
 a0:=Tryz.isAgg0
 z0:=Tryz.sizeOf0
 v0:=Tryz.zeroValue0
 t2:=Tryz.underlying2
 a2:=Tryz.isAgg2
 z2:=Tryz.sizeOf2
 v2:=Tryz.zeroValue2
 t3:=Tryz.underlying3
 a3:=Tryz.isAgg3
 z3:=Tryz.sizeOf3
 v3:=Tryz.zeroValue3
 t4:=Tryz.underlying4
 a4:=Tryz.isAgg4
 z4:=Tryz.sizeOf4
 v4:=Tryz.zeroValue4
 t5:=Tryz.underlying5
 a5:=Tryz.isAgg5
 z5:=Tryz.sizeOf5
 v5:=Tryz.zeroValue5
 t9:=Tryz.underlying9
 a9:=Tryz.isAgg9
 z9:=Tryz.sizeOf9
 v9:=Tryz.zeroValue9
 t20:=Tryz.underlying20
 a20:=Tryz.isAgg20
 z20:=Tryz.sizeOf20
 v20:=Tryz.zeroValue20
 t37:=Tryz.underlying47
 a37:=Tryz.isAgg47
 z37:=Tryz.sizeOf47
 v37:=Tryz.zeroValue47
 t46:=Tryz.underlying157
 a46:=Tryz.isAgg157
 z46:=Tryz.sizeOf157
 v46:=Tryz.zeroValue157
 t51:=Tryz.underlying58
 a51:=Tryz.isAgg58
 z51:=Tryz.sizeOf58
 v51:=Tryz.zeroValue58
 t53:=Tryz.underlying117
 a53:=Tryz.isAgg117
 z53:=Tryz.sizeOf117
 v53:=Tryz.zeroValue117
 t171:=Tryz.underlying182
 a171:=Tryz.isAgg182
 z171:=Tryz.sizeOf182
 v171:=Tryz.zeroValue182
 t173:=Tryz.underlying185
 a173:=Tryz.isAgg185
 z173:=Tryz.sizeOf185
 v173:=Tryz.zeroValue185
 t212:=Tryz.underlying214
 a212:=Tryz.isAgg214
 z212:=Tryz.sizeOf214
 v212:=Tryz.zeroValue214
 t213:=Tryz.underlying215
 a213:=Tryz.isAgg215
 z213:=Tryz.sizeOf215
 t232:=Tryz.underlying264
 a232:=Tryz.isAgg264
 z232:=Tryz.sizeOf264
 v232:=Tryz.zeroValue264
 t233:=Tryz.underlying265
 a233:=Tryz.isAgg265
 z233:=Tryz.sizeOf265
 v233:=Tryz.zeroValue265
 g17:=by kernel_rfl
 g18:=by kernel_rfl
 g19:=by kernel_rfl
 i0:=by kernel_rfl
 i2:=by kernel_rfl
 i3:=by kernel_rfl
 i4:=by kernel_rfl
 i5:=by kernel_rfl
 i9:=by kernel_rfl
 i20:=by kernel_rfl
 i37:=by kernel_rfl
 i46:=by kernel_rfl
 i51:=by kernel_rfl
 i53:=by kernel_rfl
 i171:=by kernel_rfl
 i173:=by kernel_rfl
 i212:=by kernel_rfl
 i232:=by kernel_rfl
 i233:=by kernel_rfl
 m17:=by kernel_rfl
 m18:=by kernel_rfl
 m19:=by kernel_rfl }
open Go.RowKit Go.Sort Go.Lib in
theorem Tryz.strconv_Itoa(n : Int)(d : -9223372036854775808 <= n)(c : n <= 9223372036854775807)(w : World)(a : Lib.TabIs Tryz.prog w "internal/strconv.uint64pow10" .u64 Lib.pow10Tab):
 Calls Tryz.prog 28 #[.int .i64 n] w fun e b=>e=.returned (.string ⟨(Lib.itoa n).toArray⟩)/\∃k os,b=grow (w.drewN k) os:=Any.strconv_Itoa Tryz.laysM171 n d c w a
def Tryz.lays145_ren:Go.Shelf.Ren:=⟨fun|145=>49|220=>89|219=>124|217=>147|225=>158|224=>159|267=>160|266=>186|314=>204|n=>n,fun|9=>9|4=>4|59=>102|3=>3|5=>5|46=>157|146=>187|51=>58|n=>n,fun|1=>0|n=>n⟩
theorem Tryz.lays145:Go.Proofs.Lays.n145 Tryz.prog Tryz.lays145_ren:={
 mixed:=by kernel_rfl
 f145:=Tryz.func49.trans (congrArg some (by kernel_rfl))
 f217:=Tryz.func147.trans (congrArg some (by kernel_rfl))
 f219:=Tryz.func124.trans (congrArg some (by kernel_rfl))
 f220:=Tryz.func89.trans (congrArg some (by kernel_rfl))
 f224:=Tryz.func159.trans (congrArg some (by kernel_rfl))
 f225:=Tryz.func158.trans (congrArg some (by kernel_rfl))
 f266:=Tryz.func186.trans (congrArg some (by kernel_rfl))
 f267:=Tryz.func160.trans (congrArg some (by kernel_rfl))
 f314:=Tryz.func204.trans (congrArg some (by kernel_rfl))
 t3:=Tryz.underlying3
 a3:=Tryz.isAgg3
 z3:=Tryz.sizeOf3
 v3:=Tryz.zeroValue3
 t4:=Tryz.underlying4
 a4:=Tryz.isAgg4
 z4:=Tryz.sizeOf4
 v4:=Tryz.zeroValue4
 t5:=Tryz.underlying5
 a5:=Tryz.isAgg5
 z5:=Tryz.sizeOf5
 v5:=Tryz.zeroValue5
 t9:=Tryz.underlying9
 a9:=Tryz.isAgg9
 z9:=Tryz.sizeOf9
 v9:=Tryz.zeroValue9
 t46:=Tryz.underlying157
 a46:=Tryz.isAgg157
 z46:=Tryz.sizeOf157
 v46:=Tryz.zeroValue157
 t51:=Tryz.underlying58
 a51:=Tryz.isAgg58
 z51:=Tryz.sizeOf58
 v51:=Tryz.zeroValue58
 t59:=Tryz.underlying102
 a59:=Tryz.isAgg102
 z59:=Tryz.sizeOf102
 v59:=Tryz.zeroValue102
 t146:=Tryz.underlying187
 a146:=Tryz.isAgg187
 z146:=Tryz.sizeOf187
 v146:=Tryz.zeroValue187
 g1:=by kernel_rfl }
open Go.RowKit Go.Lib in
theorem Tryz.strings_Cut(s a:ByteArray)(m:Int)(w:World)(d:s.size<4294967281)(b:w.cell? ⟨0,0,none⟩=some (.int .i64 m)):
 Calls Tryz.prog 49 #[.string s,.string a] w fun e c=>e=.returned (.tuple #[.string ⟨(Lib.cut s.data.toList a.data.toList).1.toArray⟩,.string ⟨(Lib.cut s.data.toList a.data.toList).2.1.toArray⟩,.bool (Lib.cut s.data.toList a.data.toList).2.2])/\∃n,c=w.drewN n:=Any.strings_Cut Tryz.lays145 s a m w d b
def Tryz.lays99_ren:Go.Shelf.Ren:=⟨fun|99=>105|206=>145|n=>n,fun|9=>9|4=>4|3=>3|n=>n,fun|n=>n⟩
theorem Tryz.lays99:Go.Proofs.Lays.n99 Tryz.prog Tryz.lays99_ren:={
 mixed:=by kernel_rfl
 f99:=Tryz.func105.trans (congrArg some (by kernel_rfl))
 f206:=Tryz.func145.trans (congrArg some (by kernel_rfl))
 t3:=Tryz.underlying3
 a3:=Tryz.isAgg3
 z3:=Tryz.sizeOf3
 v3:=Tryz.zeroValue3
 t4:=Tryz.underlying4
 a4:=Tryz.isAgg4
 z4:=Tryz.sizeOf4
 v4:=Tryz.zeroValue4
 t9:=Tryz.underlying9
 a9:=Tryz.isAgg9
 z9:=Tryz.sizeOf9
 v9:=Tryz.zeroValue9 }
open Go.RowKit Go.Lib in
theorem Tryz.strings_HasPrefix(s p:ByteArray)(w:World):
 Calls Tryz.prog 105 #[.string s,.string p] w fun e a=>e=.returned (.bool (Lib.hasPrefix s.data.toList p.data.toList))/\a=w:=Any.strings_HasPrefix Tryz.lays99 s p w
def Tryz.lays101_ren:Go.Shelf.Ren:=⟨fun|101=>223|208=>249|206=>145|n=>n,fun|9=>9|4=>4|3=>3|n=>n,fun|n=>n⟩
theorem Tryz.lays101:Go.Proofs.Lays.n101 Tryz.prog Tryz.lays101_ren:={
 mixed:=by kernel_rfl
 f101:=Tryz.func223.trans (congrArg some (by kernel_rfl))
 f206:=Tryz.func145.trans (congrArg some (by kernel_rfl))
 f208:=Tryz.func249.trans (congrArg some (by kernel_rfl))
 t3:=Tryz.underlying3
 a3:=Tryz.isAgg3
 z3:=Tryz.sizeOf3
 v3:=Tryz.zeroValue3
 t4:=Tryz.underlying4
 a4:=Tryz.isAgg4
 z4:=Tryz.sizeOf4
 v4:=Tryz.zeroValue4
 t9:=Tryz.underlying9
 a9:=Tryz.isAgg9
 z9:=Tryz.sizeOf9
 v9:=Tryz.zeroValue9 }
open Go.RowKit Go.Lib in
theorem Tryz.strings_TrimPrefix(s p:ByteArray)(w:World):
 Calls Tryz.prog 223 #[.string s,.string p] w fun e a=>e=.returned (.string ⟨(Lib.trimPrefix s.data.toList p.data.toList).toArray⟩)/\a=w:=Any.strings_TrimPrefix Tryz.lays101 s p w
def Tryz.lays105_ren:Go.Shelf.Ren:=⟨fun|105=>65|212=>104|99=>105|165=>102|166=>27|170=>31|169=>32|263=>143|264=>144|206=>145|240=>58|241=>142|276=>99|277=>183|n=>n,fun|9=>9|3=>3|4=>4|20=>20|0=>0|46=>157|109=>158|5=>5|72=>70|76=>51|51=>58|146=>187|53=>117|148=>189|70=>68|37=>47|75=>26|127=>119|164=>152|80=>75|n=>n,fun|n=>n⟩
theorem Tryz.lays105:Go.Proofs.Lays.n105 Tryz.prog Tryz.lays105_ren:={
 mixed:=by kernel_rfl
 f99:=Tryz.func105.trans (congrArg some (by kernel_rfl))
 f105:=Tryz.func65.trans (congrArg some (by kernel_rfl))
 f165:=Tryz.func102.trans (congrArg some (by kernel_rfl))
 f166:=Tryz.func27.trans (congrArg some (by kernel_rfl))
 f169:=Tryz.func32.trans (congrArg some (by kernel_rfl))
 f170:=Tryz.func31.trans (congrArg some (by kernel_rfl))
 f206:=Tryz.func145.trans (congrArg some (by kernel_rfl))
 f212:=Tryz.func104.trans (congrArg some (by kernel_rfl))
 f240:=Tryz.func58.trans (congrArg some (by kernel_rfl))
 f241:=Tryz.func142.trans (congrArg some (by kernel_rfl))
 f263:=Tryz.func143.trans (congrArg some (by kernel_rfl))
 f264:=Tryz.func144.trans (congrArg some (by kernel_rfl))
 f276:=Tryz.func99.trans (congrArg some (by kernel_rfl))
 f277:=Tryz.func183.trans (congrArg some (by kernel_rfl))
 t0:=Tryz.underlying0
 a0:=Tryz.isAgg0
 z0:=Tryz.sizeOf0
 v0:=Tryz.zeroValue0
 t3:=Tryz.underlying3
 a3:=Tryz.isAgg3
 z3:=Tryz.sizeOf3
 v3:=Tryz.zeroValue3
 t4:=Tryz.underlying4
 a4:=Tryz.isAgg4
 z4:=Tryz.sizeOf4
 v4:=Tryz.zeroValue4
 t5:=Tryz.underlying5
 a5:=Tryz.isAgg5
 z5:=Tryz.sizeOf5
 v5:=Tryz.zeroValue5
 t9:=Tryz.underlying9
 a9:=Tryz.isAgg9
 z9:=Tryz.sizeOf9
 v9:=Tryz.zeroValue9
 t20:=Tryz.underlying20
 a20:=Tryz.isAgg20
 z20:=Tryz.sizeOf20
 v20:=Tryz.zeroValue20
 t37:=Tryz.underlying47
 a37:=Tryz.isAgg47
 z37:=Tryz.sizeOf47
 v37:=Tryz.zeroValue47
 t46:=Tryz.underlying157
 a46:=Tryz.isAgg157
 z46:=Tryz.sizeOf157
 v46:=Tryz.zeroValue157
 t51:=Tryz.underlying58
 a51:=Tryz.isAgg58
 z51:=Tryz.sizeOf58
 v51:=Tryz.zeroValue58
 t53:=Tryz.underlying117
 a53:=Tryz.isAgg117
 z53:=Tryz.sizeOf117
 v53:=Tryz.zeroValue117
 t70:=Tryz.underlying68
 a70:=Tryz.isAgg68
 z70:=Tryz.sizeOf68
 v70:=Tryz.zeroValue68
 t72:=Tryz.underlying70
 a72:=Tryz.isAgg70
 z72:=Tryz.sizeOf70
 v72:=Tryz.zeroValue70
 t75:=Tryz.underlying26
 a75:=Tryz.isAgg26
 z75:=Tryz.sizeOf26
 v75:=Tryz.zeroValue26
 t76:=Tryz.underlying51
 a76:=Tryz.isAgg51
 z76:=Tryz.sizeOf51
 v76:=Tryz.zeroValue51
 t109:=Tryz.underlying158
 a109:=Tryz.isAgg158
 z109:=Tryz.sizeOf158
 v109:=Tryz.zeroValue158
 t127:=Tryz.underlying119
 a127:=Tryz.isAgg119
 z127:=Tryz.sizeOf119
 v127:=Tryz.zeroValue119
 t146:=Tryz.underlying187
 a146:=Tryz.isAgg187
 z146:=Tryz.sizeOf187
 v146:=Tryz.zeroValue187
 t148:=Tryz.underlying189
 a148:=Tryz.isAgg189
 z148:=Tryz.sizeOf189
 v148:=Tryz.zeroValue189
 t164:=Tryz.underlying152
 a164:=Tryz.isAgg152
 z164:=Tryz.sizeOf152
 v164:=Tryz.zeroValue152 }
theorem Tryz.Builder_Extra_105:Builder.Extra Tryz.prog Tryz.lays105_ren:={
 sizeBuilder:=by kernel_rfl
 liesBuilder:=by kernel_rfl
 t5:=Tryz.underlying5
 a5:=Tryz.isAgg5
 z5:=Tryz.sizeOf5
 v5:=Tryz.zeroValue5
 infoByte:=by kernel_rfl
 cellsByte:=by kernel_rfl
 sizeByte:=by kernel_rfl
 neB5:=by decide }
open Go.RowKit Go.Lib in
theorem Tryz.strings_Repeat(s:ByteArray)(c:Nat)(w:World)(d:c<=9223372036854775807)(a:s.size*c<=140737488355328):
 Calls Tryz.prog 65 #[.string s,.int .i64 c] w fun e b=>e=.returned (.string ⟨(Lib.repeatL s.data.toList c).toArray⟩)/\Below w.heap.size w b:=Any.strings_Repeat Tryz.lays105 Tryz.Builder_Extra_105 s c w d a
end Go.Proofs

/- Walks: the long division, first part: where no division is made, and by one word. -/
namespace Go.Proofs.YtfilnhompchciaaGreatDoor
open Go Go.RowKit Bn
attribute [local go_sem ↓] Go.wp_at_zero Go.wp_at_succ

theorem qJ(w:World)(z:Int)(x:Nat)(b:z=x)(c:x<4294967296):Wd (w.alloc (.cells #[.int .u32 z] 58)) (some ⟨w.heap.size,0,none⟩) 1 1 [x]:=by
 subst b;exact(Blk.new w 58 (cellsOf [x])).wdN (by intro y a;simp at a;omega) rfl
def sH(w:World)(a b:Nat)(e:Ending)(w':World):Prop:=∃A1 n1 c1 A2 n2 c2,e=.returned (.tuple #[.slice A1 n1 c1,.slice A2 n2 c2])/\Wd w' A1 n1 c1 (au (a/b))/\Wd w' A2 n2 c2 (au (a%b))/\Below w.heap.size w w'
theorem vl(w:World)(A n c l)(i:Wd w A n c l)(o:n<=1099511627776)(A' n' c' l')(p:Wd w A' n' c' l')(d:n'<=1099511627776)(r:aX l)(g:aX l')(a:val l<val l'):
 Calls Tryz.prog 196 #[.slice A n c,.slice A' n' c'] w (sH w (val l) (val l')):=by
 have h:=jl w A n c l i o A' n' c' l' p d r g;rw[show bS (val l) (val l')=-1 by unfold bS;rw[kZ a]]at h;have k:=Qh h;have j:=Qh (And.intro (Nat.div_eq_of_lt a) (Nat.mod_eq_of_lt a));clear h a;go_in
 go_wp2_with (first
  |(go_at_call 193;refine(k.out).mono ?_;rintro e t⟨rfl,b⟩)
  |(go_at_call 226;(refine(gB _ A n c l ?_ (by omega)).mono ?_);exact i.keep ((Kp.refl _).below b);rintro e u⟨q,s,c2,rfl,m,f⟩))
 go_ret2;refine⟨none,0,0,q,s,c2,rfl,?_,?_,b.trans (f.mono b.size)⟩
 ·rw[j.out.1,ax];exact Wd.nil_ _
 rw[j.out.2];exact m
theorem sI(w:World)(A n c l)(v:Wd w A n c l)(z:n<=1099511627776)(A' n' c' l')(r:Wd w A' n' c' l')(I:aX l)(f:aX l')(q:val l'<=val l)(k:n'=1):
 Calls Tryz.prog 196 #[.slice A n c,.slice A' n' c'] w (sH w (val l) (val l')):=by
 subst k;have d:=r.2.1
 obtain⟨y,rfl⟩:∃y,l'=[y]:=by
  match l',d with
  |[y],_=>exact⟨y,rfl⟩
 have i:y<4294967296:=f.1 y (by simp);have m:0<y:=by have:=f.2;simp at this;omega
 have C:val [y]=y:=by simp[val]
 have s:=jl w A n c l v z A' 1 c' [y] r (by omega) I f;obtain⟨c0,h,u⟩:∃c0,bS (val l) (val [y])=c0/\0<=c0:=⟨_,rfl,by unfold bS;rw[kl (by omega)];split<;>omega⟩;rw[h]at s;have E:=Qh s;have H:=Qh C;obtain⟨g',F,rfl,t,b⟩:=r.at2 (by omega);have j:=b 0 (by omega);simp only[wd,List.getD_cons_zero,Nat.add_zero]at j;clear s h b C d q;go_in
 go_wp2_with (first
  |(go_at_call 193;refine(E.out).mono ?_;rintro e J⟨rfl,a⟩;have B:=(a.cell (p:=⟨g',F,none⟩) t).trans j)
  |(go_at_call 220;(refine(tS _ A n c l ?_ z y m i).mono ?_);exact v.keep ((Kp.refl _).below a);rintro e P⟨O,M,c2,rfl,D,g⟩)
  |(go_at_call 226;(refine(gB _ _ 1 1 [val l%y] ?_ (by omega)).mono ?_);exact qJ _ _ _ (by simp) (Nat.lt_trans (Nat.mod_lt _ m) i);rintro e K⟨N,L,c3,rfl,x,o⟩))
 go_ret2;rw[H.out];have G:val [val l%y]=val l%y:=by simp[val]
 rw[G]at x;exact⟨_,_,_,_,_,_,rfl,D.keep (((Kp.refl _).alloc _).below o),x,((a.trans (g.mono a.size)).alloc (Nat.le_trans a.size g.size) _).trans (o.mono (Nat.le_trans (Nat.le_trans a.size g.size) (by simp)))⟩

theorem nC(x:Nat)(c:x≠0)(a:x<2^64):∃k,Lib.bitLen x=k+1/\2^k<=x/\x<2^(k+1):=by
 induction x using Nat.strongRecOn with
 |ind x ih =>
  have hb:=Lib.bitLen_half x c a;by_cases h2:x/2=0
  ·refine⟨0,?_,by omega,by omega⟩
   rw[hb,h2];rfl
  obtain⟨k,b,f,d⟩:=ih (x/2) (by omega) h2 (by omega);refine⟨k+1,by rw[hb,b];omega,?_,?_⟩
  ·rw[Nat.pow_succ];omega
  rw[Nat.pow_succ];omega
theorem x8{x:Nat}(f:x≠0)(j:x<4294967296):∃m:Nat,m<32/\(32-(Lib.bitLen x:Int))=(m:Int)/\2147483648<=x*2^m/\(x+1)*2^m<=4294967296:=by
 obtain⟨k,c,b,a⟩:=nC x f (by omega)
 have i:k<32:=by
  rcases Nat.lt_or_ge k 32 with h|h
  ·exact h
  have:2^32<=2^k:=Nat.pow_le_pow_right (by omega) h;omega
 obtain⟨d,g⟩:=sG (x:=x) (k:=k) (m:=31-k) (by omega) b a;exact⟨31-k,by omega,by rw[c];omega,d,g⟩

def lc(hd top q:Nat)(gx rx:Value):Prop:=∃g r:Nat,gx=.int .u64 (g:Nat)/\rx=.int .u64 (r:Nat)/\g<=4294967298/\r<8589934592/\uX (g*top+r=hd/\q<=g)
theorem lc.mk{hd top q:Nat}(g r:Nat){x y:Int}(d:x=(g:Int))(b:y=(r:Int))(h:g<=4294967298)(c:r<8589934592)(f:g*top+r=hd)(a:q<=g):lc hd top q (.int .u64 x) (.int .u64 y) :=
 ⟨g,r,by rw[d],by rw[b],h,c,f,a⟩
def Da(V U0 k:Nat)(Lu Lq:List Nat):Prop:=Wds Lu/\Wds Lq/\(∀j,j<k->wd Lq j=0)/\val Lu<V*4294967296^k/\val Lu+V*val Lq=U0
theorem pq{Q:List Nat}{i x:Nat}(b:wd Q i=0)(a:i<Q.length):val (Q.set i x)=val Q+x*4294967296^i:=by
 have h:=eu Q i x Q.length a a;rw[b,Nat.zero_mul,Nat.add_zero,bf _ (by rw[xv];exact Qr),bf _ Qr]at h;exact h
theorem ku{V l k d P q:Nat}{L h Q:List Nat}(c:Da V l k L Q)(u:0<k)(n:k<=Q.length)(hw:Win L h (k-1) (d+1))(r:val L<4294967296^(k-1+(d+1)))(s:val L=Sm (wd L) (k-1)+4294967296^(k-1)*P)
 (g:Sm (wn h (k-1)) (d+1)=P%V) (o:P/V=q) (f:q<4294967296) (t:0<V):Da V l (k-1) h (Q.set (k-1) q):=by
 have a:=qD r hw;rw[g]at a;have b:Sm (wd L) (k-1)<4294967296^(k-1):=fW fun i _=>cf c.1 _
 obtain⟨p,m⟩:=C9 c.2.2.2.2 s a o.symm b t;refine⟨hw.2.1,wds_set c.2.1 _ f,fun j v=>?_,m,?_⟩
 ·rw[cq,kl (by omega)];exact c.2.2.1 j (by omega)
 rw[pq (c.2.2.1 _ (by omega)) (by omega)];exact p
theorem nD(N:Nat):val (List.replicate N 0)=0:=by
 induction N with
 |zero=>rfl
 |succ N ih=>rw[GD,val,ih]
theorem pr(N j:Nat):wd (List.replicate N 0) j=0:=by
 unfold wd;by_cases hj:j<N<;>simp[List.getD,hj]
theorem nF(N:Nat):Wds (List.replicate N 0):=by intro x a;rw[zD a];omega
theorem vm{l a:List Nat}{n b N m:Nat}(hw:Wds l)(i:n=l.length)(d:aX a)(c:b=a.length)(j:2<=b)(s:N=n+1-b)(k:b<=n):val l*2^m<val a*2^m*4294967296^N:=by
 have g:=dl hw;have f:=sB d (by rintro rfl;simp at c;omega);rw[<-i]at g;rw[<-c]at f;have q:4294967296^(b-1)*4294967296^N<=val a*4294967296^N:=Nat.mul_le_mul_right _ f;have o:4294967296^(b-1)*4294967296^N=4294967296^n:=by rw[<-Nat.pow_add];congr 1;omega
 have h:val l<val a*4294967296^N:=by omega
 have r:=Nat.mul_lt_mul_of_pos_right h (show 0<2^m from Nat.pow_pos (by omega));have p:val a*4294967296^N*2^m=val a*2^m*4294967296^N:=by rw[Nat.mul_assoc,Nat.mul_comm (4294967296^N),<-Nat.mul_assoc]
 omega

theorem sJ(w:World)(A n c l)(wa:Wd w A n c l)(hn:n<=1099511627000)(A' d c' l')(wb:Wd w A' d c' l')(e6:2<=d)(hc:aX l)(b4:aX l')(e5:val l'<=val l):
    Calls Tryz.prog 196 #[.slice A n c,.slice A' d c'] w (sH w (val l) (val l')):=by
  have HL:=Qh wa.2.1;have bn:=Qh wb.2.1
  have e7:d<=n:=by
    rcases Nat.lt_or_ge n (d) with h|h
    · have:=eN hc.1 b4 (by rw[<-HL.out,<-bn.out];exact h)
      omega
    exact h
  have h1:=jl w A n c l wa (by omega) A' (d) c' l' wb (by omega) hc b4;obtain⟨c0,c8,e8⟩:∃c0,bS (val l) (val l')=c0/\0<=c0:=⟨_,rfl,by unfold bS;rw[kl (by omega)];split<;>omega⟩;rw[c8]at h1;have H1:=Qh h1;obtain⟨g',o',rfl,bY,a7⟩:=wb.at2 (by omega);obtain⟨t0,bb⟩:=Z9 (wd l' (d-1));have c1:=a7 (d-1) (by omega);rw[bb]at c1
  have cc:t0≠0:=by
    rw[<-bb];have:=b4.last (by intro e;have:=bn.out;rw[e]at this;simp at this;omega);rw[<-bn.out]at this;exact this
  have ep:t0<4294967296:=by rw[<-bb];exact wb.lt _
  obtain⟨m,hm,ej,ei,ea⟩:=x8 cc ep;have ck:=fun W=>(Tryz.bits_LeadingZeros32 (t0:Int) W (by omega) (by omega))
  simp only[Hf,ej]at ck;have eD:=Qh ck;have ew:=Qh bb;have HM:=Qh (And.intro ei ea);have fn:((d:Int)==1)=false:=by simp;omega
  have ft:(0:Int)<=(d:Int):=by omega
  have e4:(d:Int)<=((d+1:Nat):Int):=by omega
  have eQ:(d:Int)<=(d:Int)+1:=by omega
  clear h1 c8 a7 e5 ej ei ea ck bb cc;go_in
  go_wp2_with (first
    |(go_at_call 193;refine(H1.out).mono ?_;rintro e w1⟨rfl,aF⟩;have c3:=(aF.cell (p:=⟨g',o'+(d-1),none⟩) bY).trans c1)
    |(go_at_call 229;refine(eD.out _).mono ?_;rintro e ev⟨rfl,rfl⟩))
  have k1:Kp w ev:=(Kp.refl w).below aF
  go_region_held3 (fun _=>True) (trivial)
    (first
      |(go_at_call 230;(with_reducible refine(Ey _ (some ⟨g',o',none⟩) (d) c' l' ?_ ?_ m hm).mono ?_);exact wb.keep k1.drew;omega;rintro e w2⟨Lv,gv,rfl,eg,bu,a5,cu,ab,b2⟩)
      |(go_at_call 230;(with_reducible refine(Ey _ A n c l ?_ ?_ m hm).mono ?_);exact wa.keep (k1.drew.below b2);omega;rintro e T⟨Lu,gu,rfl,c9,di,d0,en,a0,cn⟩))
  have e9:w.heap.size<=gv:=Nat.le_trans aF.size eg;have dv:gv<gu:=Nat.lt_of_lt_of_le ab.lt c9;have eb:gu<T.heap.size:=a0.lt;have fa:gv<T.heap.size:=Nat.lt_trans dv eb;have aT:=ab.below cn ab.lt;have bo:Below w.heap.size w T:=(aF.drew.trans (b2.mono aF.size)).trans (cn.mono (Nat.le_trans aF.size b2.size));obtain⟨N,hN⟩:∃N,N=n+1-d:=⟨_,rfl⟩;have HN:=Qh hN;have fl:N<=1099511627001:=by omega
  obtain⟨top,next,Z,M⟩:∃x y,wd Lv (d-1)=x/\wd Lv (d-2)=y:=⟨_,_,rfl,rfl⟩;have bz:=aT.cell (d-1);rw[aE (by rw[a5];omega),Z]at bz;have aZ:=aT.cell (d-2);rw[aE (by rw[a5];omega),M]at aZ;have ex:top<4294967296:=by rw[<-Z];exact cf bu _
  have K:next<4294967296:=by rw[<-M];exact cf bu _
  obtain⟨V,hV⟩:∃V,V=val l'*2^m:=⟨_,rfl⟩;obtain⟨U0,el⟩:∃U0,U0=val l*2^m:=⟨_,rfl⟩;have R:=xY (nn:=d-2) wb.1 (by rw[<-bn.out];omega) (by rw[show d-2+1=d-1 by omega];exact ew.out) HM.out.1 HM.out.2 (by rw[a5];omega) bu cu;rw[show d-2+2=d by omega,show d-2+1=d-1 by omega,Z,<-hV]at R;have HV:=Qh (And.intro hV (And.intro cu R));have cm:2147483648<=top:=R.2;have HU:=Qh (And.intro el en);have eo:=Qh (And.intro Z M);have a6:=Qh a5;have eW:=Qh d0;have eA:=Qh aT;have et:=Qh a0;have ad:=Qh bu;have es:=Qh di;clear hN a5 d0 cu en R hV el Z M ab a0 aT bu di c3 c1 eg c9 k1 aF b2 cn e4 eQ;have i1:IntKind.i64.wrap ((d:Int)-1)=(d:Int)-1:=ty _ ⟨by omega,by omega⟩;have i2:IntKind.i64.wrap ((d:Int)-2)=(d:Int)-2:=ty _ ⟨by omega,by omega⟩;have i3:(0:Int)<=(d:Int)-1:=by omega
  have i4:(d:Int)-1<(d:Int):=by omega
  have i5:((d:Int)-1).toNat=d-1:=by omega
  have i6:(0:Int)<=(d:Int)-2:=by omega
  have i7:(d:Int)-2<(d:Int):=by omega
  have i8:((d:Int)-2).toNat=d-2:=by omega
  have i9:IntKind.u64.wrap (top:Int)=(top:Int):=Gg _ ⟨by omega,by omega⟩;have eT:IntKind.u64.wrap (next:Int)=(next:Int):=Gg _ ⟨by omega,by omega⟩;go_wp2_with (at_make;refine aQ _ rfl _ _ rfl _ _ _ _ N rfl rfl (by have:=HN.out;omega) (by have:=HN.out;omega) (by omega) ?_);go_quiet (fail);go_wp2_with fail;clear i1 i2 i3 i4 i5 i6 i7 i8 i9 eT bz aZ;go_loopw [14] (fun iv wr=>∃(k:Nat) (L Q:List Nat),k<=N/\iv=.int .i64 ((k:Int)-1)/\L.length=n+1/\Q.length=N/\Da V U0 k L Q/\Blk wr gu 58 (cellsOf L)/\Blk wr T.heap.size 58 (cellsOf Q)/\Blk wr gv 58 (cellsOf Lv)/\Below w.heap.size w wr) (fun iv _=>(intOf iv+1).toNat)
  case atStart =>
    refine⟨N,Lu,List.replicate N 0,Qr,rfl,eW.out,by simp,⟨es.out,nF N,fun j _=>pr N j,?_,?_⟩,?_,?_,?_,?_⟩
    · rw[HU.out.2,HV.out.1];exact vm wa.1 HL.out b4 bn.out e6 HN.out e7
    · rw[nD,HU.out.2,HU.out.1];simp
    · exact(et.out.alloc _).drewN _
    · exact(Blk.new _ _ _).drewN _
    · exact(eA.out.alloc _).drewN _
    exact af (bo.alloc bo.size _) _
  case round =>
    obtain⟨k,L,Q,hk,rfl,ds,c4,hI,a0,dd,ab,F⟩:=hrel;have HI:=Qh hI;have G:=Qh a0;have bl:=Qh dd;have aS:=Qh ab;have E:=Qh ds;have B:=Qh c4;clear hI a0 dd ab ds c4;by_cases d6:k=0
    · subst d6
      have cj:=vi (a:=val l) (b:=val l') (q:=val Q) (r:=val L) (s:=2^m) (Nat.pow_pos (by omega))
        (by have:=HV.out.2.2.1;have h3:=HV.out.1;rcases Nat.eq_zero_or_pos (val l') with h0|h0
            · exfalso
              have h4:=HI.out.2.2.2.1;rw[h3,h0,Nat.zero_mul,Nat.zero_mul]at h4;omega
            exact h0)
        (by rw[<-HV.out.1,<-HU.out.1];exact HI.out.2.2.2.2) (by rw[<-HV.out.1];have:=HI.out.2.2.2.1;rw[Nat.pow_zero,Nat.mul_one]at this;exact this)
      have ek:=Qh cj;clear cj;have e0:((0:Nat):Int)-1=-1:=rfl;rw[e0];clear e0
      go_wp2_with (first
        |(go_at_call 226;(with_reducible refine(gB _ (some ⟨T.heap.size,0,none⟩) N N Q ?_ (by omega)).mono ?_);exact bl.out.wdN HI.out.2.1 B.out;rintro e w5⟨A5,n5,c5,rfl,h5,cs⟩)
        |(go_at_call 233;(with_reducible refine(C7 _ (some ⟨gu,0,none⟩) (n+1) (n+1) L ?_ (by omega) m hm).mono ?_);exact(G.out.below cs G.out.lt).wdN HI.out.1 E.out;rintro e w6⟨A6,n6,c6,rfl,h6,ec⟩))
      go_ret2;rw[ek.out.1]at h5;rw[ek.out.2]at h6;exact⟨_,_,_,_,_,_,rfl,h5.keep ((Kp.refl _).below ec),h6,F.trans ((cs.mono F.size).trans (ec.mono (Nat.le_trans F.size cs.size)))⟩
    have b9:N+d=n+1:=by have:=HN.out;omega
    have fb:=Qh b9;have fr:k+d<=n+1:=by omega
    clear b9;obtain⟨pa,pb,pc,b7,bF,b6⟩:∃x y z,wd L (k-1+d)=x/\wd L (k-1+(d-1))=y/\wd L (k-1+(d-2))=z:=⟨_,_,_,rfl,rfl,rfl⟩;have ez:=G.out.cell (k-1+d);rw[aE (by rw[E.out];omega),b7]at ez;have bw:=G.out.cell (k-1+(d-1));rw[aE (by rw[E.out];omega),bF]at bw;have ey:=G.out.cell (k-1+(d-2));rw[aE (by rw[E.out];omega),b6]at ey;have dO:pa<4294967296:=by rw[<-b7];exact cf HI.out.1 _
    have ee:pb<4294967296:=by rw[<-bF];exact cf HI.out.1 _
    have b8:pc<4294967296:=by rw[<-b6];exact cf HI.out.1 _
    have HP:=Qh (And.intro b7 (And.intro bF b6));have bg:0<k:=by omega
    clear b7 bF b6 d6;obtain⟨hd,cp⟩:∃hd:Nat,hd=pa*4294967296+pb:=⟨_,rfl⟩;have eq:=Qh cp;obtain⟨g0,r0,d5,cL⟩:∃g0 r0:Nat,hd/top=g0/\hd%top=r0:=⟨_,_,rfl,rfl⟩;have bk:=Qh (And.intro d5 cL);go_wp2_with fail;have c2:k-1+d+1-(k-1)=d+1:=by omega
    rw[c2];clear c2;have i1:IntKind.i64.wrap ((d:Int)-1)=(d:Int)-1:=ty _ ⟨by omega,by omega⟩;have i3:(0:Int)<=(d:Int)-1:=by omega
    have i4:(d:Int)-1<(d:Int)+1:=by omega
    have i5:((d:Int)-1).toNat=d-1:=by omega
    have i6:(d:Int)<(d:Int)+1:=by omega
    have j1:IntKind.u64.wrap (pa:Int)=(pa:Int):=Gg _ ⟨by omega,by omega⟩;have j2:IntKind.u64.wrap (pb:Int)=(pb:Int):=Gg _ ⟨by omega,by omega⟩;have j3:IntKind.u64.wrap ((pa:Int)*4294967296)=(pa:Int)*4294967296:=Gg _ ⟨by omega,by omega⟩;have j4:bits .or .u64 ((pa:Int)*4294967296) (pb:Int)=(hd:Int):=by rw[cp];exact jn dO ee
    clear cp d5 cL
    have ca:=vj (L:=L) (lv:=Lv.take d) (V:=V) (nn:=d-2) (k:=k) (pa:=pa) (pb:=pb) (pc:=pc) (top:=top) (next:=next) HI.out.1 (Wds.take ad.out _) (by rw[vq,a6.out];omega) HV.out.2.2.1 bg HI.out.2.2.2.1
      (by rw[show d-2+2=d by omega];exact HP.out.1) (by rw[show d-2+1=d-1 by omega];exact HP.out.2.1) HP.out.2.2 (by rw[show d-2+1=d-1 by omega,po (by omega)];exact eo.out.1) (by rw[po (by omega)];exact eo.out.2)
    rw[show d-2+3=d+1 by omega]at ca;obtain⟨c7,lowv,a1,cy,a2,ed,b0,cx,dr⟩:=ca;obtain⟨P,cz⟩:=Z9 (Sm (wn L (k-1)) (d+1));rw[cz]at a1 b0 cx;rw[<-eq.out]at a1;have bv:0<top:=by omega
    have eh:0<V:=by
      rw[a2];have:1*(4294967296^(d-2)*4294967296)<=top*(4294967296^(d-2)*4294967296):=Nat.mul_le_mul_right _ bv;have h2:=iK (d-2);omega
    have a3:hd<(top+1)*4294967296:=AX (D:=4294967296^(d-2)) (third:=pc*4294967296^(d-2)+c7) (lowv:=next*4294967296^(d-2)+lowv) (by rw[a1,Nat.add_assoc]) (by rw[a2,Nat.add_assoc]) (by
      have h1:(next+1)*4294967296^(d-2)<=4294967296*4294967296^(d-2):=Nat.mul_le_mul_right _ K;rw[Nat.add_mul,Nat.mul_comm 4294967296]at h1
      omega) b0
    have b1:=qF (pb:=0) a1 cy b8 a2 bv;have bY:=xX a3 cm;have b3:=Nat.div_add_mod hd top;rw[bk.out.1]at b1 bY b3;rw[bk.out.2]at b3;have cL:r0<top:=by rw[<-bk.out.2];exact Nat.mod_lt _ bv
    obtain⟨q,co⟩:=Z9 (P/V);rw[co]at b1;have J:=Qh (And.intro a1 (And.intro cy (And.intro a2 (And.intro ed (And.intro b0 (And.intro cx dr))))));have o:=Qh (And.intro cz co);have dq:=Qh (And.intro b1 b3);have u:=Qh (And.intro a3 eh);clear a1 cy a2 ed b0 cx dr cz co b1 b3 a3 eh;go_quiet (fail);go_wp2_with fail;go_quiet (fail);go_wp2_with fail;clear i1 i3 i4 i5 i6 j1 j2 j3 j4;go_loop [17,18] (fun gx rx=>lc hd top q gx rx) (fun gx _=>(intOf gx).toNat)
    case atStart =>
      have e1:(hd:Int)/(top:Int)=(g0:Int):=by rw[<-bk.out.1];simp
      have e2:(hd:Int)%(top:Int)=(r0:Int):=by rw[<-bk.out.2];simp
      have e3:IntKind.u64.wrap ((hd:Int)/(top:Int))=(g0:Int):=by rw[e1];exact Gg _ ⟨by omega,by omega⟩
      exact lc.mk g0 r0 e3 e2 bY (by omega) (by rw[Nat.mul_comm];exact dq.out.2) dq.out.1
    case round =>
      obtain⟨g,r,rfl,rfl,fm,ff,hK⟩:=hrel;have HK:=Qh hK;clear hK;have fc:(2:Int)<=(d:Int):=by omega
      obtain⟨gp,br⟩:∃gp:Nat,gp=g*next:=⟨_,rfl⟩;obtain⟨rp,a9⟩:∃rp:Nat,rp=r*4294967296+pc:=⟨_,rfl⟩;have b5:=Qh (And.intro br a9);by_cases hrB:r<4294967296
      · have d1:decide ((r:Int)<4294967296)=true:=by simp;omega
        by_cases hgB:g<4294967296
        · have j1:IntKind.u64.wrap ((g:Int)*(next:Int))=(gp:Int):=by
            have fG:g*next<=4294967295*4294967295:=Nat.mul_le_mul (by omega) (by omega);have e:(g:Int)*(next:Int)=((g*next:Nat):Int):=by simp
            rw[e,br];exact Gg _ ⟨Int.natCast_nonneg _,by omega⟩
          have j2:bits .or .u64 ((r:Int)*4294967296) (pc:Int)=(rp:Int):=by rw[a9];exact jn hrB b8
          have d2:decide ((4294967296:Int)<=(g:Int))=false:=by simp;omega
          clear br a9;by_cases hT:rp<gp
          · have d3:decide ((rp:Int)<(gp:Int))=true:=by simp;omega
            have al:=ml J.out.1 J.out.2.1 J.out.2.2.1 u.out.2 J.out.2.2.2.2.1 HK.out.1 (.inr (by rw[<-b5.out.1,<-b5.out.2];exact hT));rw[o.out.2]at al;have bx:1<=g:=by omega
            go_wp2;clear j1 j2 d1 d2 d3;go_round
            case rel =>
              refine lc.mk (g-1) (r+top) ?_ ?_ ?_ ?_ ?_ ?_
              · omega
              · omega
              · omega
              · omega
              · have h1:=HK.out.1
                have h2:(g-1)*top+top=g*top:=by rw[<-Nat.succ_mul];congr 1;omega
                omega
              omega
            case measure=>simp[intOf];omega
          have d3:decide ((rp:Int)<(gp:Int))=false:=by simp;omega
          have hex:=mm J.out.1 J.out.2.2.1 J.out.2.2.2.1 u.out.2 bv K u.out.1 HK.out.1 (.inr ⟨hgB,by rw[<-b5.out.1,<-b5.out.2];omega⟩);rw[o.out.2]at hex;obtain⟨U,be⟩:=hex;have HX:=Qh be;clear be;go_wp2_with fail;clear j1 j2 d1 d2 d3;refine(qI _ gu (k-1) (d+1) _ L ?_ HI.out.1 ?_ ?_ (some ⟨gv,0,none⟩) d (d+1) (Lv.take d) ?_ ?_ ?_ g U).mono ?_
          · exact G.out.drewN _
          · rw[E.out];omega
          · omega
          · exact(aS.out.drewN _).wdT ad.out (by rw[a6.out];omega) (by omega)
          · intro a ha;injection ha with ha;subst ha;show gv≠gu;omega
          · omega
          rintro e wR⟨L1,b,hb,rfl,bd,bs,ao,S⟩;have v:=(bl.out.drewN _).grown S (by intro e;injection e with e;omega);have Y:=(aS.out.drewN _).grown S (by intro e;injection e with e;omega);have H:Below w.heap.size w wR:=(af F _).grown S F.size (by intro x hx;injection hx with hx;omega);have ba:=v.cell (k-1);rw[aE (by rw[B.out];omega)]at ba;have cr:=v.frozen (k-1);have f:=Qh (And.intro bd (And.intro v (And.intro Y (And.intro bs H))));rw[o.out.1,HV.out.2.2.1]at ao;have an:=Qh ao;clear bd v Y H ao S bs;rcases (show b=0\/b=1 by omega) with rfl|rfl
          · have hz:=nZ u.out.2 o.out.2.symm HK.out.2 (by have:=an.out;rw[Nat.zero_mul,Nat.add_zero]at this;exact this)
            have HZ:=Qh hz;clear hz;go_wp2;go_roundw
            case rel =>
              refine⟨k-1,L1,Q.set (k-1) g,by omega,by go_num,by rw[f.out.2.2.2.1.1];exact E.out,by rw[xv];exact B.out,?_,?_,?_,?_,?_⟩
              · rw[HZ.out.1]
                exact ku HI.out bg (by rw[B.out];exact hk) f.out.2.2.2.1 J.out.2.2.2.2.2.2 J.out.2.2.2.2.2.1 HZ.out.2 o.out.2 (by rw[<-HZ.out.1];exact U) u.out.2
              · exact f.out.1.far (by show gu≠T.heap.size;omega) _
              · exact f.out.2.1.setW (k-1) _ _ (by omega)
              · exact f.out.2.2.1.far (by show gv≠T.heap.size;omega) _
              exact f.out.2.2.2.2.setCell (by show w.heap.size<=T.heap.size;omega) _
            case measure=>simp[intOf];omega
          · have bx:1<=g:=by
              rcases Nat.eq_zero_or_pos g with h0|h0
              · exfalso
                have h1:=an.out;rw[h0,Nat.zero_mul,Nat.add_zero,Nat.one_mul]at h1;have h2:Sm (wn L1 (k-1)) (d+1)<4294967296^(d+1):=fW fun i _=>cf f.out.2.2.2.1.2.1 _
                omega
              exact h0
            go_wp2_with fail;refine(xZ _ gu (k-1) (d+1) _ L1 ?_ f.out.2.2.2.1.2.1 ?_ ?_ (some ⟨gv,0,none⟩) d (d+1) (Lv.take d) ?_ ?_ ?_).mono ?_
            · exact f.out.1
            · rw[f.out.2.2.2.1.1,E.out];omega
            · omega
            · exact f.out.2.2.1.wdT ad.out (by rw[a6.out];omega) (by omega)
            · intro a ha;injection ha with ha;subst ha;show gv≠gu;omega
            · omega
            rintro e wB⟨L2,cb,bw,rfl,a8,ac,aC,O⟩;have t:=f.out.2.1.grown O (by intro e;injection e with e;omega);have X:=f.out.2.2.1.grown O (by intro e;injection e with e;omega);have I:Below w.heap.size w wB:=f.out.2.2.2.2.grown O f.out.2.2.2.2.size (by intro x hx;injection hx with hx;omega);have a4:=t.cell (k-1);rw[aE (by rw[B.out];omega)]at a4;have d4:=t.frozen (k-1);rw[HV.out.2.2.1]at aC
            have cv:V<=4294967296^(d+1):=by
              have h1:=dl (Wds.take ad.out d);rw[HV.out.2.2.1,vq]at h1;have h2:4294967296^(min d Lv.length)<=4294967296^(d+1):=Nat.pow_le_pow_right (by omega) (by omega);omega
            have hz:=qE u.out.2 o.out.2.symm HX.out (fW fun i _=>cf f.out.2.2.2.1.2.1 _) an.out aC bw (fW fun i _=>cf ac.2.1 _);have HZ:=Qh hz;have C:=Qh (And.intro a8 (And.intro t (And.intro X (And.intro (f.out.2.2.2.1.trans ac) I))));clear hz a8 t X I aC O ac ba cr cv;go_wp2;go_roundw
            case rel =>
              refine⟨k-1,L2,Q.set (k-1) q,by omega,by go_num,by rw[C.out.2.2.2.1.1];exact E.out,by rw[xv];exact B.out,?_,?_,?_,?_,?_⟩
              · exact ku HI.out bg (by rw[B.out];exact hk) C.out.2.2.2.1 J.out.2.2.2.2.2.2 J.out.2.2.2.2.2.1 HZ.out.2 o.out.2 (by have:=HZ.out.1;omega) u.out.2
              · exact C.out.1.far (by show gu≠T.heap.size;omega) _
              · exact C.out.2.1.setW (k-1) _ _ (by have:=HZ.out.1;omega)
              · exact C.out.2.2.1.far (by show gv≠T.heap.size;omega) _
              exact C.out.2.2.2.2.setCell (by show w.heap.size<=T.heap.size;omega) _
            case measure=>simp[intOf];omega
        have d2:decide ((4294967296:Int)<=(g:Int))=true:=by simp;omega
        have al:=ml J.out.1 J.out.2.1 J.out.2.2.1 u.out.2 J.out.2.2.2.2.1 HK.out.1 (.inl (by omega));rw[o.out.2]at al;have bx:1<=g:=by omega
        clear br a9;go_wp2;clear d1 d2;go_round
        case rel =>
            refine lc.mk (g-1) (r+top) ?_ ?_ ?_ ?_ ?_ ?_
            · omega
            · omega
            · omega
            · omega
            · have h1:=HK.out.1
              have h2:(g-1)*top+top=g*top:=by rw[<-Nat.succ_mul];congr 1;omega
              omega
            omega
        case measure=>simp[intOf];omega
      have d1:decide ((r:Int)<4294967296)=false:=by simp;omega
      clear br a9;have hex:=mm J.out.1 J.out.2.2.1 J.out.2.2.2.1 u.out.2 bv K u.out.1 HK.out.1 (.inl (by omega));rw[o.out.2]at hex;obtain⟨U,be⟩:=hex;have HX:=Qh be;clear be;go_wp2_with fail;clear d1;refine(qI _ gu (k-1) (d+1) _ L ?_ HI.out.1 ?_ ?_ (some ⟨gv,0,none⟩) d (d+1) (Lv.take d) ?_ ?_ ?_ g U).mono ?_
      · exact G.out.drewN _
      · rw[E.out];omega
      · omega
      · exact(aS.out.drewN _).wdT ad.out (by rw[a6.out];omega) (by omega)
      · intro a ha;injection ha with ha;subst ha;show gv≠gu;omega
      · omega
      rintro e wR⟨L1,b,hb,rfl,bd,bs,ao,S⟩;have v:=(bl.out.drewN _).grown S (by intro e;injection e with e;omega);have Y:=(aS.out.drewN _).grown S (by intro e;injection e with e;omega);have H:Below w.heap.size w wR:=(af F _).grown S F.size (by intro x hx;injection hx with hx;omega);have ba:=v.cell (k-1);rw[aE (by rw[B.out];omega)]at ba;have cr:=v.frozen (k-1);have f:=Qh (And.intro bd (And.intro v (And.intro Y (And.intro bs H))));rw[o.out.1,HV.out.2.2.1]at ao;have an:=Qh ao;clear bd v Y H ao S bs;rcases (show b=0\/b=1 by omega) with rfl|rfl
      · have hz:=nZ u.out.2 o.out.2.symm HK.out.2 (by have:=an.out;rw[Nat.zero_mul,Nat.add_zero]at this;exact this)
        have HZ:=Qh hz;clear hz;go_wp2;go_roundw
        case rel =>
          refine⟨k-1,L1,Q.set (k-1) g,by omega,by go_num,by rw[f.out.2.2.2.1.1];exact E.out,by rw[xv];exact B.out,?_,?_,?_,?_,?_⟩
          · rw[HZ.out.1]
            exact ku HI.out bg (by rw[B.out];exact hk) f.out.2.2.2.1 J.out.2.2.2.2.2.2 J.out.2.2.2.2.2.1 HZ.out.2 o.out.2 (by rw[<-HZ.out.1];exact U) u.out.2
          · exact f.out.1.far (by show gu≠T.heap.size;omega) _
          · exact f.out.2.1.setW (k-1) _ _ (by omega)
          · exact f.out.2.2.1.far (by show gv≠T.heap.size;omega) _
          exact f.out.2.2.2.2.setCell (by show w.heap.size<=T.heap.size;omega) _
        case measure=>simp[intOf];omega
      · have bx:1<=g:=by
          rcases Nat.eq_zero_or_pos g with h0|h0
          · exfalso
            have h1:=an.out;rw[h0,Nat.zero_mul,Nat.add_zero,Nat.one_mul]at h1;have h2:Sm (wn L1 (k-1)) (d+1)<4294967296^(d+1):=fW fun i _=>cf f.out.2.2.2.1.2.1 _
            omega
          exact h0
        go_wp2_with fail;refine(xZ _ gu (k-1) (d+1) _ L1 ?_ f.out.2.2.2.1.2.1 ?_ ?_ (some ⟨gv,0,none⟩) d (d+1) (Lv.take d) ?_ ?_ ?_).mono ?_
        · exact f.out.1
        · rw[f.out.2.2.2.1.1,E.out];omega
        · omega
        · exact f.out.2.2.1.wdT ad.out (by rw[a6.out];omega) (by omega)
        · intro a ha;injection ha with ha;subst ha;show gv≠gu;omega
        · omega
        rintro e wB⟨L2,cb,bw,rfl,a8,ac,aC,O⟩;have t:=f.out.2.1.grown O (by intro e;injection e with e;omega);have X:=f.out.2.2.1.grown O (by intro e;injection e with e;omega);have I:Below w.heap.size w wB:=f.out.2.2.2.2.grown O f.out.2.2.2.2.size (by intro x hx;injection hx with hx;omega);have a4:=t.cell (k-1);rw[aE (by rw[B.out];omega)]at a4;have d4:=t.frozen (k-1);rw[HV.out.2.2.1]at aC
        have cv:V<=4294967296^(d+1):=by
          have h1:=dl (Wds.take ad.out d);rw[HV.out.2.2.1,vq]at h1;have h2:4294967296^(min d Lv.length)<=4294967296^(d+1):=Nat.pow_le_pow_right (by omega) (by omega);omega
        have hz:=qE u.out.2 o.out.2.symm HX.out (fW fun i _=>cf f.out.2.2.2.1.2.1 _) an.out aC bw (fW fun i _=>cf ac.2.1 _);have HZ:=Qh hz;have C:=Qh (And.intro a8 (And.intro t (And.intro X (And.intro (f.out.2.2.2.1.trans ac) I))));clear hz a8 t X I aC O ac ba cr cv;go_wp2;go_roundw
        case rel =>
          refine⟨k-1,L2,Q.set (k-1) q,by omega,by go_num,by rw[C.out.2.2.2.1.1];exact E.out,by rw[xv];exact B.out,?_,?_,?_,?_,?_⟩
          · exact ku HI.out bg (by rw[B.out];exact hk) C.out.2.2.2.1 J.out.2.2.2.2.2.2 J.out.2.2.2.2.2.1 HZ.out.2 o.out.2 (by have:=HZ.out.1;omega) u.out.2
          · exact C.out.1.far (by show gu≠T.heap.size;omega) _
          · exact C.out.2.1.setW (k-1) _ _ (by have:=HZ.out.1;omega)
          · exact C.out.2.2.1.far (by show gv≠T.heap.size;omega) _
          exact C.out.2.2.2.2.setCell (by show w.heap.size<=T.heap.size;omega) _
        case measure=>simp[intOf];omega

theorem qK(w:World)(A n c l)(f:Wd w A n c l)(k:n<=1099511627000)(A' n' c' l')(b:Wd w A' n' c' l')(j:n'<=1099511627000)(d:aX l)(a:aX l')(i:val l'≠0):
 Calls Tryz.prog 196 #[.slice A n c,.slice A' n' c'] w (sH w (val l) (val l')):=by
 rcases Nat.lt_or_ge (val l) (val l') with h|h
 ·exact vl w A n c l f (by omega) A' n' c' l' b (by omega) d a h
 by_cases h1:n'=1
 ·exact sI w A n c l f (by omega) A' n' c' l' b d a h h1
 refine sJ w A n c l f k A' n' c' l' b ?_ d a h;rcases Nat.eq_zero_or_pos n' with g|g
 ·exfalso
  have:=b.2.1;rw[g]at this;rw[lq this.symm]at i;exact i rfl
 omega

def ya(w:World)(p:Addr):Nat:=match w.cell? p with
  |some (.int _ z)=>z.toNat
  |_=>0
def valOf(w:World):Value->Nat
  | .slice (some a) n _=>val ((List.range n).map fun i=>ya w ⟨a.block,a.off+i,none⟩)
  |_=>0
theorem Wd.valOf{w:World}{A:Option Addr}{n c:Nat}{l:List Nat}(h:Wd w A n c l):valOf w (.slice A n c)=val l:=by
 rcases Nat.eq_zero_or_pos n with a|a
 ·subst a
  have:=h.2.1;have d:l=[]:=lq this.symm;subst d;unfold Go.Proofs.YtfilnhompchciaaGreatDoor.valOf;cases A<;>rfl
 obtain⟨g,o,rfl,j⟩:=h.at_ a;unfold Go.Proofs.YtfilnhompchciaaGreatDoor.valOf;show val _=val l;congr 1;apply List.ext_getElem
 ·simp[h.2.1]
 intro i k b;have f:i<n:=by rw[h.2.1];exact b
 simp only[List.getElem_map,List.getElem_range,ya];rw[j i f];simp[wd,b]
theorem tT{w:World}{A:Option Addr}{n c:Nat}{x y:Nat}(h:Wd w A n c (au (x%y)))(a:y≠0){N:Nat}(b:y<4294967296^N):n<=N:=by
 rw[h.2.1];exact ay (Nat.lt_trans (Nat.mod_lt _ (Nat.pos_of_ne_zero a)) b)

theorem lD(a:WD):a.z.natAbs=val a.m:=by
 rw[a.z_eq];cases a.s<;>simp[sgn]
def EA(G:Nat)(W0 wr:World)(x y:Value):Prop:=∃A1 n1 c1 l1 A2 n2 c2 l2,x=.slice A1 n1 c1/\y=.slice A2 n2 c2/\n1<=1099511627000/\n2<=1099511627000/\uX (Wd wr A1 n1 c1 l1/\Wd wr A2 n2 c2 l2/\aX l1/\aX l2/\Nat.gcd (val l1) (val l2)=G)/\Below W0.heap.size W0 wr
theorem EB(w:World)(b:Bool)(A n c l)(j:Wd w A n c l)(hn:n<=1099511627000)(k:Bool)(A' n' c' l')(i:Wd w A' n' c' l')(P:n'<=1099511627000):
 Calls Tryz.prog 153 #[.agg #[.bool b,.slice A n c],.agg #[.bool k,.slice A' n' c']] w (jU w (wh (Nat.gcd (WD.z ⟨b,l⟩).natAbs (WD.z ⟨k,l'⟩).natAbs:Nat))):=by
 have HL:=Qh j.2.1;have R:=Qh i.2.1;have C:aX (WD.m ⟨b,l⟩):=WD.canon_m j.1;have r:aX (WD.m ⟨k,l'⟩):=WD.canon_m i.1;rw[lD ⟨b,l⟩,lD ⟨k,l'⟩];obtain⟨G,K⟩:=Z9 (Nat.gcd (val (WD.m ⟨b,l⟩)) (val (WD.m ⟨k,l'⟩)));rw[K];have Q:=Qh K;clear K;go_in;go_wp2_with fail;have b0:Below w.heap.size w (((w.alloc (.cells #[.bool b,.slice A n c] 194)).alloc (.cells #[.bool k,.slice A' n' c'] 194)).alloc (.cells #[.bool false,.slice none 0 0] 194)):=((((kz _ _).alloc Qr _).alloc (by simp) _).alloc (by simp;omega) _);generalize a:(((w.alloc (.cells #[.bool b,.slice A n c] 194)).alloc (.cells #[.bool k,.slice A' n' c'] 194)).alloc (.cells #[.bool false,.slice none 0 0] 194))=W0 at b0⊢;have aS:W0.cell? ⟨w.heap.size,0,none⟩=some (.bool b):=by subst a;simp[go_sem]
 have al:W0.frozen? ⟨w.heap.size,0,none⟩=false:=by subst a;simp[go_sem]
 have aZ:W0.cell? ⟨w.heap.size,1,none⟩=some (.slice A n c):=by subst a;simp[go_sem]
 have aF:W0.frozen? ⟨w.heap.size,1,none⟩=false:=by subst a;simp[go_sem]
 have ac:W0.cell? ⟨w.heap.size+1,0,none⟩=some (.bool k):=by subst a;simp[go_sem]
 have an:W0.frozen? ⟨w.heap.size+1,0,none⟩=false:=by subst a;simp[go_sem]
 have ao:W0.cell? ⟨w.heap.size+1,1,none⟩=some (.slice A' n' c'):=by subst a;simp[go_sem]
 have ad:W0.frozen? ⟨w.heap.size+1,1,none⟩=false:=by subst a;simp[go_sem]
 have a0:W0.cell? ⟨w.heap.size+1+1,0,none⟩=some (.bool false):=by subst a;simp[go_sem]
 have aC:W0.frozen? ⟨w.heap.size+1+1,0,none⟩=false:=by subst a;simp[go_sem]
 have aT:W0.cell? ⟨w.heap.size+1+1,1,none⟩=some (.slice none 0 0):=by subst a;simp[go_sem]
 have ab:W0.frozen? ⟨w.heap.size+1+1,1,none⟩=false:=by subst a;simp[go_sem]
 have x0:Box W0 w.heap.size 194:=by subst a;exact((bT _ _ _ (by simp)).alloc _).alloc _
 have x1:Box W0 (w.heap.size+1) 194:=by subst a;exact(bT _ _ _ (by simp)).alloc _
 have x2:Box W0 (w.heap.size+1+1) 194:=by subst a;exact bT _ _ _ (by simp)
 have g:j7 (w.heap.size+1+1) (w.heap.size+1+1+1) 2 W0:=by subst a;exact mg (by simp)
 have f:w.heap.size+1+1+1<=W0.heap.size:=by subst a;simp
 clear a;have j:=j.belw b0;have i:=i.belw b0;have r0:Below W0.heap.size W0 W0:=aa _
 go_region_held3 (fun w'=>bO (w.heap.size+1+1) (w.heap.size+1+1+1) 2 W0 w') (first|exact bO.of (by omega) f g (by assumption)|exact bO.of (by omega) f g (af (by assumption) _))
  (first
   |(go_at_call 194;(with_reducible refine(cU _ b A n c l ?_ ?_).mono ?_);(exact j);(omega);rintro e w1⟨Z,U,c1,rfl,E,h⟩;replace h:=ag (af (aa _) 1) h;have r1:=ag r0 h;replace j:=j.belw h;replace i:=i.belw h)
   |(go_at_call 194;(with_reducible refine(cU _ k A' n' c' l' ?_ ?_).mono ?_);(exact i);(omega);rintro e w2⟨A2,W,c2,rfl,X,p⟩;have r2:=ag r1 p;replace j:=j.belw p;replace i:=i.belw p;replace E:=E.belw p))
 obtain⟨⟨sc,D⟩,B,sz⟩:=bO.of (by omega) f g r2;have F:U<=1099511627000:=E.m_len (by rw[<-HL.out];exact hn);have S:W<=1099511627000:=X.m_len (by rw[<-R.out];exact P);have L:EA G W0 w2 (.slice Z U c1) (.slice A2 W c2):=⟨Z,U,c1,_,A2,W,c2,_,rfl,rfl,F,S,⟨E,X,C,r,Q.out⟩,r2⟩;go_wp2_with fail;clear sc D B sz;go_loopw [5,6] (fun x y wr=>EA G W0 wr x y) (fun _ y wr=>valOf wr y)
 case atStart=>exact L
 case round =>
  obtain⟨A3,Y,c3,l3,N,n4,c4,s,rfl,rfl,M,q,d,O⟩:=hrel;have I:valOf wr (.slice N n4 c4)=val s:=d.2.1.valOf;by_cases t:n4=0
  ·have e1:decide (0<n4)=false:=by simp;omega
   have H:s=[]:=lq (by rw[<-d.2.1.2.1];exact t);have hg:val l3=G:=by have:=d.2.2.2.2;rw[H]at this;simpa[val]using this
   have HG:=Qh hg;clear hg t;obtain⟨⟨sc,D⟩,B,sz⟩:=bO.of (by omega) f g O;go_wp2_with (go_at_call 197;refine(dV _ false A3 Y c3 l3 (G:Nat) ?_ ?_ ?_).mono ?_;(exact d.1);(omega);(rw[HG.out];rfl);rintro e w9⟨A5,n5,c5,rfl,h5,o⟩;have J:=ag O o;clear sc D B sz;obtain⟨⟨sc,D⟩,B,sz⟩:=bO.of (by omega) f g J);refine xD (v:=.agg #[.bool _,.slice A5 n5 c5]) (by simp[results,Tryz.results153,go_sem,B];rfl) rfl ?_;have x:=x2.below J;refine km ?_ ?_ ?_
   ·rfl
   ·exact h5.keep (kp2 x (by decide) _ _ _ _)
   exact((b0.trans (J.mono b0.size)).setCell (by dsimp only;omega) _).setCell (by dsimp only;omega) _
  have e1:decide (0<n4)=true:=by simp;omega
  have u:val s≠0:=by
   intro e;have:=(dN d.2.2.2.1).1 e;have h9:=d.2.1.2.1;rw[this]at h9;exact t h9
  have V:=Qh u;have H0:=Qh t;clear t u;go_wp2_with (go_at_call 196;refine(qK _ A3 Y c3 l3 ?_ ?_ N n4 c4 s ?_ ?_ ?_ ?_ ?_).mono ?_;(exact d.1);(exact M);(exact d.2.1);(exact q);(exact d.2.2.1);(exact d.2.2.2.1);(exact V.out);rintro e w9⟨A5,n5,c5,A6,n6,c6,rfl,h5,T,o⟩);go_roundw
  case rel =>
   refine⟨N,n4,c4,s,A6,n6,c6,_,rfl,rfl,q,?_,⟨d.2.1.belw o,T,d.2.2.2.1,er _,?_⟩,ag O o⟩
   ·exact Nat.le_trans (tT T V.out (d.2.1.vlt Qr)) q
   rw[ai,Nat.gcd_comm,<-Nat.gcd_rec,Nat.gcd_comm];exact d.2.2.2.2
  case measure =>
   rw[T.valOf,I,ai];exact Nat.mod_lt _ (Nat.pos_of_ne_zero V.out)
  

theorem EC{a b q r:Int}(hb:b≠0)(h:r+b*q=a)(c:0<=r)(k:r<b.natAbs):a/b=q/\a%b=r:=by
 rcases Int.lt_or_gt_of_ne hb with j|i
 ·have f:r+-b * -q=a:=by rw[Int.neg_mul_neg];exact h
  obtain⟨g,d⟩:=(Int.ediv_emod_unique (a:=a) (b:=-b) (q:=-q) (r:=r) (by omega)).2 ⟨f,c,by omega⟩;rw[Int.ediv_neg]at g;rw[Int.emod_neg]at d;exact⟨by omega,d⟩
 exact(Int.ediv_emod_unique (by omega)).2 ⟨h,c,by omega⟩
theorem jq{sa sb:Bool}{x y:Nat}(b:y≠0)(h:sa=false\/x%y=0):sgn sa x/sgn sb y=sgn (!(sa==sb)) (x/y)/\sgn sa x%sgn sb y=((x%y:Nat):Int):=by
 have a:((x%y:Nat):Int)+(y:Int)*((x/y:Nat):Int)=(x:Int):=by exact_mod_cast Nat.mod_add_div x y
 have d:x%y<y:=Nat.mod_lt _ (Nat.pos_of_ne_zero b);apply EC
 ·cases sb<;>simp[sgn]<;>omega
 ·cases sa
  ·cases sb<;>simp only[sgn]<;>simp[Ir,It]<;>simpa using a
  have c:x%y=0:=by simpa using h
  rw[c]at a⊢;cases sb<;>simp only[sgn]<;>simp[Ir,It]at a⊢<;>omega
 ·omega
 cases sb<;>simp[sgn]<;>omega
theorem AZ{sb:Bool}{x y:Nat}(b:y≠0)(h:x%y≠0):sgn true x/sgn sb y=sgn (!(true==sb)) (x/y+1)/\sgn true x%sgn sb y=((y-x%y:Nat):Int):=by
 have f:((x%y:Nat):Int)+(y:Int)*((x/y:Nat):Int)=(x:Int):=by exact_mod_cast Nat.mod_add_div x y
 have d:x%y<y:=Nat.mod_lt _ (Nat.pos_of_ne_zero b);have c:((y-x%y:Nat):Int)=(y:Int)-((x%y:Nat):Int):=by omega
 have a:(y:Int)*(((x/y:Nat):Int)+1)=(y:Int)*((x/y:Nat):Int)+y:=by rw[Int.mul_add,Int.mul_one]
 apply EC
 ·cases sb<;>simp[sgn]<;>omega
 ·rw[c]
  cases sb
  ·show _+(y:Int) * -((x/y+1:Nat):Int)=-(x:Int)
   rw[It,Int.natCast_add,show ((1:Nat):Int)=1 from rfl,a];generalize (y:Int)*((x/y:Nat):Int)=Q at *;omega
  show _+-(y:Int)*((x/y+1:Nat):Int)=-(x:Int);rw[Ir,Int.natCast_add,show ((1:Nat):Int)=1 from rfl,a];generalize (y:Int)*((x/y:Nat):Int)=Q at *;omega
 ·omega
 cases sb<;>simp[sgn]<;>omega
theorem yb(w:World)(A n c l)(i:Wd w A n c l)(k:n<=1099511627000)(A' n' c' l')(d:Wd w A' n' c' l')(a:n'<=1099511627000)(h:aX l)(b:aX l')(x y:Nat)(j:val l=x)(f:val l'=y)(g:y≠0):
 Calls Tryz.prog 196 #[.slice A n c,.slice A' n' c'] w (sH w x y):=by subst j f;exact qK w A n c l i k A' n' c' l' d a h b g
theorem Db(w:World)(A n c l)(d:Wd w A n c l)(f:n<=1099511627776)(A' n' c' l')(b:Wd w A' n' c' l')(a:n'<=1099511627776)(z:Nat)(g:val l+val l'=z):
 Calls Tryz.prog 224 #[.slice A n c,.slice A' n' c'] w (gS w (au z)):=by subst g;exact xN w A n c l d f A' n' c' l' b a
theorem Dc(w:World)(A n c l)(f:Wd w A n c l)(g:n<=1099511627776)(A' n' c' l')(b:Wd w A' n' c' l')(a:n'<=n)(d:val l'<=val l)(z:Nat)(h:val l-val l'=z):
 Calls Tryz.prog 257 #[.slice A n c,.slice A' n' c'] w (gS w (au z)):=by subst h;exact C6 w A n c l f g A' n' c' l' b a d
theorem yc{w:World}{A:Option Addr}{n c z N:Nat}(h:Wd w A n c (au z))(b:n<=N):(au (z+1)).length<=N+1:=by
 have a:=h.vlt b;rw[ai]at a;refine ay (Nat.lt_of_le_of_lt a ?_);rw[Nat.pow_succ];have:=iK N;omega
def Dd(w:World)(q r:Int)(e:Ending)(w':World):Prop:=∃A1 n1 c1 A2 n2 c2,e=.returned (.tuple #[.agg #[.bool (wh q).neg,.slice A1 n1 c1],.agg #[.bool (wh r).neg,.slice A2 n2 c2],.nilIface])/\Wd w' A1 n1 c1 (wh q).mag/\Wd w' A2 n2 c2 (wh r).mag/\Below w.heap.size w w'
theorem kp4{w:World}{g g':Nat}{t c:TypeId}(x:Box w g t)(f:Box w g' c)(d:KT t=false)(a:KT c=false)(i j m l:Nat)(u v k b:Value):
 Kp w ((((w.setCell ⟨g,i,none⟩ u).setCell ⟨g,j,none⟩ v).setCell ⟨g',m,none⟩ k).setCell ⟨g',l,none⟩ b) :=
 fun h _ _ y=>y.same ((so _ _ b h (y.neB f a)).trans ((so _ _ k h (y.neB f a)).trans ((so _ _ v h (y.neB x d)).trans (so w _ u h (y.neB x d)))))
theorem ED(w:World)(b:Bool)(A n c l)(h:Wd w A n c l)(hn:n<=1099511627000)(F:Bool)(A' n' c' l')(j:Wd w A' n' c' l')(ao:n'<=1099511627000)(h0:WD.z ⟨F,l'⟩≠0):
 Calls Tryz.prog 251 #[.agg #[.bool b,.slice A n c],.agg #[.bool F,.slice A' n' c']] w (Dd w (WD.z ⟨b,l⟩/WD.z ⟨F,l'⟩) (WD.z ⟨b,l⟩%WD.z ⟨F,l'⟩)):=by
 have HL:=Qh h.2.1;have aC:=Qh j.2.1;have aT:aX (WD.m ⟨b,l⟩):=WD.canon_m h.1;have aS:aX (WD.m ⟨F,l'⟩):=WD.canon_m j.1;rw[WD.z_eq]at h0⊢;rw[WD.z_eq ⟨F,l'⟩];have aF:val (WD.m ⟨F,l'⟩)≠0:=by intro e;rw[e]at h0;exact h0 (by cases (WD.s ⟨F,l'⟩)<;>rfl)
 obtain⟨sa,ac⟩:∃s,WD.s ⟨b,l⟩=s:=⟨_,rfl⟩;obtain⟨sb,ad⟩:∃s,WD.s ⟨F,l'⟩=s:=⟨_,rfl⟩;rw[ac,ad];obtain⟨x,hx⟩:=Z9 (val (WD.m ⟨b,l⟩));obtain⟨y,hy⟩:=Z9 (val (WD.m ⟨F,l'⟩));rw[hx,hy];have P:=Qh (And.intro ac ad);have HX:=Qh (And.intro hx hy);have HY:=Qh (show y≠0 from hy ▸ aF);have an:=Nat.mod_lt x (Nat.pos_of_ne_zero HY.out);have HR:=Qh an;clear ac ad hx hy aF h0 an;go_in;go_wp2_with fail;have b0:Below w.heap.size w ((((w.alloc (.cells #[.bool b,.slice A n c] 194)).alloc (.cells #[.bool F,.slice A' n' c'] 194)).alloc (.cells #[.bool false,.slice none 0 0] 194)).alloc (.cells #[.bool false,.slice none 0 0] 194)):=(((((kz _ _).alloc Qr _).alloc (by simp) _).alloc (by simp;omega) _).alloc (by simp;omega) _);generalize k:((((w.alloc (.cells #[.bool b,.slice A n c] 194)).alloc (.cells #[.bool F,.slice A' n' c'] 194)).alloc (.cells #[.bool false,.slice none 0 0] 194)).alloc (.cells #[.bool false,.slice none 0 0] 194))=W0 at b0⊢;have a9:W0.cell? ⟨w.heap.size,0,none⟩=some (.bool b):=by subst k;simp[go_sem]
 have a7:W0.frozen? ⟨w.heap.size,0,none⟩=false:=by subst k;simp[go_sem]
 have bb:W0.cell? ⟨w.heap.size,1,none⟩=some (.slice A n c):=by subst k;simp[go_sem]
 have br:W0.frozen? ⟨w.heap.size,1,none⟩=false:=by subst k;simp[go_sem]
 have a5:W0.cell? ⟨w.heap.size+1,0,none⟩=some (.bool F):=by subst k;simp[go_sem]
 have bl:W0.frozen? ⟨w.heap.size+1,0,none⟩=false:=by subst k;simp[go_sem]
 have bn:W0.cell? ⟨w.heap.size+1,1,none⟩=some (.slice A' n' c'):=by subst k;simp[go_sem]
 have a6:W0.frozen? ⟨w.heap.size+1,1,none⟩=false:=by subst k;simp[go_sem]
 have bs:W0.cell? ⟨w.heap.size+1+1,0,none⟩=some (.bool false):=by subst k;simp[go_sem]
 have bo:W0.frozen? ⟨w.heap.size+1+1,0,none⟩=false:=by subst k;simp[go_sem]
 have ba:W0.cell? ⟨w.heap.size+1+1,1,none⟩=some (.slice none 0 0):=by subst k;simp[go_sem]
 have a1:W0.frozen? ⟨w.heap.size+1+1,1,none⟩=false:=by subst k;simp[go_sem]
 have a4:W0.cell? ⟨w.heap.size+1+1+1,0,none⟩=some (.bool false):=by subst k;simp[go_sem]
 have a8:W0.frozen? ⟨w.heap.size+1+1+1,0,none⟩=false:=by subst k;simp[go_sem]
 have a2:W0.cell? ⟨w.heap.size+1+1+1,1,none⟩=some (.slice none 0 0):=by subst k;simp[go_sem]
 have bk:W0.frozen? ⟨w.heap.size+1+1+1,1,none⟩=false:=by subst k;simp[go_sem]
 have x0:Box W0 w.heap.size 194:=by subst k;exact(((bT _ _ _ (by simp)).alloc _).alloc _).alloc _
 have x1:Box W0 (w.heap.size+1) 194:=by subst k;exact((bT _ _ _ (by simp)).alloc _).alloc _
 have x2:Box W0 (w.heap.size+1+1) 194:=by subst k;exact(bT _ _ _ (by simp)).alloc _
 have x3:Box W0 (w.heap.size+1+1+1) 194:=by subst k;exact bT _ _ _ (by simp)
 have D:j7 (w.heap.size+1+1) (w.heap.size+1+1+1+1) 2 W0:=by subst k;exact CA (by simp) rfl
 have a:w.heap.size+1+1+1+1<=W0.heap.size:=by subst k;simp
 clear k;have h:=h.belw b0;have j:=j.belw b0;have r0:Below W0.heap.size W0 W0:=aa _
 go_wp2_with (first
  |(go_at_call 194;(with_reducible refine(cU _ F A' n' c' l' ?_ ?_).mono ?_);(exact j);(omega);rintro e w1⟨A1,n1,c1,rfl,q,al⟩;have e1:((n1:Int)==0)=false:=(by have:=q.2.1;have M:=HX.out.2;have h7:=HY.out;have J:n1≠0:=(fun e=>by rw[lq (show (WD.m ⟨F,l'⟩).length=0 by omega)]at M;exact h7 M.symm);simp;omega);have r1:=ag r0 al;replace h:=h.belw al;replace j:=j.belw al;(try clear sc E C sz);obtain⟨⟨sc,E⟩,C,sz⟩:=bO.of (by omega) a D r1)
  |(go_at_call 194;(with_reducible refine(cU _ b A n c l ?_ ?_).mono ?_);(exact h);(omega);rintro e w2⟨A2,n2,c2,rfl,r,Q⟩;have r2:=ag r1 Q;replace h:=h.belw Q;replace j:=j.belw Q;replace q:=q.belw Q;(try clear sc E C sz);obtain⟨⟨sc,E⟩,C,sz⟩:=bO.of (by omega) a D r2)
  |(go_at_call 196;(with_reducible refine(yb _ A2 n2 c2 (WD.m ⟨b,l⟩) ?_ ?_ A1 n1 c1 (WD.m ⟨F,l'⟩) ?_ ?_ aT aS x y ?_ ?_ ?_).mono ?_);(exact r);(exact r.m_len (by rw[<-HL.out];exact hn));(exact q);(exact q.m_len (by rw[<-aC.out];exact ao));(exact HX.out.1);(exact HX.out.2);(exact HY.out);rintro e w3⟨A3,n3,c3,A4,n4,c4,rfl,u,t,K⟩;have r3:=ag r2 K;replace h:=h.belw K;replace j:=j.belw K;replace q:=q.belw K;replace r:=r.belw K;(try clear sc E C sz);obtain⟨⟨sc,E⟩,C,sz⟩:=bO.of (by omega) a D r3))
 have aZ:n3<=1099511627000:=by
  rw[u.2.1];exact sC (Nat.lt_of_le_of_lt (Nat.div_le_self _ _) (HX.out.1 ▸ r.vlt Qr)) (r.m_len (by rw[<-HL.out];exact hn))
 have a3:n1<=1099511627000:=q.m_len (by rw[<-aC.out];exact ao);have a0:n4<=n1:=tT t HY.out (HX.out.2 ▸ q.vlt Qr);cases sa
 ·go_wp2_with (first
   |(go_at_call 195;(with_reducible refine(gV _ b A n c l false ?_ ?_ ?_).mono ?_);(exact h);(omega);(exact P.out.1);rintro e w4⟨rfl,p⟩;have Y:=ag r3 p;replace h:=h.belw p;replace j:=j.belw p;replace q:=q.belw p;replace r:=r.belw p;replace u:=u.belw p;replace t:=t.belw p;(try clear sc E C sz);obtain⟨⟨sc,E⟩,C,sz⟩:=bO.of (by omega) a D Y))
  have U:=Qh (jq (sa:=false) (sb:=sb) (x:=x) HY.out (.inl rfl));(try clear sc E C sz);have o:w.heap.size+1+1<=w.heap.size+1+1+1+1:=by omega
  go_region_held3 (fun w'=>Sees (w.heap.size+1+1) W0 w') (first|exact Sees.of (Nat.le_trans o a) (by assumption)|exact Sees.of (Nat.le_trans o a) (af (by assumption) _)|exact(Sees.set (Sees.of (Nat.le_trans o a) (by assumption)) (by simp))|exact(Sees.set (Sees.set (Sees.of (Nat.le_trans o a) (by assumption)) (by simp)) (by simp))|exact(Sees.set (Sees.set (Sees.set (Sees.of (Nat.le_trans o a) (by assumption)) (by simp)) (by simp)) (by simp))|exact(Sees.set (Sees.set (Sees.set (Sees.set (Sees.of (Nat.le_trans o a) (by assumption)) (by simp)) (by simp)) (by simp)) (by simp)))
   (first
    |(go_at_call 195;(with_reducible refine(gV _ b A n c l false ?_ ?_ ?_).mono ?_);(exact h);(omega);(exact P.out.1);rintro e w5⟨rfl,d⟩;replace d:=ag (af (aa _) 1) d;have r5:=ag Y d;replace h:=h.belw d;replace j:=j.belw d;replace q:=q.belw d;replace r:=r.belw d;replace u:=u.belw d;replace t:=t.belw d)
    |(go_at_call 195;(with_reducible refine(gV _ F A' n' c' l' sb ?_ ?_ ?_).mono ?_);(exact j);(omega);(exact P.out.2);rintro e w6⟨rfl,i⟩;have r6:=ag r5 i;replace h:=h.belw i;replace j:=j.belw i;replace q:=q.belw i;replace r:=r.belw i;replace u:=u.belw i;replace t:=t.belw i)
    |(go_at_call 197;(with_reducible refine(dV _ sb A3 n3 c3 (au (x/y)) (sgn false x/sgn sb y) ?_ ?_ ?_).mono ?_);(exact u);(omega);(rw[U.out.1,ai];cases sb<;>rfl);rintro e w7⟨X,n8,V,rfl,J,g⟩;have r7:=ag r6 g;replace h:=h.belw g;replace j:=j.belw g;replace q:=q.belw g;replace r:=r.belw g;replace u:=u.belw g;replace t:=t.belw g)
    |(go_at_call 197;(with_reducible refine(dV _ false A4 n4 c4 (au (x%y)) (sgn false x%sgn sb y) ?_ ?_ ?_).mono ?_);(exact t);(omega);(rw[U.out.2,ai];rfl);rintro e w8⟨W,n9,S,rfl,M,f⟩;have N:=ag r7 f;replace h:=h.belw f;replace j:=j.belw f;replace q:=q.belw f;replace r:=r.belw f;replace u:=u.belw f;replace t:=t.belw f;replace J:=J.belw f;obtain⟨⟨sc,E⟩,C,sz⟩:=bO.of (by omega) a D N))
  clear o;go_wp2_with fail;refine xD (v:=.tuple #[.agg #[.bool _,.slice X n8 V],.agg #[.bool _,.slice W n9 S],.nilIface]) (by simp[results,Tryz.results251,go_sem,C];first|rfl|exact⟨rfl,rfl⟩) rfl ?_;have Z:=x2.below N;have T:=x3.below N;refine⟨X,n8,V,W,n9,S,rfl,?_,?_,?_⟩
  ·exact J.keep (kp4 Z T (by decide) (by decide) _ _ _ _ _ _ _ _)
  ·exact M.keep (kp4 Z T (by decide) (by decide) _ _ _ _ _ _ _ _)
  exact((((b0.trans (N.mono b0.size)).setCell (by dsimp only;omega) _).setCell (by dsimp only;omega) _).setCell (by dsimp only;omega) _).setCell (by dsimp only;omega) _
 by_cases H:x%y=0
 ·have ab:=Qh H
  have L:n4=0:=by rw[t.2.1,H,ax];rfl
  clear H;subst L
  go_wp2_with (first
   |(go_at_call 195;(with_reducible refine(gV _ b A n c l true ?_ ?_ ?_).mono ?_);(exact h);(omega);(exact P.out.1);rintro e w4⟨rfl,p⟩;have Y:=ag r3 p;replace h:=h.belw p;replace j:=j.belw p;replace q:=q.belw p;replace r:=r.belw p;replace u:=u.belw p;replace t:=t.belw p;(try clear sc E C sz);obtain⟨⟨sc,E⟩,C,sz⟩:=bO.of (by omega) a D Y))
  have U:=Qh (jq (sa:=true) (sb:=sb) (x:=x) HY.out (.inr ab.out));(try clear sc E C sz);have o:w.heap.size+1+1<=w.heap.size+1+1+1+1:=by omega
  go_region_held3 (fun w'=>Sees (w.heap.size+1+1) W0 w') (first|exact Sees.of (Nat.le_trans o a) (by assumption)|exact Sees.of (Nat.le_trans o a) (af (by assumption) _)|exact(Sees.set (Sees.of (Nat.le_trans o a) (by assumption)) (by simp))|exact(Sees.set (Sees.set (Sees.of (Nat.le_trans o a) (by assumption)) (by simp)) (by simp))|exact(Sees.set (Sees.set (Sees.set (Sees.of (Nat.le_trans o a) (by assumption)) (by simp)) (by simp)) (by simp))|exact(Sees.set (Sees.set (Sees.set (Sees.set (Sees.of (Nat.le_trans o a) (by assumption)) (by simp)) (by simp)) (by simp)) (by simp)))
   (first
    |(go_at_call 195;(with_reducible refine(gV _ b A n c l true ?_ ?_ ?_).mono ?_);(exact h);(omega);(exact P.out.1);rintro e w5⟨rfl,d⟩;replace d:=ag (af (aa _) 1) d;have r5:=ag Y d;replace h:=h.belw d;replace j:=j.belw d;replace q:=q.belw d;replace r:=r.belw d;replace u:=u.belw d;replace t:=t.belw d)
    |(go_at_call 195;(with_reducible refine(gV _ F A' n' c' l' sb ?_ ?_ ?_).mono ?_);(exact j);(omega);(exact P.out.2);rintro e w6⟨rfl,i⟩;have r6:=ag r5 i;replace h:=h.belw i;replace j:=j.belw i;replace q:=q.belw i;replace r:=r.belw i;replace u:=u.belw i;replace t:=t.belw i)
    |(go_at_call 197;(with_reducible refine(dV _ (!sb) A3 n3 c3 (au (x/y)) (sgn true x/sgn sb y) ?_ ?_ ?_).mono ?_);(exact u);(omega);(rw[U.out.1,ai];cases sb<;>rfl);rintro e w7⟨X,n8,V,rfl,J,g⟩;have r7:=ag r6 g;replace h:=h.belw g;replace j:=j.belw g;replace q:=q.belw g;replace r:=r.belw g;replace u:=u.belw g;replace t:=t.belw g)
    |(go_at_call 197;(with_reducible refine(dV _ false A4 0 c4 (au (x%y)) (sgn true x%sgn sb y) ?_ ?_ ?_).mono ?_);(exact t);(omega);(rw[U.out.2,ai];rfl);rintro e w8⟨W,n9,S,rfl,M,f⟩;have N:=ag r7 f;replace h:=h.belw f;replace j:=j.belw f;replace q:=q.belw f;replace r:=r.belw f;replace u:=u.belw f;replace t:=t.belw f;replace J:=J.belw f;obtain⟨⟨sc,E⟩,C,sz⟩:=bO.of (by omega) a D N))
  clear o;go_wp2_with fail;refine xD (v:=.tuple #[.agg #[.bool _,.slice X n8 V],.agg #[.bool _,.slice W n9 S],.nilIface]) (by simp[results,Tryz.results251,go_sem,C];first|rfl|exact⟨rfl,rfl⟩) rfl ?_;have Z:=x2.below N;have T:=x3.below N;refine⟨X,n8,V,W,n9,S,rfl,?_,?_,?_⟩
  ·exact J.keep (kp4 Z T (by decide) (by decide) _ _ _ _ _ _ _ _)
  ·exact M.keep (kp4 Z T (by decide) (by decide) _ _ _ _ _ _ _ _)
  exact((((b0.trans (N.mono b0.size)).setCell (by dsimp only;omega) _).setCell (by dsimp only;omega) _).setCell (by dsimp only;omega) _).setCell (by dsimp only;omega) _
 have ab:=Qh H
 have L:0<n4:=by
  rcases Nat.eq_zero_or_pos n4 with e|e
  ·exfalso
   have M:=t.2.1;rw[e]at M;exact H (aV.1 (lq M.symm))
  exact e
 have e2:decide (0<n4)=true:=by simp[L]
 clear H
 go_wp2_with (first
  |(go_at_call 195;(with_reducible refine(gV _ b A n c l true ?_ ?_ ?_).mono ?_);(exact h);(omega);(exact P.out.1);rintro e w4⟨rfl,p⟩;have Y:=ag r3 p;replace h:=h.belw p;replace j:=j.belw p;replace q:=q.belw p;replace r:=r.belw p;replace u:=u.belw p;replace t:=t.belw p;(try clear sc E C sz);obtain⟨⟨sc,E⟩,C,sz⟩:=bO.of (by omega) a D Y)
  |(go_at_call 224;(with_reducible refine(Db _ A3 n3 c3 (au (x/y)) ?_ ?_ (some ⟨w4.heap.size,0,none⟩) 1 1 [1] ?_ ?_ (x/y+1) ?_).mono ?_);(exact(u.keep ((Kp.refl _).alloc _)));(omega);(exact qJ _ _ _ rfl (by decide));(omega);(rw[ai];rfl);rintro e w5⟨A5,n5,c5,rfl,I,d⟩;replace d:=((kz _ _).alloc Qr _).trans (d.mono (by simp));have r5:=ag Y d;replace h:=h.belw d;replace j:=j.belw d;replace q:=q.belw d;replace r:=r.belw d;replace u:=u.belw d;replace t:=t.belw d;(try clear sc E C sz);obtain⟨⟨sc,E⟩,C,sz⟩:=bO.of (by omega) a D r5)
  |(go_at_call 257;(with_reducible refine(Dc _ A1 n1 c1 (WD.m ⟨F,l'⟩) ?_ ?_ A4 n4 c4 (au (x%y)) ?_ ?_ ?_ (y-x%y) ?_).mono ?_);(exact q);(omega);(exact t);(exact a0);(rw[ai,HX.out.2];exact Nat.le_of_lt HR.out);(rw[ai,HX.out.2]);rintro e w6⟨A6,n6,c6,rfl,O,i⟩;have r6:=ag r5 i;replace h:=h.belw i;replace j:=j.belw i;replace q:=q.belw i;replace r:=r.belw i;replace u:=u.belw i;replace t:=t.belw i;replace I:=I.belw i;(try clear sc E C sz);obtain⟨⟨sc,E⟩,C,sz⟩:=bO.of (by omega) a D r6))
 have bd:n5<=1099511627001:=by rw[I.2.1];exact yc u aZ
 have be:n6<=n1:=by rw[O.2.1];exact sC (Nat.lt_of_le_of_lt (Nat.sub_le _ _) (HX.out.2 ▸ q.vlt Qr)) Qr
 have U:=Qh (AZ (sb:=sb) (x:=x) HY.out ab.out);(try clear sc E C sz);have o:w.heap.size+1+1<=w.heap.size+1+1+1+1:=by omega
 go_region_held3 (fun w'=>Sees (w.heap.size+1+1) W0 w') (first|exact Sees.of (Nat.le_trans o a) (by assumption)|exact Sees.of (Nat.le_trans o a) (af (by assumption) _)|exact(Sees.set (Sees.of (Nat.le_trans o a) (by assumption)) (by simp))|exact(Sees.set (Sees.set (Sees.of (Nat.le_trans o a) (by assumption)) (by simp)) (by simp))|exact(Sees.set (Sees.set (Sees.set (Sees.of (Nat.le_trans o a) (by assumption)) (by simp)) (by simp)) (by simp))|exact(Sees.set (Sees.set (Sees.set (Sees.set (Sees.of (Nat.le_trans o a) (by assumption)) (by simp)) (by simp)) (by simp)) (by simp)))
  (first
   |(go_at_call 195;(with_reducible refine(gV _ b A n c l true ?_ ?_ ?_).mono ?_);(exact h);(omega);(exact P.out.1);rintro e w7⟨rfl,g⟩;replace g:=ag (af (aa _) 1) g;have r7:=ag r6 g;replace h:=h.belw g;replace j:=j.belw g;replace q:=q.belw g;replace r:=r.belw g;replace u:=u.belw g;replace t:=t.belw g;replace I:=I.belw g;replace O:=O.belw g)
   |(go_at_call 195;(with_reducible refine(gV _ F A' n' c' l' sb ?_ ?_ ?_).mono ?_);(exact j);(omega);(exact P.out.2);rintro e w8⟨rfl,f⟩;have N:=ag r7 f;replace h:=h.belw f;replace j:=j.belw f;replace q:=q.belw f;replace r:=r.belw f;replace u:=u.belw f;replace t:=t.belw f;replace I:=I.belw f;replace O:=O.belw f)
   |(go_at_call 197;(with_reducible refine(dV _ (!sb) A5 n5 c5 (au (x/y+1)) (sgn true x/sgn sb y) ?_ ?_ ?_).mono ?_);(exact I);(omega);(rw[U.out.1,ai];cases sb<;>rfl);rintro e w9⟨X,n8,V,rfl,J,G⟩;have r9:=ag N G;replace h:=h.belw G;replace j:=j.belw G;replace q:=q.belw G;replace r:=r.belw G;replace u:=u.belw G;replace t:=t.belw G;replace I:=I.belw G;replace O:=O.belw G)
   |(go_at_call 197;(with_reducible refine(dV _ false A6 n6 c6 (au (y-x%y)) (sgn true x%sgn sb y) ?_ ?_ ?_).mono ?_);(exact O);(omega);(rw[U.out.2,ai];rfl);rintro e bg⟨W,n9,S,rfl,M,B⟩;have R:=ag r9 B;replace h:=h.belw B;replace j:=j.belw B;replace q:=q.belw B;replace r:=r.belw B;replace u:=u.belw B;replace t:=t.belw B;replace I:=I.belw B;replace O:=O.belw B;replace J:=J.belw B;obtain⟨⟨sc,E⟩,C,sz⟩:=bO.of (by omega) a D R))
 clear o;go_wp2_with fail;refine xD (v:=.tuple #[.agg #[.bool _,.slice X n8 V],.agg #[.bool _,.slice W n9 S],.nilIface]) (by simp[results,Tryz.results251,go_sem,C];first|rfl|exact⟨rfl,rfl⟩) rfl ?_;have Z:=x2.below R;have T:=x3.below R;refine⟨X,n8,V,W,n9,S,rfl,?_,?_,?_⟩
 ·exact J.keep (kp4 Z T (by decide) (by decide) _ _ _ _ _ _ _ _)
 ·exact M.keep (kp4 Z T (by decide) (by decide) _ _ _ _ _ _ _ _)
 exact((((b0.trans (R.mono b0.size)).setCell (by dsimp only;omega) _).setCell (by dsimp only;omega) _).setCell (by dsimp only;omega) _).setCell (by dsimp only;omega) _

theorem kw(w:World)(g:Nat)(d:g=w.heap.size)(z1 z2:Int)(v:Nat)(c:z1=((v%4294967296:Nat):Int))(b:z2=((v/4294967296:Nat):Int))(f:v<18446744073709551616):
 Wd (w.alloc (.cells #[.int .u32 z1,.int .u32 z2] 58)) (some ⟨g,0,none⟩) 2 2 [v%4294967296,v/4294967296]:=by
 subst c b d;exact(Blk.new w 58 (cellsOf [v%4294967296,v/4294967296])).wdN (by intro y a;simp at a;omega) rfl
theorem Fz(w:World)(i:Int)(o:-9223372036854775808<=i)(h:i<9223372036854775808):
 Calls Tryz.prog 198 #[.int .i64 i] w (jU w (wh i)):=by
 obtain⟨v,p⟩:∃v:Nat,v=i.natAbs:=⟨_,rfl⟩;have b:v<18446744073709551616:=by omega
 have a:val [v%4294967296,v/4294967296]=v:=by simp[val];omega
 have q:=Qh a;by_cases c:i<0
 ·have t:IntKind.u64.wrap i=i+18446744073709551616:=by unfold IntKind.wrap;simp[IntKind.bits,IntKind.signed];omega
  have z:IntKind.u64.wrap (-(i+18446744073709551616))=(v:Int):=by unfold IntKind.wrap;simp[IntKind.bits,IntKind.signed];omega
  have u:decide (i<0)=true:=by simp;omega
  have y:IntKind.u32.wrap (v:Int)=((v%4294967296:Nat):Int):=by unfold IntKind.wrap;simp[IntKind.bits,IntKind.signed]
  have r:IntKind.u32.wrap ((v:Int)/4294967296)=((v/4294967296:Nat):Int):=by unfold IntKind.wrap;simp[IntKind.bits,IntKind.signed];omega
  have n:=Qh (show sgn true v=i by simp[sgn];omega);have f:=Qh b;clear p a b c o h;go_in;go_wp2_with (go_at_call 197;refine(dV _ true (some ⟨w.heap.size+1,0,none⟩) 2 2 [v%4294967296,v/4294967296] i ?_ ?_ ?_).mono ?_;(exact kw (w.alloc _) _ (by simp) _ _ v (by simp) (by simp) f.out);(omega);(rw[q.out];exact n.out);rintro e j⟨l,m,c1,rfl,h,hb⟩;obtain⟨k,s⟩:=dU hb);have d:j.cell? ⟨w.heap.size,0,none⟩=some (.bool false):=(k w.heap.size 0 (by simp;omega)).trans (by simp[go_sem]);have g:j.cell? ⟨w.heap.size,1,none⟩=some (.slice none 0 0):=(k w.heap.size 1 (by simp;omega)).trans (by simp[go_sem]);refine xD (v:=.agg #[.bool _,.slice l m c1]) (by simp[results,Tryz.results198,go_sem,d,g];rfl) rfl ?_;have x:=((bT w #[.bool false,.slice none 0 0] 194 rfl).alloc _).below hb;refine km ?_ ?_ ?_
  ·rfl
  ·exact h.keep (kp2 x (by decide) _ _ _ _)
  exact((((((kz _ _).alloc Qr _).alloc (by simp) _).trans (hb.mono (by simp;omega)))).setCell (by dsimp only;omega) _).setCell (by dsimp only;omega) _
 have t:IntKind.u64.wrap i=(v:Int):=by unfold IntKind.wrap;simp[IntKind.bits,IntKind.signed];omega
 have u:decide (i<0)=false:=by simp;omega
 have y:IntKind.u32.wrap (v:Int)=((v%4294967296:Nat):Int):=by unfold IntKind.wrap;simp[IntKind.bits,IntKind.signed]
 have r:IntKind.u32.wrap ((v:Int)/4294967296)=((v/4294967296:Nat):Int):=by unfold IntKind.wrap;simp[IntKind.bits,IntKind.signed];omega
 have n:=Qh (show sgn false v=i by simp[sgn];omega);have f:=Qh b;clear p a b c o h;go_in;go_wp2_with (go_at_call 197;refine(dV _ false (some ⟨w.heap.size+1,0,none⟩) 2 2 [v%4294967296,v/4294967296] i ?_ ?_ ?_).mono ?_;(exact kw (w.alloc _) _ (by simp) _ _ v (by simp) (by simp) f.out);(omega);(rw[q.out];exact n.out);rintro e j⟨l,m,c1,rfl,h,hb⟩;obtain⟨k,s⟩:=dU hb);have d:j.cell? ⟨w.heap.size,0,none⟩=some (.bool false):=(k w.heap.size 0 (by simp;omega)).trans (by simp[go_sem]);have g:j.cell? ⟨w.heap.size,1,none⟩=some (.slice none 0 0):=(k w.heap.size 1 (by simp;omega)).trans (by simp[go_sem]);refine xD (v:=.agg #[.bool _,.slice l m c1]) (by simp[results,Tryz.results198,go_sem,d,g];rfl) rfl ?_;have x:=((bT w #[.bool false,.slice none 0 0] 194 rfl).alloc _).below hb;refine km ?_ ?_ ?_
 ·rfl
 ·exact h.keep (kp2 x (by decide) _ _ _ _)
 exact((((((kz _ _).alloc Qr _).alloc (by simp) _).trans (hb.mono (by simp;omega)))).setCell (by dsimp only;omega) _).setCell (by dsimp only;omega) _
end Go.Proofs.YtfilnhompchciaaGreatDoor
