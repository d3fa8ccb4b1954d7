/- Part CQ3: lemmas and walks that the claim rests on. No claim is made here. -/
import Derived.Lib.ItoaNum
import Derived.Deep.RegionHeld3
import Derived.Deep.DrawnRows
import Derived.Lib.AppendIntMem
import Derived.Laws.OwnMore
import Derived.Deep.AppendLies
import Derived.Shelf.Strings.SlTrimAscii
import Derived.WalkSpells
import Derived.BigQuiet
import Derived.Deep.DeepCutAuto
import Derived.Lib.IndexMore
import Derived.Test.YtndhgcfajlalhaaGreatDoorCQ2
set_option linter.unusedVariables false
set_option maxHeartbeats 8000000
set_option maxRecDepth 100000
/- Division bit by bit: plain numbers. -/
namespace Bn
theorem yz {l:List Nat}(h:Wds l) (j:Nat):wd l j=val l/4294967296^j%4294967296:=by
 have e:=bm l (show l.length<=j+(l.length+1) by omega);have a:Sm (wd l) j<4294967296^j:=fj (fun i _=>bN h i);rw [sS,qF] at e;simp only [Nat.add_zero] at e;generalize Sm (fun i=>wd l (j+(i+1))) l.length=X at e;rw [<- e,Nat.add_mul_div_left _ _ (gN j),Nat.div_eq_of_lt a,Nat.zero_add,Nat.add_mul_mod_self_left];exact (Nat.mod_eq_of_lt (bN h j)).symm
theorem kR (i:Nat):4294967296^(i/32)*2^(i%32)=2^i:=by
 have:(4294967296:Nat)^(i/32)=2^(32*(i/32)):=by rw [Nat.pow_mul]
 rw [this,<- Nat.pow_add,Nat.div_add_mod]
theorem Dg {l:List Nat}(h:Wds l) (i:Nat):wd l (i/32)/2^(i%32)%2=val l/2^i%2:=by
 rw [yz h,<- kR i,<- Nat.div_div_eq_div_mul];generalize val l/4294967296^(i/32)=x;have c:i%32<32:=Nat.mod_lt _ (by decide);generalize i%32=s at *;have a:=Nat.testBit_mod_two_pow x 32 s;simp only [c,decide_true,Bool.true_and,Nat.testBit_eq_decide_div_mod_eq] at a;have b:(x%2^32/2^s%2=1) ↔ (x/2^s%2=1):=by simpa using a
 have e:(2:Nat)^32=4294967296:=by decide
 rw [e] at b;omega
theorem Bv (L:List Nat) (j x:Nat) (h:j<L.length):val (L.set j x)+wd L j*4294967296^j=val L+x*4294967296^j:=by
 have:=dx L j x L.length h h;rw [bm (L.set j x) (by simp),bm L Qr] at this;exact this
theorem yA {x s:Nat}(a:x%2^(s+1)=0):x ||| 2^s=x+2^s:=by
 have h:=Nat.shiftLeft_add_eq_or_of_lt (b:=2^s) (i:=s+1) (Nat.pow_lt_pow_right (by omega) (by omega)) (x/2^(s+1));rw [Nat.shiftLeft_eq,Nat.div_mul_cancel (Nat.dvd_of_mod_eq_zero a)] at h;exact h.symm
theorem Dh {L:List Nat}(h:Wds L) (i:Nat) (f:i/32<L.length) {m:Nat}(d:val L=m*2^(i+1)) :
 wd L (i/32) ||| 2^(i%32)=wd L (i/32)+2^(i%32)/\wd L (i/32)+2^(i%32)<4294967296/\val (L.set (i/32) (wd L (i/32)+2^(i%32)))=val L+2^i:=by
 have g:i%32<32:=Nat.mod_lt _ (by decide)
 have b:wd L (i/32)%2^(i%32+1)=0:=by
  rw [yz h,d,Nat.pow_succ,<- kR i];have c:m*(4294967296^(i/32)*2^(i%32)*2)=4294967296^(i/32)*(m*2^(i%32+1)):=by rw [Nat.pow_succ];grind
  rw [c,Nat.mul_div_cancel_left _ (gN _)];have j:(4294967296:Nat)=2^(i%32+1)*2^(31-i%32):=by rw [<- Nat.pow_add,show i%32+1+(31-i%32)=32 by omega]
  rw [j,Nat.mod_mul_right_mod,Nat.mul_mod_left]
 refine ⟨yA b,?_,?_⟩
 ·have a:wd L (i/32) ||| 2^(i%32)<2^32:=Nat.or_lt_two_pow (bN h _) (Nat.pow_lt_pow_right (by omega) g)
  rw [yA b] at a;exact a
 have a:=Bv L (i/32) (wd L (i/32)+2^(i%32)) f;rw [Nat.add_mul,Nat.mul_comm (2^(i%32)),kR] at a;omega
theorem rh (a k:Nat):a/2^k=2*(a/2^(k+1))+a/2^k%2:=by
 rw [Nat.pow_succ,<- Nat.div_div_eq_div_mul];omega
theorem Di {a v k r:Nat}(j:r=2*(a/2^(k+1)%v)+a/2^k%2) (h:v<=r) (d:0<v) :
 a/2^k/v=2*(a/2^(k+1)/v)+1/\a/2^k%v=r-v:=by
 have e:=rh a k;generalize a/2^(k+1)=hi at *;generalize hb:a/2^k%2=b at *;have f:b<=1:=by omega
 rw [e];have i:=Nat.mod_lt hi d;have hd:=Nat.div_add_mod hi v
 have g:2*hi+b=v*(2*(hi/v)+1)+(r-v):=by
  rw [Nat.mul_add,Nat.mul_one];have:v*(2*(hi/v))=2*(v*(hi/v)):=by grind
  omega
 have c:r-v<v:=by omega
 rw [g];constructor
 ·rw [Nat.mul_add_div d,Nat.div_eq_of_lt c,Nat.add_zero]
 rw [Nat.mul_add_mod,Nat.mod_eq_of_lt c]
theorem Bx {a v k r:Nat}(f:r=2*(a/2^(k+1)%v)+a/2^k%2) (h:r<v) :
 a/2^k/v=2*(a/2^(k+1)/v)/\a/2^k%v=r:=by
 have c:0<v:=by omega
 have e:=rh a k;generalize a/2^(k+1)=hi at *;generalize hb:a/2^k%2=b at *;rw [e];have hd:=Nat.div_add_mod hi v
 have d:2*hi+b=v*(2*(hi/v))+r:=by
  have:v*(2*(hi/v))=2*(v*(hi/v)):=by grind
  omega
 rw [d];constructor
 ·rw [Nat.mul_add_div c,Nat.div_eq_of_lt h,Nat.add_zero]
 rw [Nat.mul_add_mod,Nat.mod_eq_of_lt h]
def nS (l L:List Nat) (b k cr:Nat):Prop:=(∀ i,k<=i->wd L i=wd l i)/\Sm (wd L) k+cr*4294967296^k=2*Sm (wd l) k+b
theorem nS.start (l:List Nat) (b:Nat):nS l l b 0 b:=⟨fun _ _=>rfl,by simp [Sm]⟩
theorem rj {x c:Nat}(a:c<=1) (d:x<4294967296):(x*2%4294967296 ||| c)=x*2%4294967296+c/\x*2%4294967296+c<4294967296/\x/2147483648<=1:=by
 refine ⟨?_,by omega,by omega⟩;have h:=Nat.shiftLeft_add_eq_or_of_lt (b:=c) (i:=1) (by omega) (x*2%4294967296/2);rw [Nat.shiftLeft_eq,Nat.pow_one,show x*2%4294967296/2*2=x*2%4294967296 by omega] at h;exact h.symm
theorem nS.step {l L:List Nat}{b k a x:Nat}(h:nS l L b k a) (g:wd l k=x) (d:x<4294967296) (c:k<L.length) :
 nS l (L.set k (x*2%4294967296+a)) b (k+1) (x/2147483648):=by
 refine ⟨fun i m=>?_,?_⟩
 ·rw [bS,if_neg (by omega)];exact h.1 i (by omega)
 rw [cf _ _ _ c,Sm,g,Nat.pow_succ];have j:=h.2;have e:x*2%4294967296+x/2147483648*4294967296=2*x:=by omega
 have n:x*2%4294967296*4294967296^k+x/2147483648*(4294967296^k*4294967296)=2*(x*4294967296^k):=by
  have:(x*2%4294967296+x/2147483648*4294967296)*4294967296^k=2*x*4294967296^k:=by rw [e]
  rw [Nat.add_mul] at this;have f:x/2147483648*(4294967296^k*4294967296)=x/2147483648*4294967296*4294967296^k:=by grind
  rw [f,<- Nat.mul_assoc];exact this
 rw [Nat.add_mul];omega
theorem nS.fin {l L:List Nat}{b k a:Nat}(h:nS l L b k a) (d:l.length=k) (g:L.length=k) (f:2*val l+b<4294967296^k):val L=2*val l+b:=by
 have c:=h.2;rw [bm L (by omega),bm l (by omega)] at c;rcases Nat.eq_zero_or_pos a with e | e
 ·subst e;omega
 have:1*4294967296^k<=a*4294967296^k:=Nat.mul_le_mul_right _ e;omega
theorem yC {r v b m:Nat}(c:r<v) (a:v<4294967296^m) (hb:b<=1):2*r+b<4294967296^(m+1):=by
 rw [Nat.pow_succ];omega
end Bn

/- Roots: plain numbers. -/
namespace Bn
theorem Dk (k:Nat):2^k*2^k=2^(2*k):=by rw [<- Nat.pow_add];congr 1;omega
def mE (M r i:Nat):Prop:=r*r<=M/\M<(r+2^i)*(r+2^i)
theorem mE.start {M N:Nat}(h:M<2^N):mE M 0 (N/2+1):=by
 refine ⟨Nat.zero_le _,?_⟩;rw [Nat.zero_add,Dk];exact Nat.lt_of_lt_of_le h (Nat.pow_le_pow_right (by omega) (by omega))
theorem mE.no {M r i:Nat}(h:mE M r (i+1)) (a:¬ (r+2^i)*(r+2^i)<=M):mE M r i:=⟨h.1,by omega⟩
theorem mE.fin {M r:Nat}(h:mE M r 0):isq M=r:=CK h.1 (by have:=h.2;simpa using this)
end Bn

/- Numbers of bits: plain numbers. -/
namespace Bn
theorem val_rep (n:Nat):val (List.replicate n 0)=0:=by
 induction n with
 | zero=>rfl
 | succ n ih=>rw [List.replicate_succ,val,ih]
end Bn

/- Walks: the reference's number of bits. -/
namespace Go.Proofs.YtndhgcfajlalhaaGreatDoor
open Go Go.RowKit Bn
attribute [local go_sem ↓] Go.wp_at_zero Go.wp_at_succ

theorem yD {l:List Nat}(h:Wds l) (g:0<l.length) {t:Nat}(a:wd l (l.length-1)<2^t):val l<2^(32*(l.length-1)+t):=by
 have e:=bm l Qr;obtain ⟨m,b⟩:∃ m,l.length=m+1:=⟨l.length-1,by omega⟩;rw [b] at e a ⊢;simp only [Nat.add_sub_cancel] at a ⊢;rw [Sm] at e;have d:Sm (wd l) m<4294967296^m:=fj (fun i _=>bN h i);have c:(4294967296:Nat)^m=2^(32*m):=by rw [Nat.pow_mul]
 rw [c] at d e;rw [Nat.pow_add,<- e];have f:(wd l m+1)*2^(32*m)<=2^t*2^(32*m):=Nat.mul_le_mul_right _ a;rw [Nat.add_mul] at f;rw [Nat.mul_comm (2^(32*m)) (2^t)];omega
def FK (w:World) (v n:Nat) (e:Ending) (w':World):Prop:=∃ N:Nat,e=.returned (.int .i64 (N:Nat))/\v<2^N/\N<=32*n/\w=w'
theorem yE (w:World) (A n c l) (d:Wd w A n c l) (G:n<=1099511627776) :
 Calls Tryz.prog 195 #[.slice A n c] w (FK w (val l) n):=by
 have i:=Qh d.2.1;by_cases m:n=0
 ·subst m
  have f:=Qh (show val l=0 by rw [List.eq_nil_of_length_eq_zero i.out.symm];rfl);clear d;go_in;go_wp2;go_ret;exact ⟨0,rfl,by rw [f.out];decide,by omega,rfl⟩
 obtain ⟨g,o,rfl,C,q⟩:=d.at2 (by omega);have k:=q (n-1) (by omega);have a:=d.lt (n-1);have s:0<n:=by omega
 have y:=Qh d.1;obtain ⟨x0,b⟩:∃ x,wd l (n-1)=x:=⟨_,rfl⟩;rw [b] at k a;have D:=Qh b;clear q m b d;have B:((n:Int)==0)=false:=by simp;omega
 go_in;go_wp2_with fail;go_loop [3,4] (fun u j=>∃ (t x:Nat),t<=32/\u=.int .i64 ((32*(n-1)+t:Nat):Int)/\j=.int .u32 (x:Nat)/\x<4294967296/\x=x0/2^t) (fun _ j=>(intOf j).toNat)
 case atStart=>exact ⟨0,x0,by omega,by congr 1;omega,rfl,a,by simp⟩
 case round =>
  obtain ⟨t,x,E,rfl,rfl,F,p⟩:=hrel;have f:=Qh p;clear p;by_cases hz:x=0
  ·subst hz
   go_wp2;go_ret;refine ⟨32*(n-1)+t,rfl,?_,by omega,rfl⟩
   have r:x0<2^t:=by
    have:=f.out;rcases Nat.lt_or_ge x0 (2^t) with h | h
    ·exact h
    have:=Nat.div_pos h (Nat.pow_pos (by omega));omega
   have:=yD y.out (by rw [<- i.out];exact s) (t:=t) (by rw [<- i.out,D.out];exact r);rwa [<- i.out] at this
  ·have v:t<32:=by
    rcases Nat.lt_or_ge t 32 with h | h
    ·exact h
    exfalso;have e:t=32:=by omega
    have:=f.out;rw [e] at this;have:x=0:=by rw [this];exact Nat.div_eq_of_lt a
    omega
   have z:0<x:=by omega
   go_wp2;go_round
   case rel=>exact ⟨t+1,x/2,by omega,by congr 1 <;> omega,by congr 1 <;> omega,by omega,by rw [f.out,Nat.pow_succ,Nat.div_div_eq_div_mul]⟩
   case measure=>simp [intOf];omega

def jT (w:World) (v:Value) (z:Int) (k:Nat) (e:Ending) (w':World):Prop:=∃ b A n c,e=.returned (.tuple #[.agg #[.bool b,.slice A n c],v])/\IV w' b A n c z k/\Below w.heap.size w w'

def Tab (w : World) : Prop := Lib.TabIs Tryz.prog w "internal/strconv.uint64pow10" .u64 Lib.pow10Tab
theorem Tab.belw {w a:World}(h:Tab w) (hb:Below w.heap.size w a):Tab a:=Lib.tabBelow_of_tabIs h a hb
abbrev aa (l:List UInt8):Value:=.string ⟨l.toArray⟩
def strs (ps:List (List UInt8)):List Value:=ps.map aa
theorem jU (a:List (List UInt8)):(strs a).length=a.length:=by simp [strs]
theorem rk (b:List (List UInt8)):∀ u∈strs b,u.oneCell'=true:=by
 intro u a;simp only [strs,List.mem_map] at a;obtain ⟨x,_,rfl⟩:=a;rfl
theorem rl:(Tryz.prog.info? 9).map (fun i=>(i.zero,i.size,i.bytes))=some (some (.string ⟨#[]⟩),1,16):=by kernel_rfl
theorem tb (w:World) (k:Nat) (os:Array Obj):Below w.heap.size w (Sort.grow (w.drewN k) os) :=
 ⟨rfl,rfl,rfl,by simp [Sort.grow],fun j a=>by simp [Sort.grow,Array.getElem?_append_left a]⟩
theorem Dl (w:World) (n:Int) (c:-9223372036854775808<=n) (b:n<=9223372036854775807) (d:Tab w) :
 Calls Tryz.prog 124 #[.int .i64 n] w (ax w (aa (Lib.itoa n))) :=
 (Tryz.strconv_Itoa n c b w d).mono fun e f ⟨a,k,os,hw⟩=>⟨a,by rw [hw];exact tb w k os⟩
def kS (w:World) (p:Value) (ps:List (List UInt8)):Prop:=(ps=[]/\p=.slice none 0 0)\/(ps≠[]/\∃ g cap,p=.slice (some ⟨g,0,none⟩) ps.length cap/\g<w.heap.size/\ps.length<=cap/\∀ j,j<ps.length->w.cell? ⟨g,j,none⟩=(strs ps)[j]?)
theorem kS.belw {w c:World}{p:Value}{a:List (List UInt8)}(h:kS w p a) (hb:Below w.heap.size w c):kS c p a:=by
 rcases h with h | ⟨k,g,cap,i,b,l,f⟩
 ·exact .inl h
 refine .inr ⟨k,g,cap,i,Nat.lt_of_lt_of_le b hb.size,l,fun j d=>?_⟩;rw [<- f j d];simp only [World.cell?,hb.block g b]
theorem yF (w:World) (p:Value) (b:List (List UInt8)) (h:kS w p b) (d:b.flatten.length<=140737488355328) (hN:b.length<=140737488355328) :
 Calls Tryz.prog 64 #[p,.string ⟨#[]⟩] w (ax w (aa b.flatten)):=by
 rcases h with ⟨rfl,rfl⟩ | ⟨t,g,cap,rfl,k,m,r⟩
 ·exact (Tryz.strings_Join_none none 0 ⟨#[]⟩ w).mono fun e s ⟨q,hw⟩=>⟨q,hw ▸ Below.refl _ _⟩
 ·have n:(b.map fun l=>(⟨l.toArray⟩:ByteArray)).map (·.data.toList)=b:=by
   rw [List.map_map];exact (List.map_congr_left (fun a _=>by simp)).trans (List.map_id b)
  have f:(b.map fun l=>(⟨l.toArray⟩:ByteArray)).length=b.length:=by simp
  have i:Lib.join ((b.map fun l=>(⟨l.toArray⟩:ByteArray)).map (·.data.toList)) (⟨#[]⟩:ByteArray).data.toList=b.flatten:=by rw [n];exact vK b
  have:=Tryz.strings_Join g 0 cap (b.map fun l=>⟨l.toArray⟩) ⟨#[]⟩ w (fun j x c=>by
   have o:j<b.length:=by have:=(List.getElem?_eq_some_iff.1 c).1;rw [f] at this;exact this
   rw [Nat.zero_add,r j o];rw [List.getElem?_map] at c;unfold strs;rw [List.getElem?_map]
   cases hp:b[j]? with
   | none=>rw [hp] at c;simp at c
   | some y=>rw [hp] at c;simp at c;subst c;rfl) k (by rw [f];exact hN) (by rw [f];exact m) (by rw [i];exact d)
  rw [i,f] at this;exact this
theorem rm (a b:List UInt8):((⟨a.toArray⟩:ByteArray)++⟨b.toArray⟩)=⟨(a++b).toArray⟩:=by
 apply ByteArray.ext;simp [ByteArray.data_append]
theorem pE (w:World) (z:Int) (r:Nat) (d:List UInt8) (b:z=r) (c:r<1000000000) (hd:Lib.decDigits r=d) (a:Tab w) :
 Calls Tryz.prog 124 #[.int .i64 z] w (ax w (aa d)):=by
 subst b hd;rw [<- Lib.itoa_nonneg];exact Dl w r (by omega) (by omega) a
theorem rn (w:World) (z:Int) (j:Nat) (d:List UInt8) (a:z=j) (b:j<1000000) (hd:Lib.repeatL [48] j=d) :
 Calls Tryz.prog 112 #[.string ⟨#[48]⟩,.int .i64 z] w (ax w (aa d)):=by
 subst a hd;exact Tryz.strings_Repeat ⟨#[48]⟩ j w (by omega) (by show 1*j<=_;omega)
theorem lN (w:World) (A:Option Addr) (n c q r b:Nat) (g:Wd w A n c (ap q)) (h:n<=1099511627776) (f:q%1000000000=r) (d:q/1000000000=b) :
 Calls Tryz.prog 123 #[.slice A n c,.int .u32 1000000000] w fun e a=>∃ A1 n1 c1,e=.returned (.tuple #[.slice A1 n1 c1,.int .u32 (r:Nat)])/\Wd a A1 n1 c1 (ap b)/\Below w.heap.size w a:=by
 have:=tZ w A n c (ap q) g h 1000000000 (by omega) (by omega);rw [ah,f,d] at this;exact this
theorem kS.one (w:World) (S:List UInt8):kS (w.alloc (.cells #[aa S] 9)) (.slice (some ⟨w.heap.size,0,none⟩) 1 1) [S]:=by
 refine .inr ⟨by simp,_,_,rfl,by simp,Qr,fun j a=>?_⟩;rw [World.cell?_alloc_new];have:j=0:=by simpa using a
 subst this;rfl
theorem kS.own {w:World}{base g cap:Nat}{S:List UInt8}{a:List (List UInt8)}(h:w.ownsRow base 9 1 (.slice (some ⟨g,0,none⟩) (1+a.length) cap) (1+a.length) ([aa S]++strs a)) (c:g<w.heap.size) :
 kS w (.slice (some ⟨g,0,none⟩) (1+a.length) cap) (S::a):=by
 refine .inr ⟨by simp,g,cap,by rw [List.length_cons,Nat.add_comm],c,?_,fun j b=>?_⟩
 ·rcases h.2 with ⟨e,_⟩ | ⟨i,d,cur,e,_,_,f,_⟩
  ·exact absurd e (by simp)
  injection e with _ _ e2;rw [List.length_cons];omega
 rw [h.cellAt j (by rw [List.length_cons] at b;omega)];rfl
def EO (N:Nat) (W0 wr:World) (m p:Value):Prop:=∃ A1 n1 c1 q ps,m=.slice A1 n1 c1/\n1<=1099511627000/\AL (Wd wr A1 n1 c1 (ap q)/\lD N q ps/\kS wr p ps)/\Below W0.heap.size W0 wr
theorem Dm (w:World) (b:Bool) (A n c l) (wa:Wd w A n c l) (hn:n<=1000000000) (ht:Tab w) :
 Calls Tryz.prog 85 #[.agg #[.bool b,.slice A n c]] w (ax w (aa (Lib.itoa (WD.z ⟨b,l⟩)))):=by
 have HL:=Qh wa.2.1;have a9:aZ (WD.m ⟨b,l⟩):=WD.canon_m wa.1;obtain ⟨i0,bf,a4,bk,bd⟩:=info_parts rl;obtain ⟨M,hM⟩:∃ M,WD.m ⟨b,l⟩=ap M:=⟨_,(eL a9).symm⟩;have U:(WD.z ⟨b,l⟩).natAbs=M:=by rw [mr,hM,ah]
 obtain ⟨T,hT⟩:∃ T,T=Lib.itoa (WD.z ⟨b,l⟩):=⟨_,rfl⟩;rw [jR,U] at hT;rw [jR,U,<- hT];have HT:=Qh hT;have J:=Qh ht;have HM:=Qh hM;have HA:=Qh U;clear hT ht hM U a9;have b0:Below w.heap.size w (w.alloc (.cells #[.bool b,.slice A n c] 134)):=(Below.refl _ _).alloc Qr _;have x0:Blk (w.alloc (.cells #[.bool b,.slice A n c] 134)) w.heap.size 134 #[.bool b,.slice A n c]:=ak _ _ _ rfl;by_cases al:M=0
 ·subst al
  have hz:(WD.z ⟨b,l⟩)<0->False:=by have:=HA.out;omega
  have bs:T=[48]:=by rw [HT.out,if_neg (fun h=>hz h)];exact Lib.decDigits_one (by omega)
  subst bs;go_in;go_wp2_with (go_at_call 120;refine (eO _ b A n c l ?_ ?_).mono ?_;(exact wa.belw b0);(omega);rintro e w1 ⟨A1,n1,c1,rfl,V,I⟩;rw [HM.out,az] at V;obtain rfl:n1=0:=V.2.1);go_ret;exact ⟨rfl,b0.trans (I.mono b0.size)⟩
 have a8:0<M:=Nat.pos_of_ne_zero al;have an:=Qh a8;clear al a8;go_in;go_wp2_with (go_at_call 120;refine (eO _ b A n c l ?_ ?_).mono ?_;(exact wa.belw b0);(omega);rintro e w1 ⟨A1,n1,c1,rfl,V,I⟩;have aT:n1<=1000000000:=V.m_len (by rw [<- HL.out];exact hn);rw [HM.out] at V;have e1:((n1:Int)==0)=false:=(by have h9:n1≠0:=(fun e=>by have h8:=V.2.1;rw [e] at h8;exact absurd (bp.1 (List.eq_nil_of_length_eq_zero h8.symm)) (by have:=an.out;omega));simp;exact h9));clear e1;go_loopw [3,4] (fun mv pv wr=>EO M w1 wr mv pv) (fun mv _ wr=>valOf wr mv)
 case atStart=>exact ⟨A1,n1,c1,M,[],rfl,by omega,⟨V,lD.start an.out,.inl ⟨rfl,rfl⟩⟩,ae _⟩
 case round =>
  obtain ⟨A3,Y,c3,q,i,rfl,a5,t,B⟩:=hrel;have Q:valOf wr (.slice A3 Y c3)=q:=by rw [t.1.valOf,ah]
  by_cases R:q=0
  ·subst R
   have h0:Y=0:=by have:=t.1.2.1;rw [az] at this;exact this
   subst h0;have a6:M=M/\Lib.decDigits M=i.flatten:=⟨rfl,t.2.1.2.1 rfl⟩;have a2:=t.2.1.len;have bv:Lib.nDigits M<=10*1000000000:=gV aT (by omega) (by have:=V.vlt Qr;rw [ah] at this;exact this);have x1:Blk w1 w.heap.size 134 #[.bool b,.slice A n c]:=x0.below I (by simp);have x2:=x1.below B x1.lt;have y:=((b0.trans (I.mono b0.size)).trans (B.mono (by have:=I.size;have:=b0.size;omega)));have HX:=Qh x2;have HP:=Qh a6.2;have a7:=Qh (show (WD.z ⟨b,l⟩)=sgn (WD.s ⟨b,l⟩) M by rw [WD.z_eq,HM.out,ah]);clear a6 x1 x2;cases hs:WD.s ⟨b,l⟩
   ·have HS:=Qh hs
    have ac:=Qh (show T=i.flatten by rw [HT.out,HP.out,a7.out,hs,if_neg (by simp [sgn])];rfl);clear hs
    go_wp2_with (first
     | (go_at_call 64;(with_reducible refine (yF _ _ i ?_ ?_ ?_).mono ?_);(exact t.2.2);omega;omega;rintro e N ⟨rfl,a⟩;have x3:=HX.out.below a HX.out.lt;obtain ⟨c0,c1⟩:=x3.c2)
     | (go_at_call 121;(with_reducible refine (fM _ b A n c l false ?_ ?_ HS.out).mono ?_);(exact wa.belw (y.trans (a.mono y.size)));omega;rintro e C ⟨rfl,f⟩))
    go_ret;refine ⟨by rw [ac.out];rfl,(y.trans (a.mono y.size)).trans (f.mono (by have:=a.size;have:=y.size;omega))⟩
   have HS:=Qh hs;have ac:=Qh (show T=45::i.flatten by rw [HT.out,HP.out,a7.out,hs,if_pos (by simp [sgn];have:=an.out;omega)];rfl);clear hs;have bz:(i.map List.length).sum<=Lib.nDigits M:=by rw [<- List.length_flatten];exact a2.1
   go_wp2_with (first
    | (go_at_call 64;(with_reducible refine (yF _ _ i ?_ ?_ ?_).mono ?_);(exact t.2.2);omega;omega;rintro e N ⟨rfl,a⟩;have x3:=HX.out.below a HX.out.lt;obtain ⟨c0,c1⟩:=x3.c2)
    | (go_at_call 121;(with_reducible refine (fM _ b A n c l true ?_ ?_ HS.out).mono ?_);(exact wa.belw (y.trans (a.mono y.size)));omega;rintro e C ⟨rfl,f⟩))
   go_ret;refine ⟨?_,(y.trans (a.mono y.size)).trans (f.mono (by have:=a.size;have:=y.size;omega))⟩;rw [ac.out];exact congrArg (fun x=>Ending.returned (.string x)) (rm [45] i.flatten)
  have br:0<q:=Nat.pos_of_ne_zero R;have a0:Y≠0:=fun e=>R (bp.1 (List.eq_nil_of_length_eq_zero (by rw [<- t.1.2.1];exact e)))
  have e1:decide (0<Y)=true:=by simp;omega
  obtain ⟨r,hr⟩:∃ r,q%1000000000=r:=⟨_,rfl⟩;have bx:r<1000000000:=by rw [<- hr];exact Nat.mod_lt _ (by omega)
  obtain ⟨d,hd⟩:∃ d,Lib.decDigits r=d:=⟨_,rfl⟩;obtain ⟨k,hk⟩:∃ k,d.length=k:=⟨_,rfl⟩;have ab:Lib.nDigits r=k:=by rw [<- hk,<- hd,Lib.decDigits_length]
  have b1:k<=9:=by rw [<- ab];exact pB (by omega) bx
  obtain ⟨j,hj⟩:∃ j,k+j=9:=⟨9-k,by omega⟩;obtain ⟨z,hz⟩:∃ z,Lib.repeatL [48] j=z:=⟨_,rfl⟩;have bY:z.length=j:=by rw [<- hz,Lib.repeatL_length];simp
  obtain ⟨W,ao⟩:∃ W,q/1000000000=W:=⟨_,rfl⟩;have Z:=Qh hr;have X:=Qh hd;have HZ:=Qh hz;have O:=Qh ao;have aS:=Qh br;have bb:=Qh ab;have a3:W<q:=by rw [<- ao];omega
  have E:=Qh a3;have y:=((b0.trans (I.mono b0.size)).trans (B.mono (by have:=I.size;have:=b0.size;omega)));have bv:Lib.nDigits M<=10*1000000000:=gV aT (by omega) (by have:=V.vlt Qr;rw [ah] at this;exact this);have a2:=t.2.1.len;clear hr hd hz ao R br a0 ab a3;by_cases h0:W=0
  ·subst h0
   by_cases hp0:i=[]
   ·subst hp0
    have F:u4=.slice none 0 0:=by
     rcases t.2.2 with h | h
     ·exact h.2
     exact absurd rfl h.1
    subst F
    go_wp2_with (first
     | (go_at_call 123;(with_reducible refine (lN _ A3 Y c3 q r 0 ?_ ?_ Z.out O.out).mono ?_);(exact t.1);omega;rintro e N ⟨A5,n5,c5,rfl,D,a⟩;obtain rfl:n5=0:=(by have h9:=D.2.1;rw [az] at h9;exact h9))
     | (go_at_call 124;(with_reducible refine (pE _ _ r d ?_ ?_ X.out ?_).mono ?_);(first | rfl | omega);omega;(exact J.out.belw (y.trans (a.mono y.size)));rintro e C ⟨rfl,f⟩)
    )
    have H:Below wr.heap.size wr C:=(a.mono Qr).trans (f.mono a.size);have b5:Below N.heap.size N C:=f;go_roundw
    case rel =>
     refine ⟨A5,0,c5,0,[d],rfl,?_,⟨(D.belw b5).belw ((Below.refl _ _).alloc Qr _),by have:=t.2.1.last aS.out O.out;rw [O.out,Z.out,X.out] at this;exact this,?_⟩,(B.trans (H.mono B.size)).alloc (Nat.le_trans B.size H.size) _⟩
     ·omega
     have:=kS.one C d;exact this
    case measure =>
     rw [((D.belw b5).belw ((Below.refl _ _).alloc Qr _)).valOf,Q,ah];exact E.out
   have aC:0<i.length:=List.length_pos_iff.2 hp0
   obtain ⟨g,cap,F,hg,a1,o⟩:∃ g cap,u4=.slice (some ⟨g,0,none⟩) i.length cap/\g<wr.heap.size/\i.length<=cap/\∀ j,j<i.length->wr.cell? ⟨g,j,none⟩=(strs i)[j]?:=by
    rcases t.2.2 with h | h
    ·exact absurd h.1 hp0
    exact h.2
   subst F
   have v:∀ w',Below wr.heap.size wr w'->∀ S j u,(strs i)[j]?=some u->(w'.alloc (.cells #[S] 9)).cell? ((⟨g,0,none⟩:Addr).add j)=some u:=by
    intro w' hb S j u hu;have hj:j<i.length:=by have:=(List.getElem?_eq_some_iff.1 hu).1;rw [jU] at this;exact this
    rw [Lib.add_plain,Nat.zero_add,<- hu,<- o j hj];simp only [World.cell?,Below.heap_alloc _ _ _ (Nat.lt_of_lt_of_le hg hb.size),hb.block g hg]
   go_wp2_with (first
    | (go_at_call 123;(with_reducible refine (lN _ A3 Y c3 q r 0 ?_ ?_ Z.out O.out).mono ?_);(exact t.1);omega;rintro e N ⟨A5,n5,c5,rfl,D,a⟩;obtain rfl:n5=0:=(by have h9:=D.2.1;rw [az] at h9;exact h9))
    | (go_at_call 124;(with_reducible refine (pE _ _ r d ?_ ?_ X.out ?_).mono ?_);(first | rfl | omega);omega;(exact J.out.belw (y.trans (a.mono y.size)));rintro e C ⟨rfl,f⟩)
    | (at_builtin;refine wpList_append_lies _ rfl _ _ _ rfl C.heap.size 9 i0 (.string ⟨#[]⟩) 1 16 Tryz.underlying109 bf a4 bk bd rfl (by omega) _ 1 [aa d] rfl (World.ownsRow_lit C #[aa d] 1 Qr (by unfold maxLen;omega) rfl) ⟨g,0,none⟩ i.length cap (strs i) rfl (by rw [jU,Nat.mul_one]) ?_ (rk i) aC (by unfold maxLen;omega) (by omega) (by simp) (C.heap.size+1) (by simp) ?_;(exact v _ ((a.mono Qr).trans (f.mono a.size)) _);intro gx bn w5 G p bu P)
   )
   have H:Below wr.heap.size wr C:=(a.mono Qr).trans (f.mono a.size);have b5:Below N.heap.size N C:=f;have bg:Below C.heap.size C w5:=((Below.refl _ _).alloc Qr _).grown p (by simp) (dd (World.ownsRow_lit (e:=9) (size:=1) C #[aa d] 1 Qr (by unfold maxLen;omega) rfl));have ad:Below w1.heap.size w1 w5:=((B.trans (H.mono B.size)).alloc (Nat.le_trans B.size H.size) _).grown p (by have:=B.size;have:=H.size;simp;omega) (fun k hk=>Nat.le_trans (Nat.le_trans B.size H.size) ((dd (World.ownsRow_lit (e:=9) (size:=1) C #[aa d] 1 Qr (by unfold maxLen;omega) rfl)) k hk));go_roundw
   case rel =>
    refine ⟨A5,0,c5,0,d::i,rfl,?_,⟨(D.belw b5).belw bg,by have:=t.2.1.last aS.out O.out;rw [O.out,Z.out,X.out] at this;exact this,?_⟩,ad⟩
    ·omega
    refine kS.own (base:=C.heap.size) ?_ P;exact G
   case measure =>
    rw [((D.belw b5).belw bg).valOf,Q,ah];exact E.out
  by_cases hp0:i=[]
  ·subst hp0
   have F:u4=.slice none 0 0:=by
    rcases t.2.2 with h | h
    ·exact h.2
    exact absurd rfl h.1
   subst F
   go_wp2_with (first
    | (go_at_call 123;(with_reducible refine (lN _ A3 Y c3 q r W ?_ ?_ Z.out O.out).mono ?_);(exact t.1);omega;rintro e N ⟨A5,n5,c5,rfl,D,a⟩;have e5:decide (0<n5)=true:=(by have:n5≠0:=(fun e=>h0 (bp.1 (List.eq_nil_of_length_eq_zero (by rw [<- D.2.1];exact e))));simp;omega))
    | (go_at_call 124;(with_reducible refine (pE _ _ r d ?_ ?_ X.out ?_).mono ?_);(first | rfl | omega);omega;(exact J.out.belw (y.trans (a.mono y.size)));rintro e C ⟨rfl,f⟩)
    | (go_at_call 112;(with_reducible refine (rn _ _ j z ?_ ?_ HZ.out).mono ?_);omega;omega;rintro e K ⟨rfl,L⟩)
   )
   have H:Below wr.heap.size wr K:=((a.mono Qr).trans (f.mono a.size)).trans (L.mono (Nat.le_trans a.size f.size));have b5:Below N.heap.size N K:=f.trans (L.mono f.size);go_roundw
   case rel =>
    refine ⟨A5,n5,c5,W,[(z++d)],rfl,?_,⟨(D.belw b5).belw ((Below.refl _ _).alloc Qr _),by have:=t.2.1.more (by rw [O.out];omega);rw [O.out,Z.out,bb.out,X.out,show 9-k=j by omega,HZ.out] at this;exact this,?_⟩,(B.trans (H.mono B.size)).alloc (Nat.le_trans B.size H.size) _⟩
    ·rw [D.2.1];exact Nat.le_trans (ay (Nat.lt_trans (by first | exact E.out | (have:=E.out;omega)) (by have:=t.1.vlt Qr;rw [ah] at this;exact this))) a5
    have:=kS.one K (z++d);rw [show aa (z++d)=.string (⟨z.toArray⟩++⟨d.toArray⟩) by rw [rm]] at this;exact this
   case measure =>
    rw [((D.belw b5).belw ((Below.refl _ _).alloc Qr _)).valOf,Q,ah];exact E.out
  have aC:0<i.length:=List.length_pos_iff.2 hp0
  obtain ⟨g,cap,F,hg,a1,o⟩:∃ g cap,u4=.slice (some ⟨g,0,none⟩) i.length cap/\g<wr.heap.size/\i.length<=cap/\∀ j,j<i.length->wr.cell? ⟨g,j,none⟩=(strs i)[j]?:=by
   rcases t.2.2 with h | h
   ·exact absurd h.1 hp0
   exact h.2
  subst F
  have v:∀ w',Below wr.heap.size wr w'->∀ S j u,(strs i)[j]?=some u->(w'.alloc (.cells #[S] 9)).cell? ((⟨g,0,none⟩:Addr).add j)=some u:=by
   intro w' hb S j u hu;have hj:j<i.length:=by have:=(List.getElem?_eq_some_iff.1 hu).1;rw [jU] at this;exact this
   rw [Lib.add_plain,Nat.zero_add,<- hu,<- o j hj];simp only [World.cell?,Below.heap_alloc _ _ _ (Nat.lt_of_lt_of_le hg hb.size),hb.block g hg]
  go_wp2_with (first
   | (go_at_call 123;(with_reducible refine (lN _ A3 Y c3 q r W ?_ ?_ Z.out O.out).mono ?_);(exact t.1);omega;rintro e N ⟨A5,n5,c5,rfl,D,a⟩;have e5:decide (0<n5)=true:=(by have:n5≠0:=(fun e=>h0 (bp.1 (List.eq_nil_of_length_eq_zero (by rw [<- D.2.1];exact e))));simp;omega))
   | (go_at_call 124;(with_reducible refine (pE _ _ r d ?_ ?_ X.out ?_).mono ?_);(first | rfl | omega);omega;(exact J.out.belw (y.trans (a.mono y.size)));rintro e C ⟨rfl,f⟩)
   | (go_at_call 112;(with_reducible refine (rn _ _ j z ?_ ?_ HZ.out).mono ?_);omega;omega;rintro e K ⟨rfl,L⟩)
   | (at_builtin;refine wpList_append_lies _ rfl _ _ _ rfl K.heap.size 9 i0 (.string ⟨#[]⟩) 1 16 Tryz.underlying109 bf a4 bk bd rfl (by omega) _ 1 [.string (⟨z.toArray⟩++⟨d.toArray⟩)] rfl (World.ownsRow_lit K #[.string (⟨z.toArray⟩++⟨d.toArray⟩)] 1 Qr (by unfold maxLen;omega) rfl) ⟨g,0,none⟩ i.length cap (strs i) rfl (by rw [jU,Nat.mul_one]) ?_ (rk i) aC (by unfold maxLen;omega) (by omega) (by simp) (K.heap.size+1) (by simp) ?_;(exact v _ (((a.mono Qr).trans (f.mono a.size)).trans (L.mono (Nat.le_trans a.size f.size))) _);intro gx bn w5 G p bu P)
  )
  have H:Below wr.heap.size wr K:=((a.mono Qr).trans (f.mono a.size)).trans (L.mono (Nat.le_trans a.size f.size));have b5:Below N.heap.size N K:=f.trans (L.mono f.size);have bg:Below K.heap.size K w5:=((Below.refl _ _).alloc Qr _).grown p (by simp) (dd (World.ownsRow_lit (e:=9) (size:=1) K #[.string (⟨z.toArray⟩++⟨d.toArray⟩)] 1 Qr (by unfold maxLen;omega) rfl));have ad:Below w1.heap.size w1 w5:=((B.trans (H.mono B.size)).alloc (Nat.le_trans B.size H.size) _).grown p (by have:=B.size;have:=H.size;simp;omega) (fun k hk=>Nat.le_trans (Nat.le_trans B.size H.size) ((dd (World.ownsRow_lit (e:=9) (size:=1) K #[.string (⟨z.toArray⟩++⟨d.toArray⟩)] 1 Qr (by unfold maxLen;omega) rfl)) k hk));go_roundw
  case rel =>
   refine ⟨A5,n5,c5,W,(z++d)::i,rfl,?_,⟨(D.belw b5).belw bg,by have:=t.2.1.more (by rw [O.out];omega);rw [O.out,Z.out,bb.out,X.out,show 9-k=j by omega,HZ.out] at this;exact this,?_⟩,ad⟩
   ·rw [D.2.1];exact Nat.le_trans (ay (Nat.lt_trans E.out (by have:=t.1.vlt Qr;rw [ah] at this;exact this))) a5
   refine kS.own (base:=K.heap.size) ?_ P;rw [show aa (z++d)=.string (⟨z.toArray⟩++⟨d.toArray⟩) by rw [rm]];exact G
  case measure =>
   rw [((D.belw b5).belw bg).valOf,Q,ah];exact E.out

theorem aF (l:List UInt8):(⟨l.toArray⟩:ByteArray).toList=l:=by rw [Lib.toList_data]
theorem aJ (l:List UInt8):(⟨l.toArray⟩:ByteArray).size=l.length:=rfl
theorem oH (l:List UInt8) (a b:Nat):(⟨l.toArray⟩:ByteArray).extract a b=⟨((l.drop a).take (b-a)).toArray⟩:=by
 apply ByteArray.ext;rw [ByteArray.data_extract];simp
theorem bP (w:World) (l:List UInt8) (m:Bool) (a:cw l=m):Calls Tryz.prog 148 #[aa l,.string ⟨#[45]⟩] w (ax w (.bool m)):=by
 subst a;refine (Tryz.strings_HasPrefix ⟨l.toArray⟩ ⟨#[45]⟩ w).mono fun e c ⟨b,hw⟩=>⟨?_,hw ▸ ae _⟩
 rw [b];exact congrArg (fun x=>Ending.returned (.bool x)) (gX l)
theorem oI (w:World) (l t:List UInt8) (b:bT l=t):Calls Tryz.prog 153 #[aa l,.string ⟨#[45]⟩] w (ax w (aa t)):=by
 subst b;refine (Tryz.strings_TrimPrefix ⟨l.toArray⟩ ⟨#[45]⟩ w).mono fun e c ⟨a,hw⟩=>⟨?_,hw ▸ ae _⟩
 rw [a];exact congrArg (fun x:List UInt8=>Ending.returned (aa x)) (jS l)
theorem yG (w:World) (t x:List UInt8) (b:t.length<=1000000) (a:Lib.trimS t mB=x):Calls Tryz.prog 154 #[aa t,.string ⟨#[48,49,50,51,52,53,54,55,56,57]⟩] w (ax w (aa x)):=by
 subst a;exact Any.strings_Trim_laid Tryz.lays160 (by kernel_rfl) ⟨t.toArray⟩ ⟨#[48,49,50,51,52,53,54,55,56,57]⟩ w (by show t.length<=_;omega) (by decide) (ascii_of_all (by decide))
theorem yH (w:World) (t:List UInt8) (x:Nat) (h:t.length<=9) (d:t≠[]) (c:t.all aX=true) (f:ar t=x):Calls Tryz.prog 155 #[aa t] w (ax w (.tuple #[.int .i64 (x:Nat),.nilIface])):=by
 subst f;refine (Tryz.strconv_Atoi ⟨t.toArray⟩ (ar t:Nat) (by show t.length<=18;omega) (yy c d) w).mono fun e g ⟨a,t,hw⟩=>⟨a,?_⟩
 rw [hw];exact ⟨rfl,rfl,rfl,by rw [Lib.bytesWorld_size];omega,fun j b=>Lib.bytesWorld_at_old _ _ _ j b⟩
def yI (T:List UInt8) (W0 wr:World) (tv mv:Value):Prop:=∃ pre rest A1 n1 c1,tv=aa rest/\mv=.slice A1 n1 c1/\n1<=65536/\rest.length<=65536/\AL (nR T pre rest/\pre.all aX=true/\rest.all aX=true/\Wd wr A1 n1 c1 (ap (ar pre)))/\Below W0.heap.size W0 wr
def yJ:Value->Nat
  | .string s=>s.size
  | _=>0
theorem yK (w:World) (A:Option Addr) (n c x:Nat) (h:Wd w A n c (ap x)) (i:n<=1099511627776) (f:Option Addr) (a d y:Nat) (g:Wd w f a d (ap y)) (b:a<=1099511627776) :
 Calls Tryz.prog 141 #[.slice A n c,.slice f a d] w (fz w (ap (x+y))):=by
 have:=sQ w A n c (ap x) h i f a d (ap y) g b;rw [ah,ah] at this;exact this
theorem uo (w:World) (A:Option Addr) (n c x:Nat) (f:Wd w A n c (ap x)) (b:n<=1099511627776) (g:Nat) (z:Int) (y:Nat) (h:z=y) (i:y<4294967296) (hb:Blk w g 173 #[.int .u32 z]) :
 Calls Tryz.prog 143 #[.slice A n c,.slice (some ⟨g,0,none⟩) 1 1] w (fz w (ap (x*y))):=by
 subst h;have d:Wd w (some ⟨g,0,none⟩) 1 1 [y]:=Blk.wdN (l:=[y]) hb (by intro x a;simp at a;omega) rfl;have:=tY w A n c (ap x) f b (some ⟨g,0,none⟩) 1 1 [y] d (by omega);rw [ah,show val [y]=y by simp [val]] at this;exact this
theorem yL (w:World) (g:Nat) (z:Int) (y:Nat) (c:z=y) (d:y<4294967296) (hb:Blk w g 173 #[.int .u32 z]) :
 Calls Tryz.prog 156 #[.slice (some ⟨g,0,none⟩) 1 1] w (fz w (ap y)):=by
 subst c;have b:Wd w (some ⟨g,0,none⟩) 1 1 [y]:=Blk.wdN (l:=[y]) hb (by intro x a;simp at a;omega) rfl;have:=fA w (some ⟨g,0,none⟩) 1 1 [y] b (by omega);rw [show val [y]=y by simp [val]] at this;exact this
theorem tc (w:World) (l:List UInt8) (hl:l.length<=65536) (hb:okZ l=true) :
 Calls Tryz.prog 113 #[aa l] w (jT w .nilIface (eT l) l.length):=by
 have bf:=aJ l;have y:=vM l;have a1:=Nat.le_trans y hl;obtain ⟨m,hm⟩:∃ m,cw l=m:=⟨_,rfl⟩;obtain ⟨t,ht⟩:∃ t,bT l=t:=⟨_,rfl⟩;obtain ⟨h0,h1,h2⟩:=vN hb;have hv:eT l=if m then -(ar t:Int) else ar t:=by unfold eT;rw [hm,ht]
 rw [hm,ht] at h2;rw [ht] at a1 y h0 h1;have HM:=Qh (And.intro hm ht);have HV:=Qh hv;have b0:Below w.heap.size w (w.alloc (.cells #[.bool false,.slice none 0 0] 134)):=(ae w).alloc Qr _;have x0:Blk (w.alloc (.cells #[.bool false,.slice none 0 0] 134)) w.heap.size 134 #[.bool false,.slice none 0 0]:=ak _ _ _ rfl;clear hb hm ht hv;obtain ⟨c,r,rfl⟩:=List.exists_cons_of_ne_nil h0;have R:=aF (c::r);have Q:=aF [];have aS:=aJ (c::r);have HX:=Qh (Bt.2 h1);have a0:=Qh (show (c::r:List UInt8).length<=1000000 by omega);have S:=Qh h1
 have ao:c≠48\/(c=48/\r=[]/\m=false):=by
  by_cases V:c=48
  ·refine .inr ⟨V,?_,?_⟩
   ·cases r with
    | nil=>rfl
    | cons d rs=>exact absurd ⟨by rw [V];rfl,.inl (by simp)⟩ h2
   cases m with
   | false=>rfl
   | true=>exact absurd ⟨by rw [V];rfl,.inr rfl⟩ h2
  exact .inl V
 have a2:=Qh a1
 have aT:=Qh (show (eT l).natAbs<4294967296^l.length by
  rw [HV.out]
  refine Nat.lt_of_lt_of_le (show (if m=true then -(ar (c::r):Int) else (ar (c::r):Int)).natAbs<4294967296^(c::r).length by
   have:=pD h1
   split <;> omega) (Nat.pow_le_pow_right (by omega) y))
 clear h0 h1 h2;rcases ao with V | ⟨rfl,rfl,rfl⟩
 ·have a3:c.toNat≠48:=fun e=>V (UInt8.toNat.inj e)
  have a5:¬ (c.toNat:Int)=48:=by omega
  have a9:((c.toNat:Int)==48)=false:=by simp;omega
  have aC:∀ h,(⟨(c::r).toArray⟩:ByteArray)[0]' h=c:=fun h=>rfl
  go_in
  go_wp2_with (first
   | (go_at_call 148;(with_reducible refine (bP _ l _ HM.out.1).mono ?_);rintro e w1 ⟨rfl,K⟩;have b1:=b0.trans (K.mono b0.size);have x1:=x0.below K x0.lt)
   | (go_at_call 153;(with_reducible refine (oI _ l _ HM.out.2).mono ?_);rintro e w2 ⟨rfl,A⟩;have b2:=b1.trans (A.mono b1.size);have x2:=x1.below A x1.lt)
   | (go_at_call 154;(with_reducible refine (yG _ _ [] ?_ HX.out).mono ?_);(exact a0.out);rintro e w3 ⟨rfl,B⟩;have b3:=b2.trans (B.mono b2.size);have x3:=x2.below B x2.lt))
  clear aC a5 a9 a3 V R Q aS;go_loopw [5,6] (fun tv mv wr=>yI (c::r) w3 wr tv mv) (fun tv _ _=>yJ tv)
  case atStart=>exact ⟨[],(c::r),none,0,0,rfl,rfl,by omega,a2.out,⟨nR.start _,rfl,S.out,by rw [show ar []=0 from rfl,az];exact Wd.nil_ _⟩,ae _⟩
  case round =>
   obtain ⟨pre,rest,A1,n1,c1,rfl,rfl,a4,Z,g,P⟩:=hrel;have bw:=b3.trans (P.mono b3.size);have x4:=x3.below P x3.lt;by_cases o:rest=[]
   ·subst o
    have I:=g.1.fin;subst I;have z:=aJ [];go_wp2_with (go_at_call 140;refine (iA _ m A1 n1 c1 (ap (ar (c::r))) ?_ ?_).mono ?_;(exact g.2.2.2);omega;rintro e M ⟨A5,n5,c5,rfl,Y,a⟩;have b5:=bw.trans (a.mono bw.size);have x5:=x4.below a x4.lt;obtain ⟨d0,d1⟩:=x5.c2;obtain ⟨f0,f1⟩:=x5.f2);rw [ah] at Y;have hz:sgn m (ar (c::r))=eT l:=by rw [HV.out];rfl
    rw [hz] at Y;refine bodyPost_ret (v:=.tuple #[.agg #[.bool _,.slice A5 n5 c5],.nilIface]) (by simp [results,Tryz.results113,go_sem, *] <;> trivial) rfl ?_;exact ⟨_,_,_,_,rfl,IV.mk_ (Y.keep (kp2 x5.box (by decide) _ _ _ _)) (by rw [ah,hz]) aT.out,(b5.setCell (by dsimp only;omega) _).setCell (by dsimp only;omega) _⟩
   have N:0<rest.length:=List.length_pos_iff.2 o;obtain ⟨L,i⟩:∃ L,rest.length=L:=⟨_,rfl⟩;obtain ⟨k,X⟩:∃ k,(L-1)%9=k:=⟨_,rfl⟩;have bb:k<9:=by rw [<- X];exact Nat.mod_lt _ (by omega)
   have b:=g.1.step (n:=k+1) N (by rw [i,X]);rw [i] at b N Z;have a6:=b.1;have z:(⟨rest.toArray⟩:ByteArray).size=L:=i;have e1:((L:Int)-1)%9=(k:Int):=by omega
   have e2:(⟨rest.toArray⟩:ByteArray).extract 0 (k+1)=⟨(rest.take (k+1)).toArray⟩:=by rw [oH];simp
   have e3:(⟨rest.toArray⟩:ByteArray).extract (k+1) L=⟨(rest.drop (k+1)).toArray⟩:=by rw [oH,List.take_of_length_le];rw [List.length_drop,i];exact Qr
   obtain ⟨x,T⟩:∃ x,ar (rest.take (k+1))=x:=⟨_,rfl⟩;have f:=re g.2.2.1 (k+1)
   have a8:x<1000000000:=by
    have j:=eH f;rw [T] at j;refine Nat.lt_of_lt_of_le j (Nat.le_trans (Nat.pow_le_pow_right (by omega) (show (rest.take (k+1)).length<=9 by rw [List.length_take];omega)) (by decide))
   have ab:=rf g.2.2.1 (k+1);have p:=Qh b;have F:=Qh T;have q:=Qh f;have ac:=Qh i;have H:(rest.drop (k+1)).length=L-(k+1):=by rw [List.length_drop,i]
   have s:=Qh H;have G:(rest.take (k+1)).length<=9:=by rw [List.length_take];omega
   have u:rest.take (k+1)≠[]:=fun e=>by have:=congrArg List.length e;rw [List.length_take,i] at this;simp at this;omega
   have E:=Qh (And.intro G u);have ad:=eH (show (pre++rest.take (k+1)).all aX=true by rw [List.all_append,g.2.1,f];rfl);clear X b T f i o H G u
   go_wp2_with (first
    | (go_at_call 155;(with_reducible refine (yH _ (rest.take (k+1)) x ?_ ?_ ?_ F.out).mono ?_);(exact E.out.1);(exact E.out.2);(exact q.out);rintro e M ⟨rfl,a⟩;have b5:Below wr.heap.size wr (M.alloc (.cells #[.int .u32 1000000000] 173)):=a.alloc a.size _;have y5:Blk (M.alloc (.cells #[.int .u32 1000000000] 173)) M.heap.size 173 #[.int .u32 1000000000]:=ak _ _ _ rfl)
    | (go_at_call 143;(with_reducible refine (uo _ A1 n1 c1 (ar pre) ?_ ?_ M.heap.size 1000000000 1000000000 ?_ ?_ ?_).mono ?_);(exact g.2.2.2.belw b5);omega;rfl;omega;(exact y5);rintro e O ⟨A6,n6,c6,rfl,h6,al⟩;have W:=b5.trans (al.mono b5.size);have a7:n6<=1000000000:=(by have j:=h6.2.1;rw [j];refine Nat.le_trans (ay (k:=n1+1) ?_) (by omega);have D:=(g.2.2.2).vlt Qr;rw [ah] at D;rw [Nat.pow_succ];exact Nat.mul_lt_mul'' D (by omega)))
    | (go_at_call 156;(with_reducible refine (yL _ O.heap.size (x:Int) x ?_ ?_ ?_).mono ?_);(first | rfl | omega);omega;(exact ak _ _ _ rfl);rintro e w7 ⟨A7,n7,c7,rfl,h7,J⟩;have b7:Below wr.heap.size wr w7:=(W.alloc W.size _).trans (J.mono (by have:=W.size;simp;omega));have an:Below O.heap.size O w7:=((ae O).alloc Qr _).trans (J.mono (by simp));have bd:n7<=1000000000:=(by have j:=h7.2.1;rw [j];exact Nat.le_trans (ay (k:=1) (by omega)) (by omega)))
    | (go_at_call 141;(with_reducible refine (yK _ A6 n6 c6 (ar pre*1000000000) ?_ ?_ A7 n7 c7 x ?_ ?_).mono ?_);(exact h6.belw an);omega;(exact h7);omega;rintro e w8 ⟨A8,n8,c8,rfl,D,U⟩;have b8:=b7.trans (U.mono b7.size)))
   have C:ar pre*1000000000+x=ar (pre++rest.take (k+1)):=by rw [p.out.2.2.2.2,F.out]
   go_roundw
   case rel =>
    refine ⟨pre++rest.take (k+1),rest.drop (k+1),A8,n8,c8,rfl,rfl,?_,by rw [s.out];omega,⟨p.out.2.2.2.1,by rw [List.all_append,g.2.1,q.out];rfl,ab,by rw [<- C];exact D⟩,P.trans (b8.mono P.size)⟩;rw [D.2.1,C];refine Nat.le_trans (ay (Nat.lt_of_lt_of_le ad (pC _))) ?_;have j:=congrArg List.length p.out.2.2.2.1.1;rw [List.length_append] at j;omega
   case measure =>
    show (rest.drop (k+1)).length<rest.length;rw [s.out,ac.out];omega
 go_in
 go_wp2_with (first
  | (go_at_call 148;(with_reducible refine (bP _ l _ HM.out.1).mono ?_);rintro e w1 ⟨rfl,K⟩;have b1:=b0.trans (K.mono b0.size);have x1:=x0.below K x0.lt)
  | (go_at_call 153;(with_reducible refine (oI _ l _ HM.out.2).mono ?_);rintro e w2 ⟨rfl,A⟩;have b2:=b1.trans (A.mono b1.size);have x2:=x1.below A x1.lt)
  | (go_at_call 154;(with_reducible refine (yG _ _ [] ?_ HX.out).mono ?_);(exact a0.out);rintro e w3 ⟨rfl,B⟩;have b3:=b2.trans (B.mono b2.size);have x3:=x2.below B x2.lt))
 clear R Q;go_loopw [5,6] (fun tv mv wr=>yI [48] w3 wr tv mv) (fun tv _ _=>yJ tv)
 case atStart=>exact ⟨[],[48],none,0,0,rfl,rfl,by omega,a2.out,⟨nR.start _,rfl,S.out,by rw [show ar []=0 from rfl,az];exact Wd.nil_ _⟩,ae _⟩
 case round =>
  obtain ⟨pre,rest,A1,n1,c1,rfl,rfl,a4,Z,g,P⟩:=hrel;have bw:=b3.trans (P.mono b3.size);have x4:=x3.below P x3.lt;by_cases o:rest=[]
  ·subst o
   have I:=g.1.fin;subst I;have z:=aJ [];go_wp2_with (go_at_call 140;refine (iA _ false A1 n1 c1 (ap (ar [48])) ?_ ?_).mono ?_;(exact g.2.2.2);omega;rintro e M ⟨A5,n5,c5,rfl,Y,a⟩;have b5:=bw.trans (a.mono bw.size);have x5:=x4.below a x4.lt;obtain ⟨d0,d1⟩:=x5.c2;obtain ⟨f0,f1⟩:=x5.f2);rw [ah] at Y;have hz:sgn false (ar [48])=eT l:=by rw [HV.out];rfl
   rw [hz] at Y;refine bodyPost_ret (v:=.tuple #[.agg #[.bool _,.slice A5 n5 c5],.nilIface]) (by simp [results,Tryz.results113,go_sem, *] <;> trivial) rfl ?_;exact ⟨_,_,_,_,rfl,IV.mk_ (Y.keep (kp2 x5.box (by decide) _ _ _ _)) (by rw [ah,hz]) aT.out,(b5.setCell (by dsimp only;omega) _).setCell (by dsimp only;omega) _⟩
  have N:0<rest.length:=List.length_pos_iff.2 o;obtain ⟨L,i⟩:∃ L,rest.length=L:=⟨_,rfl⟩;obtain ⟨k,X⟩:∃ k,(L-1)%9=k:=⟨_,rfl⟩;have bb:k<9:=by rw [<- X];exact Nat.mod_lt _ (by omega)
  have b:=g.1.step (n:=k+1) N (by rw [i,X]);rw [i] at b N Z;have a6:=b.1;have z:(⟨rest.toArray⟩:ByteArray).size=L:=i;have e1:((L:Int)-1)%9=(k:Int):=by omega
  have e2:(⟨rest.toArray⟩:ByteArray).extract 0 (k+1)=⟨(rest.take (k+1)).toArray⟩:=by rw [oH];simp
  have e3:(⟨rest.toArray⟩:ByteArray).extract (k+1) L=⟨(rest.drop (k+1)).toArray⟩:=by rw [oH,List.take_of_length_le];rw [List.length_drop,i];exact Qr
  obtain ⟨x,T⟩:∃ x,ar (rest.take (k+1))=x:=⟨_,rfl⟩;have f:=re g.2.2.1 (k+1)
  have a8:x<1000000000:=by
   have j:=eH f;rw [T] at j;refine Nat.lt_of_lt_of_le j (Nat.le_trans (Nat.pow_le_pow_right (by omega) (show (rest.take (k+1)).length<=9 by rw [List.length_take];omega)) (by decide))
  have ab:=rf g.2.2.1 (k+1);have p:=Qh b;have F:=Qh T;have q:=Qh f;have ac:=Qh i;have H:(rest.drop (k+1)).length=L-(k+1):=by rw [List.length_drop,i]
  have s:=Qh H;have G:(rest.take (k+1)).length<=9:=by rw [List.length_take];omega
  have u:rest.take (k+1)≠[]:=fun e=>by have:=congrArg List.length e;rw [List.length_take,i] at this;simp at this;omega
  have E:=Qh (And.intro G u);have ad:=eH (show (pre++rest.take (k+1)).all aX=true by rw [List.all_append,g.2.1,f];rfl);clear X b T f i o H G u
  go_wp2_with (first
   | (go_at_call 155;(with_reducible refine (yH _ (rest.take (k+1)) x ?_ ?_ ?_ F.out).mono ?_);(exact E.out.1);(exact E.out.2);(exact q.out);rintro e M ⟨rfl,a⟩;have b5:Below wr.heap.size wr (M.alloc (.cells #[.int .u32 1000000000] 173)):=a.alloc a.size _;have y5:Blk (M.alloc (.cells #[.int .u32 1000000000] 173)) M.heap.size 173 #[.int .u32 1000000000]:=ak _ _ _ rfl)
   | (go_at_call 143;(with_reducible refine (uo _ A1 n1 c1 (ar pre) ?_ ?_ M.heap.size 1000000000 1000000000 ?_ ?_ ?_).mono ?_);(exact g.2.2.2.belw b5);omega;rfl;omega;(exact y5);rintro e O ⟨A6,n6,c6,rfl,h6,al⟩;have W:=b5.trans (al.mono b5.size);have a7:n6<=1000000000:=(by have j:=h6.2.1;rw [j];refine Nat.le_trans (ay (k:=n1+1) ?_) (by omega);have D:=(g.2.2.2).vlt Qr;rw [ah] at D;rw [Nat.pow_succ];exact Nat.mul_lt_mul'' D (by omega)))
   | (go_at_call 156;(with_reducible refine (yL _ O.heap.size (x:Int) x ?_ ?_ ?_).mono ?_);(first | rfl | omega);omega;(exact ak _ _ _ rfl);rintro e w7 ⟨A7,n7,c7,rfl,h7,J⟩;have b7:Below wr.heap.size wr w7:=(W.alloc W.size _).trans (J.mono (by have:=W.size;simp;omega));have an:Below O.heap.size O w7:=((ae O).alloc Qr _).trans (J.mono (by simp));have bd:n7<=1000000000:=(by have j:=h7.2.1;rw [j];exact Nat.le_trans (ay (k:=1) (by omega)) (by omega)))
   | (go_at_call 141;(with_reducible refine (yK _ A6 n6 c6 (ar pre*1000000000) ?_ ?_ A7 n7 c7 x ?_ ?_).mono ?_);(exact h6.belw an);omega;(exact h7);omega;rintro e w8 ⟨A8,n8,c8,rfl,D,U⟩;have b8:=b7.trans (U.mono b7.size)))
  have C:ar pre*1000000000+x=ar (pre++rest.take (k+1)):=by rw [p.out.2.2.2.2,F.out]
  go_roundw
  case rel =>
   refine ⟨pre++rest.take (k+1),rest.drop (k+1),A8,n8,c8,rfl,rfl,?_,by rw [s.out];omega,⟨p.out.2.2.2.1,by rw [List.all_append,g.2.1,q.out];rfl,ab,by rw [<- C];exact D⟩,P.trans (b8.mono P.size)⟩;rw [D.2.1,C];refine Nat.le_trans (ay (Nat.lt_of_lt_of_le ad (pC _))) ?_;have j:=congrArg List.length p.out.2.2.2.1.1;rw [List.length_append] at j;omega
  case measure =>
   show (rest.drop (k+1)).length<rest.length;rw [s.out,ac.out];omega
end Go.Proofs.YtndhgcfajlalhaaGreatDoor
namespace Bn
def bU (c:UInt8):Bool:=(decide (97<=c.toNat)&&decide (c.toNat<=122))||(decide (65<=c.toNat)&&decide (c.toNat<=90))
def aM (c:UInt8):Bool:=bU c||aX c||c==95
def cG (c:UInt8):Bool:=c==123||c==125||c==59||c==46
def dt (c:UInt8):Bool:=c==32||c==9||c==13
def be:List UInt8->Nat
  | []=>0
  | c::t=>if bU c then 1+(t.takeWhile aM).length else 0
def cC (r:List UInt8):Nat:=(r.takeWhile aX).length
def cD:List UInt8->Nat
  | 45::_=>1
  | _=>0
def dS:List UInt8->Nat
  | c::t=>if (c==46||c==47)&&decide (0<cC t) then 1+cC t else 0
  | []=>0
def bJ (r:List UInt8):Nat:=if cC (r.drop (cD r))=0 then 0 else cD r+cC (r.drop (cD r))+dS (r.drop (cD r+cC (r.drop (cD r))))
def jw:List UInt8->Bool
  | c::_=>bU c||c==95||c==46||c==47
  | []=>false
inductive up where
  | ok (kind n:Nat)
  | err (x:Nat)
def aU (r:List UInt8):up:=match r with
  | []=>.err 2
  | c::_=>if cG c then .ok 2 1 else if 0<be r then (if 24<be r then .err 5 else .ok 0 (be r))
    else if bJ r=0 then .err 2 else if 60<bJ r then .err 4 else if jw (r.drop (bJ r)) then .err 2 else .ok 1 (bJ r)
structure Tkn where
  kind:Nat
  text:List UInt8
  line:Nat
  col:Nat
deriving DecidableEq
inductive jV where
  | ok (l:List Tkn)
  | err (x:Nat)
def jV.push (t:Tkn):jV->jV
  | .ok l=>.ok (t::l)
  | .err x=>.err x
def eB (r:List UInt8):Nat:=(r.takeWhile (fun c=>c != 10)).length
def toks:Nat->List UInt8->Nat->Nat->jV
  | 0,_,_,_=>.ok []
  | _+1,[],_,_=>.ok []
  | f+1,c::t,line,col =>
    if c=10 then toks f t (line+1) 1
    else if dt c then toks f t line (col+1)
    else if c=37 then toks f ((c::t).drop (eB (c::t))) line (col+eB (c::t))
    else match aU (c::t) with
      | .err x=>.err x
      | .ok k n=>(toks f ((c::t).drop n) line (col+n)).push ⟨k,(c::t).take n,line,col⟩
theorem yM (p:UInt8->Bool) (l:List UInt8):(l.takeWhile p).length<=l.length:=(List.takeWhile_sublist p).length_le
theorem pF (r:List UInt8):cC r<=r.length:=yM _ _
theorem jW:∀ (r:List UInt8),be r<=r.length
 | []=>Qr
 | c::t=>by
  rw [be];have:=yM aM t;simp only [List.length_cons];split <;> omega
theorem yN:∀ (r:List UInt8),dS r<=r.length
 | []=>Qr
 | c::t=>by
  rw [dS];have:=pF t;simp only [List.length_cons];split <;> omega
theorem BA:∀ (r:List UInt8),cD r<=r.length
 | []=>Qr
 | c::t=>by unfold cD;split <;> simp
theorem pG (r:List UInt8):bJ r<=r.length:=by
 unfold bJ;split
 ·omega
 have a:=pF (r.drop (cD r));have b:=yN (r.drop (cD r+cC (r.drop (cD r))));have c:=BA r;rw [List.length_drop] at a b;omega
theorem pH (r:List UInt8):eB r<=r.length:=yM _ _
theorem jX {t:List UInt8}:0<eB (37::t):=by unfold eB;simp
theorem eI {r:List UInt8}{k n:Nat}(h:aU r=.ok k n):0<n/\n<=r.length:=by
 unfold aU at h;split at h
 ·cases h
 rename_i c t;split at h
 ·injection h with _ h;subst h;simp
 split at h
 ·split at h
  ·cases h
  injection h with _ h;subst h;exact ⟨by assumption,jW _⟩
 split at h
 ·cases h
 split at h
 ·cases h
 split at h
 ·cases h
 injection h with _ h;subst h;exact ⟨by omega,pG _⟩
theorem oJ:∀ (f g:Nat) (r:List UInt8) (line col:Nat),r.length<f->r.length<g->toks f r line col=toks g r line col:=by
 intro f
 induction f with
 | zero=>intro g r _ _ h;omega
 | succ f ih =>
  intro g r line col d j
  cases g with
  | zero=>omega
  | succ g =>
   cases r with
   | nil=>rfl
   | cons c t =>
    simp only [List.length_cons] at d j;unfold toks;split
    ·exact ih g t _ _ (by omega) (by omega)
    split
    ·exact ih g t _ _ (by omega) (by omega)
    split
    ·rename_i a
     subst a;have b:=jX (t:=t);have i:=pH (37::t);simp only [List.length_cons] at i;exact ih g _ _ _ (by rw [List.length_drop];simp only [List.length_cons];omega) (by rw [List.length_drop];simp only [List.length_cons];omega)
    split
    ·rfl
    rename_i k n h;have b:=eI h;simp only [List.length_cons] at b;rw [ih g _ _ _ (by rw [List.length_drop];simp only [List.length_cons];omega) (by rw [List.length_drop];simp only [List.length_cons];omega)]
def cS (s:List UInt8):jV:=toks (s.length+1) s 1 1
end Bn

/- Tokens of joined texts: plain. -/
namespace Bn
def BB (c:UInt8):Bool:=c==32||c==9||c==10||c==13||c==37
def ro (e:List UInt8):Prop:=e=[]\/∃ c t,e=c::t/\BB c=true
theorem gY {c:UInt8}(h:BB c=true):aM c=false/\aX c=false/\(c==46)=false/\(c==47)=false/\bU c=false/\(c==95)=false:=by
 unfold BB at h;simp only [Bool.or_eq_true,beq_iff_eq] at h;rcases h with (((h | h) | h) | h) | h <;> subst h <;> decide
theorem gZ {p:UInt8->Bool}:∀ (l:List UInt8),(l.takeWhile p).all p=true:=by
 intro l
 induction l with
 | nil=>rfl
 | cons x r ih =>
  rw [List.takeWhile_cons];split
  ·rename_i h;rw [List.all_cons,h,ih];rfl
  rfl
theorem kU {p:UInt8->Bool}:∀ {a:List UInt8}(e:List UInt8),a.all p=true->(∀ c t,e=c::t->p c=false)->(a++e).takeWhile p=a:=by
 intro a
 induction a with
 | nil =>
  intro e _ b
  cases e with
  | nil=>rfl
  | cons c t=>rw [List.nil_append,List.takeWhile_cons,b c t rfl];rfl
 | cons x r ih =>
  intro e h b;rw [List.all_cons,Bool.and_eq_true] at h;rw [List.cons_append,List.takeWhile_cons,h.1,if_pos rfl,ih e h.2 b]
theorem fP (p:UInt8->Bool) (l:List UInt8):∃ d,l=l.takeWhile p++d/\(∀ c t,d=c::t->p c=false):=by
 refine ⟨l.dropWhile p,(List.takeWhile_append_dropWhile).symm,fun c t h=>?_⟩
 induction l with
 | nil=>simp at h
 | cons x r ih =>
  rw [List.dropWhile_cons] at h;split at h
  ·exact ih h
  injection h with h1 _;subst h1;simp_all
theorem ro.np {e:List UInt8}(h:ro e) (c:UInt8) (t:List UInt8) (a:e=c::t):BB c=true:=by
 rcases h with h | ⟨d,f,h,b⟩
 ·rw [h] at a;cases a
 rw [h] at a;injection a with h1 _;rw [<- h1];exact b
theorem pI {l:List UInt8}(h:l.all aX=true):10 ∉ l:=fun a=>by
 rw [List.all_eq_true] at h;exact absurd (h 10 a) (by decide)
theorem vO (r:List UInt8):∃ M d,r=M++d/\dS r=M.length/\10 ∉ M/\∀ e,ro e->dS (M++e)=M.length/\(∀ c t,M++e=c::t->aX c=false):=by
 have i:∀ e,ro e->dS ([]++e)=0/\(∀ c t,([]:List UInt8)++e=c::t->aX c=false):=by
  intro e b;rw [List.nil_append];refine ⟨?_,fun c t h=>(gY (b.np c t h)).2.1⟩
  cases e with
  | nil=>rfl
  | cons c t =>
   have:=gY (b.np c t rfl);rw [dS,this.2.2.1,this.2.2.2.1];rfl
 cases r with
 | nil=>exact ⟨[],[],rfl,rfl,by simp,i⟩
 | cons c t =>
  by_cases h:((c==46||c==47)&&decide (0<cC t))=true
  ·obtain ⟨d,k,m⟩:=fP aX t
   have a:(c==46||c==47)=true:=by rw [Bool.and_eq_true] at h;exact h.1
   have j:0<cC t:=by rw [Bool.and_eq_true,decide_eq_true_eq] at h;exact h.2
   refine ⟨c::t.takeWhile aX,d,by rw [List.cons_append,<- k],?_,?_,?_⟩
   ·rw [dS,h,if_pos rfl,List.length_cons];unfold cC;omega
   ·intro f
    rcases List.mem_cons.1 f with e | e
    ·subst e;exact absurd a (by decide)
    exact pI (gZ t) e
   intro e b
   have l:cC (t.takeWhile aX++e)=(t.takeWhile aX).length:=by
    unfold cC;rw [kU e (gZ t) (fun c t h=>(gY (b.np c t h)).2.1)]
   refine ⟨?_,fun n o g=>?_⟩
   ·rw [List.cons_append,dS,l,a]
    have:0<(t.takeWhile aX).length:=j;rw [if_pos (by simp;exact this),List.length_cons];omega
   injection g with f _;subst f;rw [Bool.or_eq_true,beq_iff_eq,beq_iff_eq] at a;rcases a with e | e <;> subst e <;> decide
  have g:((c==46||c==47)&&decide (0<cC t))=false:=by simpa using h
  exact ⟨[],c::t,rfl,by rw [dS,g];rfl,by simp,i⟩
theorem te {c:UInt8}{t:List UInt8}(h:aX c=true):cD (c::t)=0:=by
 unfold cD;split
 ·rename_i a;injection a with a _;subst a;exact absurd h (by decide)
 rfl
theorem rq {r:List UInt8}(h:0<bJ r):∃ P d c t,r=P++d/\P.length=bJ r/\P=c::t/\(aX c=true\/c=45)/\10 ∉ P/\∀ e,ro e->bJ (P++e)=P.length:=by
 have v:0<cC (r.drop (cD r)):=by
  rcases Nat.eq_zero_or_pos (cC (r.drop (cD r))) with e | e
  ·unfold bJ at h;rw [if_pos e] at h;omega
  exact e
 obtain ⟨d0,b,E⟩:=fP aX (r.drop (cD r));obtain ⟨D,p⟩:∃ D,(r.drop (cD r)).takeWhile aX=D:=⟨_,rfl⟩;have a:D.all aX=true:=by rw [<- p];exact gZ _
 have l:cC (r.drop (cD r))=D.length:=by unfold cC;rw [p]
 rw [p] at b;rw [l] at v
 obtain ⟨x,m,s⟩:∃ x m,D=x::m:=by
  cases D with
  | nil=>simp at v
  | cons x m=>exact ⟨x,m,rfl⟩
 have g:aX x=true:=by rw [s,List.all_cons,Bool.and_eq_true] at a;exact a.1
 have o:(r.drop (cD r)).drop D.length=d0:=by rw [b];simp
 obtain ⟨M,d,y,z,k,C⟩:=vO d0
 have w:bJ r=cD r+D.length+M.length:=by
  unfold bJ;rw [l,if_neg (by omega),<- List.drop_drop,o,z]
 have j:(cD r=0/\r=D++d0)\/(cD r=1/\r=45::(D++d0)):=by
  cases r with
  | nil=>simp [cD] at b;left;exact ⟨rfl,by simpa using b⟩
  | cons c t =>
   by_cases hc:c=45
   ·subst hc;right;refine ⟨rfl,?_⟩
    have:cD (45::t)=1:=rfl;rw [this] at b;simp at b;rw [<- b]
   left
   have:cD (c::t)=0:=by
    unfold cD;split
    ·rename_i f;injection f with f _;exact absurd f hc
    rfl
   refine ⟨this,?_⟩;rw [this] at b;simpa using b
 have key:∀ e,ro e->cC (D++(M++e))=D.length/\dS (M++e)=M.length:=by
  intro e n;obtain ⟨f,i⟩:=C e n;refine ⟨?_,f⟩;unfold cC;rw [kU (M++e) a i]
 rcases j with ⟨A,q⟩ | ⟨B,q⟩
 ·refine ⟨D++M,d,x,m++M,by rw [q,y,List.append_assoc],by rw [w,A,List.length_append];omega,by rw [s];rfl,.inl g,fun h=>by rcases List.mem_append.1 h with h | h;exact pI a h;exact k h,fun e n=>?_⟩
  obtain ⟨f,i⟩:=key e n;have u:cD (D++M++e)=0:=by rw [s];exact te g
  unfold bJ;rw [u,List.drop_zero,List.append_assoc,f,if_neg (by omega),Nat.zero_add,List.drop_left,i,List.length_append]
 refine ⟨45::(D++M),d,45,D++M,by rw [q,y,List.cons_append,List.append_assoc],by rw [w,B,List.length_cons,List.length_append];omega,rfl,.inr rfl,fun h=>by rcases List.mem_cons.1 h with h | h;exact absurd h (by decide);rcases List.mem_append.1 h with h | h;exact pI a h;exact k h,fun e n=>?_⟩;obtain ⟨f,i⟩:=key e n;have u:cD (45::(D++M)++e)=1:=rfl;unfold bJ;rw [u];rw [show (45::(D++M)++e).drop 1=D++(M++e) by simp];rw [f,if_neg (by omega),<- List.drop_drop];rw [show (45::(D++M)++e).drop 1=D++(M++e) by simp];rw [List.drop_left,i,List.length_cons,List.length_append];omega
theorem rt {r:List UInt8}{k n:Nat}(h:aU r=.ok k n) {e:List UInt8}(w:ro e):aU (r.take n++e)=.ok k n:=by
 unfold aU at h;split at h
 ·cases h
 rename_i c t;split at h
 ·rename_i o
  injection h with h1 h2;subst h1;subst h2;show aU (c::e)=_;unfold aU;simp only [o,if_true]
 rename_i o;split at h
 ·rename_i hw
  split at h
  ·cases h
  rename_i l;injection h with h1 h2;subst h1
  have A:bU c=true:=by
   rw [be] at hw;split at hw
   ·assumption
   omega
  have j:be (c::t)=1+(t.takeWhile aM).length:=by rw [be,A,if_pos rfl]
  obtain ⟨d,m,_⟩:=fP aM t
  have C:(c::t).take n=c::t.takeWhile aM:=by
   rw [<- h2,j,Nat.add_comm,List.take_succ_cons];congr 1;exact (congrArg (List.take _) m).trans List.take_left
  have q:be (c::(t.takeWhile aM++e))=n:=by
   rw [be,A,if_pos rfl,kU e (gZ t) (fun c t h=>(gY (w.np c t h)).1),<- j,h2]
  rw [C,List.cons_append];unfold aU;simp only [o,q];rw [h2] at hw l;simp [hw,l]
 rename_i hw;split at h
 ·cases h
 rename_i g;split at h
 ·cases h
 rename_i i;split at h
 ·cases h
 injection h with h1 h2;subst h1;obtain ⟨P,d,x,I,m,z,s,H,_,B⟩:=rq (Nat.pos_of_ne_zero g);have G:(c::t).take n=P:=by rw [<- h2,<- z,m];exact List.take_left
 have y:x=c:=by rw [s,List.cons_append] at m;injection m with h _;exact h.symm
 subst y;have v:cG x=false:=by simpa using o
 have p:bU x=false:=by
  rcases H with h | h
  ·unfold aX at h;unfold bU;simp at h ⊢;omega
  subst h;decide
 rw [G];have D:=B e w;have E:be (P++e)=0:=by rw [s,List.cons_append,be,p];rfl
 have F:jw ((P++e).drop P.length)=false:=by
  rw [List.drop_left]
  cases e with
  | nil=>rfl
  | cons a b=>have:=gY (w.np a b rfl);simp [jw,this.2.2.1,this.2.2.2.1,this.2.2.2.2.1,this.2.2.2.2.2]
 have u:P.length=n:=by rw [z,h2]
 have f:aU (P++e)=(if cG x then .ok 2 1 else if 0<be (P++e) then (if 24<be (P++e) then .err 5 else .ok 0 (be (P++e))) else if bJ (P++e)=0 then .err 2 else if 60<bJ (P++e) then .err 4 else if jw ((P++e).drop (bJ (P++e))) then .err 2 else .ok 1 (bJ (P++e))):=by
  rw [s,List.cons_append];rfl
 rw [f,E,D,F,v,u];rw [h2] at g i;simp [g,i]
theorem tf {r:List UInt8}{k n:Nat}(h:aU r=.ok k n):10 ∉ r.take n:=by
 unfold aU at h;split at h
 ·cases h
 rename_i c t;split at h
 ·rename_i o
  injection h with h1 h2;subst h2;intro b;have s:(10:UInt8)=c:=by simpa using b
  subst s;exact absurd o (by decide)
 split at h
 ·rename_i hw
  split at h
  ·cases h
  injection h with h1 h2
  have j:bU c=true:=by
   rw [be] at hw;split at hw
   ·assumption
   omega
  have a:be (c::t)=1+(t.takeWhile aM).length:=by rw [be,j,if_pos rfl]
  obtain ⟨d,f,_⟩:=fP aM t
  have m:(c::t).take n=c::t.takeWhile aM:=by
   rw [<- h2,a,Nat.add_comm,List.take_succ_cons];congr 1;exact (congrArg (List.take _) f).trans List.take_left
  rw [m];intro b;rcases List.mem_cons.1 b with e | e
  ·subst e;exact absurd j (by decide)
  have:=gZ (p:=aM) t;rw [List.all_eq_true] at this;exact absurd (this 10 e) (by decide)
 split at h
 ·cases h
 rename_i g;split at h
 ·cases h
 split at h
 ·cases h
 injection h with h1 h2;obtain ⟨P,d,x,y,f,l,v,w,i,u⟩:=rq (Nat.pos_of_ne_zero g);have q:(c::t).take n=P:=by rw [<- h2,<- l,f];exact List.take_left
 rw [q];exact i
end Bn

/- Tokens of joined texts, blanks and comments between them: plain. -/
namespace Bn
def tk (r:List UInt8) (line col:Nat):jV:=toks (r.length+1) r line col
theorem yO (line col:Nat):tk [] line col=.ok []:=rfl
theorem lO (t:List UInt8) (line col:Nat):tk (10::t) line col=tk t (line+1) 1:=by
 unfold tk;rw [List.length_cons]
 conv=>lhs;unfold toks
 rw [if_pos rfl]
theorem vP {c:UInt8}(h:dt c=true):c≠10:=by
 rintro rfl;exact absurd h (by decide)
theorem hH {c:UInt8}(h:dt c=true) (t:List UInt8) (line col:Nat):tk (c::t) line col=tk t line (col+1):=by
 unfold tk;rw [List.length_cons]
 conv=>lhs;unfold toks
 rw [if_neg (vP h),if_pos h]
theorem yP (t:List UInt8) (line col:Nat):tk (37::t) line col=tk ((37::t).drop (eB (37::t))) line (col+eB (37::t)):=by
 have b:=jX (t:=t);have a:=pH (37::t);unfold tk
 conv=>lhs;rw [List.length_cons];unfold toks
 rw [if_neg (by decide),if_neg (by decide),if_pos rfl];simp only [List.length_cons] at a;refine oJ _ _ _ _ _ ?_ ?_ <;> rw [List.length_drop,List.length_cons] <;> omega
theorem ru {c:UInt8}{t:List UInt8}{k n:Nat}(h:aU (c::t)=.ok k n):c≠10/\dt c=false/\c≠37:=by
 have key:∀ c:UInt8,cG c=false->bU c=false->aX c=false->c≠45->∀ t k n,aU (c::t)≠.ok k n:=by
  intro c j b d i t k n h;have hw:be (c::t)=0:=by rw [be,b];rfl
  have g:cD (c::t)=0:=by
   unfold cD;split
   ·rename_i a;injection a with a _;exact absurd a i
   rfl
  have f:bJ (c::t)=0:=by
   unfold bJ;rw [g,List.drop_zero,if_pos (by unfold cC;rw [List.takeWhile_cons,d];rfl)]
  unfold aU at h;simp [j,hw,f] at h
 refine ⟨?_,?_,?_⟩
 ·rintro rfl;exact key 10 (by decide) (by decide) (by decide) (by decide) t k n h
 ·cases hb:dt c
  ·rfl
  exfalso;unfold dt at hb;simp only [Bool.or_eq_true,beq_iff_eq] at hb;rcases hb with (e | e) | e <;> subst e
  ·exact key 32 (by decide) (by decide) (by decide) (by decide) t k n h
  ·exact key 9 (by decide) (by decide) (by decide) (by decide) t k n h
  exact key 13 (by decide) (by decide) (by decide) (by decide) t k n h
 rintro rfl;exact key 37 (by decide) (by decide) (by decide) (by decide) t k n h
theorem pJ {c:UInt8}{t:List UInt8}{k n:Nat}(h:aU (c::t)=.ok k n) (line col:Nat) :
 tk (c::t) line col=(tk ((c::t).drop n) line (col+n)).push ⟨k,(c::t).take n,line,col⟩:=by
 obtain ⟨d,a,f⟩:=ru h;have b:=eI h;unfold tk
 conv=>lhs;rw [List.length_cons];unfold toks
 rw [if_neg d,if_neg (by rw [a];simp),if_neg f,h];simp only [List.length_cons] at b;dsimp only;rw [oJ (t.length+1) (((c::t).drop n).length+1) _ _ _ (by rw [List.length_drop,List.length_cons];omega) (by omega)]
theorem tg {c:UInt8}{t:List UInt8}{x:Nat}(h:aU (c::t)=.err x) (b:c≠10) (a:dt c=false) (d:c≠37) (line col:Nat):tk (c::t) line col=.err x:=by
 unfold tk;rw [List.length_cons];unfold toks;rw [if_neg b,if_neg (by rw [a];simp),if_neg d,h]
def ry (s:List UInt8):Prop:=∀ rest line col,∃ line' col',tk (s++rest) line col=tk rest line' col'
theorem ry.nil:ry []:=fun _ line col=>⟨line,col,rfl⟩
theorem ry.line {s:List UInt8}(h:ry s):ry (10::s):=fun rest line col=>by
 obtain ⟨a,b,e⟩:=h rest (line+1) 1;exact ⟨a,b,by rw [List.cons_append,lO,e]⟩
theorem ry.blank {c:UInt8}{s:List UInt8}(d:dt c=true) (h:ry s):ry (c::s):=fun rest line col=>by
 obtain ⟨a,b,e⟩:=h rest line (col+1);exact ⟨a,b,by rw [List.cons_append,hH d,e]⟩
def shape:jV->Option (List (Nat × List UInt8))
  | .ok l=>some (l.map fun t=>(t.kind,t.text))
  | .err _=>none
theorem th (t:Tkn) (x:jV):shape (x.push t)=(shape x).map ((t.kind,t.text) :: ·):=by
 cases x <;> rfl
def CC (k:Nat) (x:List UInt8):Prop:=∃ r n,aU r=.ok k n/\x=r.take n
theorem CC.again {k:Nat}{x e:List UInt8}(h:CC k x) (f:ro e):∃ c t,x++e=c::t/\aU (c::t)=.ok k x.length:=by
 obtain ⟨r,n,b,rfl⟩:=h;have g:=eI b;have d:=rt b f;have a:(r.take n).length=n:=by rw [List.length_take];omega
 cases hx:r.take n++e with
 | nil =>
  have:=congrArg List.length hx;rw [List.length_append,a] at this;simp at this;omega
 | cons c t=>exact ⟨c,t,rfl,by rw [<- hx,d,a]⟩
end Bn

/- Every token stands at its place: plain. -/
namespace Bn
def rz (line col:Nat) (t:Tkn):Prop:=line<t.line\/(line=t.line/\col<=t.col)
theorem rz.mono {line col a:Nat}{t:Tkn}(h:rz line a t) (c:col<=a):rz line col t:=by
 rcases h with h | ⟨h,b⟩
 ·exact .inl h
 exact .inr ⟨h,Nat.le_trans c b⟩
theorem jx:∀ (f:Nat) (r:List UInt8) (line col:Nat) (l:List Tkn),toks f r line col=.ok l->∀ t∈l,rz line col t:=by
 intro f
 induction f with
 | zero=>intro r line col l h t a;unfold toks at h;injection h with h;subst h;cases a
 | succ f ih =>
  intro r line col l h t a
  cases r with
  | nil=>unfold toks at h;injection h with h;subst h;cases a
  | cons c s =>
   unfold toks at h;split at h
   ·rcases ih _ _ _ _ h t a with e | ⟨e,_⟩
    ·exact .inl (by omega)
    exact .inl (by omega)
   split at h
   ·exact (ih _ _ _ _ h t a).mono (by omega)
   split at h
   ·exact (ih _ _ _ _ h t a).mono (by omega)
   split at h
   ·cases h
   rename_i k n b
   cases hx:toks f ((c::s).drop n) line (col+n) with
   | err x=>rw [hx] at h;cases h
   | ok l' =>
    rw [hx] at h;injection h with h;subst h;rcases List.mem_cons.1 a with e | e
    ·subst e;exact .inr ⟨rfl,Qr⟩
    exact (ih _ _ _ _ hx t e).mono (by omega)
def PlI (s:List UInt8) (l:List Tkn) (i line col k left:Nat):Prop:=k<=l.length/\∃ u rest,s.drop i=u++rest/\10 ∉ u/\tk rest line (col+u.length)=.ok (l.drop k)/\(left=u.length\/left=0)
theorem PlI.start {s:List UInt8}{l:List Tkn}(h:cS s=.ok l):PlI s l 0 1 1 0 0:=⟨Nat.zero_le _,[],s,rfl,by simp,h,.inr rfl⟩
theorem PlI.fin {s:List UInt8}{l:List Tkn}{line col k left:Nat}(h:PlI s l s.length line col k left):k=l.length:=by
 obtain ⟨d,u,rest,b,_,a,_⟩:=h;rw [List.drop_length] at b;have c:=List.append_eq_nil_iff.1 b.symm;rw [c.2,yO] at a;injection a with a;have:=congrArg List.length a;rw [List.length_drop] at this;simp at this;omega
def oL (l:List Tkn) (line col k left:Nat):Bool:=decide (left=0)&&(match l[k]? with | some t=>decide (t.line=line)&&decide (t.col=col) | none=>false)
def fQ (c:UInt8) (line:Nat):Nat:=if c=10 then line+1 else line
def iL (c:UInt8) (col:Nat):Nat:=if c=10 then 1 else col+1
theorem mF {l:List Tkn}{line col k left:Nat}{c d:Nat}(h:∀ t∈l.drop k,rz c d t) (j:line<c\/(line=c/\col<d)):oL l line col k left=false:=by
 unfold oL
 cases hk:l[k]? with
 | none=>simp
 | some t =>
  have n:t∈l.drop k:=by
   obtain ⟨i,f⟩:=List.getElem?_eq_some_iff.1 hk;rw [List.drop_eq_getElem_cons i,f];simp
  have:=h t n
  have m:¬ (t.line=line/\t.col=col):=by
   rintro ⟨a,b⟩;rcases this with e | ⟨e,p⟩ <;> rcases j with g | ⟨g,o⟩ <;> omega
  simp only [Bool.and_eq_false_iff,decide_eq_false_iff_not];right;by_cases ha:t.line=line
  ·right;exact fun hb=>m ⟨ha,hb⟩
  left;exact ha
theorem PlI.inner {s:List UInt8}{l:List Tkn}{i line col k left:Nat}{c:UInt8}{t u rest:List UInt8}(q:k<=l.length) (hd:s.drop i=c::t) (n:s.drop i=u++rest) (o:10 ∉ u) (j:tk rest line (col+u.length)=.ok (l.drop k)) (r:left=u.length\/left=0) (g:u≠[]) :
 oL l line col k left=false/\PlI s l (i+1) (fQ c line) (iL c col) k (left-1):=by
 obtain ⟨x,f,rfl⟩:=List.exists_cons_of_ne_nil g;have v:x=c/\t=f++rest:=by rw [hd] at n;injection n with a b;exact ⟨a.symm,b⟩
 obtain ⟨rfl,p⟩:=v;have d:x≠10:=fun e=>o (by rw [e];simp)
 rw [List.length_cons] at j r;have m:s.drop (i+1)=t:=by rw [<- List.drop_drop,hd];rfl
 refine ⟨mF (jx _ _ _ _ _ j) (.inr ⟨rfl,by omega⟩),q,f,rest,by rw [m,p],fun h=>o (by simp [h]),?_,by omega⟩;unfold fQ iL;rw [if_neg d,if_neg d,show col+1+f.length=col+(f.length+1) by omega];exact j
theorem PlI.step {s:List UInt8}{l:List Tkn}{i line col k left:Nat}(h:PlI s l i line col k left) {c:UInt8}{t:List UInt8}(hd:s.drop i=c::t) :
 (oL l line col k left=false/\PlI s l (i+1) (fQ c line) (iL c col) k (left-1)) \/
 (oL l line col k left=true/\∃ x,l[k]?=some x/\0<x.text.length/\i+x.text.length<=s.length/\(s.drop i).take x.text.length=x.text/\PlI s l (i+1) (fQ c line) (iL c col) (k+1) (x.text.length-1)):=by
 obtain ⟨q,u,rest,v,D,a,A⟩:=h;by_cases hne:u=[]
 ·subst hne
  rw [List.nil_append] at v;rw [List.length_nil,Nat.add_zero] at a;have y:left=0:=by rcases A with e | e <;> simpa using e
  subst y;have f:s.drop (i+1)=t:=by rw [<- List.drop_drop,hd];rfl
  have C:rest=c::t:=by rw [<- v,hd]
  subst C;by_cases h10:c=10
  ·subst h10
   rw [lO] at a;left;refine ⟨mF (jx _ _ _ _ _ a) (.inl (by omega)),q,[],t,by rw [f];rfl,by simp,?_,.inr rfl⟩;exact a
  by_cases hb:dt c=true
  ·rw [hH hb] at a
   left;refine ⟨mF (jx _ _ _ _ _ a) (.inr ⟨rfl,by omega⟩),q,[],t,by rw [f];rfl,by simp,?_,.inr rfl⟩;unfold fQ iL;rw [if_neg h10,if_neg h10];exact a
  by_cases h37:c=37
  ·subst h37
   rw [yP] at a;left;have G:=jX (t:=t);have E:=pH (37::t);have b:((37::t).take (eB (37::t))).length=eB (37::t):=by rw [List.length_take];omega
   refine PlI.inner q hd (v.trans (List.take_append_drop _ _).symm) ?_ (by rw [b];exact a) (.inr rfl) (fun e=>by rw [e] at b;simp at b;omega);intro w
   have:(37::t).take (eB (37::t))=(37::t).takeWhile (fun c=>c != 10):=by
    obtain ⟨d,e,_⟩:=fP (fun c=>c != 10) (37::t);exact (congrArg (List.take _) e).trans List.take_left
   rw [this] at w;have r:=gZ (p:=fun c=>c != 10) (37::t);rw [List.all_eq_true] at r;exact absurd (r 10 w) (by decide)
  cases hf:aU (c::t) with
  | err x=>rw [tg hf h10 (by simpa using hb) h37] at a;cases a
  | ok kk n =>
   rw [pJ hf] at a;have B:=eI hf
   cases hx:tk ((c::t).drop n) line (col+n) with
   | err x=>rw [hx] at a;cases a
   | ok l' =>
    rw [hx] at a;injection a with a
    have o:k<l.length:=by
     rcases Nat.lt_or_ge k l.length with e | e
     ·exact e
     rw [List.drop_eq_nil_of_le e] at a;cases a
    rw [List.drop_eq_getElem_cons o] at a;injection a with r h5;have j:((c::t).take n).length=n:=by rw [List.length_take];omega
    right;have z:l[k]?=some ⟨kk,(c::t).take n,line,col⟩:=by rw [List.getElem?_eq_getElem o,r]
    have b:i+n<=s.length:=by
     have:=congrArg List.length hd;rw [List.length_drop] at this;have F:(c::t).length<=s.length-i:=by omega
     have H:0<(c::t).length:=by simp
     omega
    refine ⟨?_,⟨kk,(c::t).take n,line,col⟩,z,by dsimp only;omega,by dsimp only;omega,by dsimp only;rw [j,hd],?_⟩
    ·unfold oL;rw [z];simp
    dsimp only;rw [j];obtain ⟨m,rfl⟩:∃ m,n=m+1:=⟨n-1,by omega⟩;have g:=tf hf;rw [List.take_succ_cons] at g;refine ⟨by omega,t.take m,t.drop m,by rw [f,List.take_append_drop],fun h=>g (by simp [h]),?_,.inl ?_⟩
    ·unfold fQ iL
     rw [if_neg h10,if_neg h10];have w:(t.take m).length=m:=by rw [List.length_take];simp at B;omega
     rw [w,<- h5];rw [List.drop_succ_cons] at hx;rw [show col+1+m=col+(m+1) by omega];exact hx
    rw [List.length_take];simp at B;omega
 exact .inl (PlI.inner q hd v D a A hne)
end Bn

/- Walks: tokens: what a byte is. -/
namespace Go.Proofs.YtndhgcfajlalhaaGreatDoor
open Go Go.RowKit Bn
attribute [local go_sem ↓] Go.wp_at_zero Go.wp_at_succ
theorem lP (c d:UInt8):(c==d)=decide (c.toNat=d.toNat):=by
 by_cases h:c=d
 ·subst h;simp
 rw [beq_eq_false_iff_ne.2 h,decide_eq_false (fun e=>h (UInt8.toNat.inj e))]
theorem kV (c:UInt8):bU c=((decide (97<=c.toNat)&&decide (c.toNat<=122))||(decide (65<=c.toNat)&&decide (c.toNat<=90))):=rfl
theorem mG (c:UInt8):aX c=(decide (48<=c.toNat)&&decide (c.toNat<=57)):=rfl
theorem oM (c:UInt8):cG c=(decide (c.toNat=123)||decide (c.toNat=125)||decide (c.toNat=59)||decide (c.toNat=46)):=by unfold cG;rw [lP,lP,lP,lP];rfl
theorem cH (w:World) (c:UInt8) (v:Bool) (i:bU c=v):Calls Tryz.prog 134 #[.int .u8 (c.toNat:Nat)] w (ax w (.bool v)):=by
 have j:c.toNat<256:=c.toNat_lt;obtain ⟨n,g⟩:∃ n,c.toNat=n:=⟨_,rfl⟩;rw [g] at j ⊢;have hd:v=((decide (97<=n)&&decide (n<=122))||(decide (65<=n)&&decide (n<=90))):=by rw [<- i,kV,g]
 clear i;rcases (show (0<=n/\n<=64)\/(65<=n/\n<=90)\/(91<=n/\n<=96)\/(97<=n/\n<=122)\/(123<=n/\n<=255) by omega) with ⟨h,hb⟩ | ⟨h,hb⟩ | ⟨h,hb⟩ | ⟨h,hb⟩ | ⟨h,hb⟩
 ·have b:((97:Int)<=(n:Int))=False:=by simp;omega
  have a:((n:Int)<=122)=True:=by simp;omega
  have d:((65:Int)<=(n:Int))=False:=by simp;omega
  have f:((n:Int)<=90)=True:=by simp;omega
  obtain rfl:v=false:=by rw [hd];simp;omega
  clear hd g;go_in;go_wp2;go_ret;exact bW rfl (ae w)
 ·have b:((97:Int)<=(n:Int))=False:=by simp;omega
  have a:((n:Int)<=122)=True:=by simp;omega
  have d:((65:Int)<=(n:Int))=True:=by simp;omega
  have f:((n:Int)<=90)=True:=by simp;omega
  obtain rfl:v=true:=by rw [hd];simp;omega
  clear hd g;go_in;go_wp2;go_ret;exact bW rfl (ae w)
 ·have b:((97:Int)<=(n:Int))=False:=by simp;omega
  have a:((n:Int)<=122)=True:=by simp;omega
  have d:((65:Int)<=(n:Int))=True:=by simp;omega
  have f:((n:Int)<=90)=False:=by simp;omega
  obtain rfl:v=false:=by rw [hd];simp;omega
  clear hd g;go_in;go_wp2;go_ret;exact bW rfl (ae w)
 ·have b:((97:Int)<=(n:Int))=True:=by simp;omega
  have a:((n:Int)<=122)=True:=by simp;omega
  have d:((65:Int)<=(n:Int))=True:=by simp;omega
  have f:((n:Int)<=90)=False:=by simp;omega
  obtain rfl:v=true:=by rw [hd];simp;omega
  clear hd g;go_in;go_wp2;go_ret;exact bW rfl (ae w)
 have b:((97:Int)<=(n:Int))=True:=by simp;omega
 have a:((n:Int)<=122)=False:=by simp;omega
 have d:((65:Int)<=(n:Int))=True:=by simp;omega
 have f:((n:Int)<=90)=False:=by simp;omega
 obtain rfl:v=false:=by rw [hd];simp;omega
 clear hd g;go_in;go_wp2;go_ret;exact bW rfl (ae w)
theorem fR (w:World) (c:UInt8) (v:Bool) (i:bU c=v):Calls Tryz.prog 89 #[.int .u8 (c.toNat:Nat)] w (ax w (.bool v)):=by
 have j:c.toNat<256:=c.toNat_lt;obtain ⟨n,g⟩:∃ n,c.toNat=n:=⟨_,rfl⟩;rw [g] at j ⊢;have hd:v=((decide (97<=n)&&decide (n<=122))||(decide (65<=n)&&decide (n<=90))):=by rw [<- i,kV,g]
 clear i;rcases (show (0<=n/\n<=64)\/(65<=n/\n<=90)\/(91<=n/\n<=96)\/(97<=n/\n<=122)\/(123<=n/\n<=255) by omega) with ⟨h,hb⟩ | ⟨h,hb⟩ | ⟨h,hb⟩ | ⟨h,hb⟩ | ⟨h,hb⟩
 ·have b:((97:Int)<=(n:Int))=False:=by simp;omega
  have a:((n:Int)<=122)=True:=by simp;omega
  have d:((65:Int)<=(n:Int))=False:=by simp;omega
  have f:((n:Int)<=90)=True:=by simp;omega
  obtain rfl:v=false:=by rw [hd];simp;omega
  clear hd g;go_in;go_wp2;go_ret;exact bW rfl (ae w)
 ·have b:((97:Int)<=(n:Int))=False:=by simp;omega
  have a:((n:Int)<=122)=True:=by simp;omega
  have d:((65:Int)<=(n:Int))=True:=by simp;omega
  have f:((n:Int)<=90)=True:=by simp;omega
  obtain rfl:v=true:=by rw [hd];simp;omega
  clear hd g;go_in;go_wp2;go_ret;exact bW rfl (ae w)
 ·have b:((97:Int)<=(n:Int))=False:=by simp;omega
  have a:((n:Int)<=122)=True:=by simp;omega
  have d:((65:Int)<=(n:Int))=True:=by simp;omega
  have f:((n:Int)<=90)=False:=by simp;omega
  obtain rfl:v=false:=by rw [hd];simp;omega
  clear hd g;go_in;go_wp2;go_ret;exact bW rfl (ae w)
 ·have b:((97:Int)<=(n:Int))=True:=by simp;omega
  have a:((n:Int)<=122)=True:=by simp;omega
  have d:((65:Int)<=(n:Int))=True:=by simp;omega
  have f:((n:Int)<=90)=False:=by simp;omega
  obtain rfl:v=true:=by rw [hd];simp;omega
  clear hd g;go_in;go_wp2;go_ret;exact bW rfl (ae w)
 have b:((97:Int)<=(n:Int))=True:=by simp;omega
 have a:((n:Int)<=122)=False:=by simp;omega
 have d:((65:Int)<=(n:Int))=True:=by simp;omega
 have f:((n:Int)<=90)=False:=by simp;omega
 obtain rfl:v=false:=by rw [hd];simp;omega
 clear hd g;go_in;go_wp2;go_ret;exact bW rfl (ae w)
theorem jY (w:World) (c:UInt8) (v:Bool) (f:aX c=v):Calls Tryz.prog 170 #[.int .u8 (c.toNat:Nat)] w (ax w (.bool v)):=by
 have h:c.toNat<256:=c.toNat_lt;obtain ⟨n,d⟩:∃ n,c.toNat=n:=⟨_,rfl⟩;rw [d] at h ⊢;have hd:v=(decide (48<=n)&&decide (n<=57)):=by rw [<- f,mG,d]
 clear f;rcases (show (0<=n/\n<=47)\/(48<=n/\n<=57)\/(58<=n/\n<=255) by omega) with ⟨g,hb⟩ | ⟨g,hb⟩ | ⟨g,hb⟩
 ·have b:((48:Int)<=(n:Int))=False:=by simp;omega
  have a:((n:Int)<=57)=True:=by simp;omega
  obtain rfl:v=false:=by rw [hd];simp;omega
  clear hd d;go_in;go_wp2;go_ret;exact bW rfl (ae w)
 ·have b:((48:Int)<=(n:Int))=True:=by simp;omega
  have a:((n:Int)<=57)=True:=by simp;omega
  obtain rfl:v=true:=by rw [hd];simp;omega
  clear hd d;go_in;go_wp2;go_ret;exact bW rfl (ae w)
 have b:((48:Int)<=(n:Int))=True:=by simp;omega
 have a:((n:Int)<=57)=False:=by simp;omega
 obtain rfl:v=false:=by rw [hd];simp;omega
 clear hd d;go_in;go_wp2;go_ret;exact bW rfl (ae w)
theorem pK (w:World) (c:UInt8) (v:Bool) (f:aX c=v):Calls Tryz.prog 91 #[.int .u8 (c.toNat:Nat)] w (ax w (.bool v)):=by
 have h:c.toNat<256:=c.toNat_lt;obtain ⟨n,d⟩:∃ n,c.toNat=n:=⟨_,rfl⟩;rw [d] at h ⊢;have hd:v=(decide (48<=n)&&decide (n<=57)):=by rw [<- f,mG,d]
 clear f;rcases (show (0<=n/\n<=47)\/(48<=n/\n<=57)\/(58<=n/\n<=255) by omega) with ⟨g,hb⟩ | ⟨g,hb⟩ | ⟨g,hb⟩
 ·have b:((48:Int)<=(n:Int))=False:=by simp;omega
  have a:((n:Int)<=57)=True:=by simp;omega
  obtain rfl:v=false:=by rw [hd];simp;omega
  clear hd d;go_in;go_wp2;go_ret;exact bW rfl (ae w)
 ·have b:((48:Int)<=(n:Int))=True:=by simp;omega
  have a:((n:Int)<=57)=True:=by simp;omega
  obtain rfl:v=true:=by rw [hd];simp;omega
  clear hd d;go_in;go_wp2;go_ret;exact bW rfl (ae w)
 have b:((48:Int)<=(n:Int))=True:=by simp;omega
 have a:((n:Int)<=57)=False:=by simp;omega
 obtain rfl:v=false:=by rw [hd];simp;omega
 clear hd d;go_in;go_wp2;go_ret;exact bW rfl (ae w)
def atB (s:List UInt8) (i:Nat):UInt8:=s.getD i 0
theorem dy {s:List UInt8}{i:Nat}(h:i<s.length):atB s i=s[i]:=by unfold atB;rw [List.getD_eq_getElem?_getD,List.getElem?_eq_getElem h];rfl
theorem fE {s:List UInt8}{i:Nat}(h:s.length<=i):atB s i=0:=by unfold atB;rw [List.getD_eq_getElem?_getD,List.getElem?_eq_none h];rfl
theorem bM {s:List UInt8}{i:Nat}(h:i<s.length):s.drop i=atB s i::s.drop (i+1):=by rw [dy h];exact List.drop_eq_getElem_cons h
theorem iM {p:UInt8->Bool}{s:List UInt8}{i:Nat}(b:p 0=false) (h:p (atB s i)=true):i<s.length/\((s.drop i).takeWhile p).length=1+((s.drop (i+1)).takeWhile p).length:=by
 have a:i<s.length:=by
  rcases Nat.lt_or_ge i s.length with x | x
  ·exact x
  rw [fE x,b] at h;cases h
 refine ⟨a,?_⟩;rw [bM a,List.takeWhile_cons,if_pos h,List.length_cons];omega
theorem jZ {p:UInt8->Bool}{s:List UInt8}{i:Nat}(h:p (atB s i)=false):((s.drop i).takeWhile p).length=0:=by
 rcases Nat.lt_or_ge i s.length with x | x
 ·rw [bM x,List.takeWhile_cons,if_neg (by rw [h];decide)];rfl
 rw [List.drop_eq_nil_of_le x];rfl
theorem rA {s:List UInt8}{i:Nat}(h:bU (atB s i)=true):i<s.length/\be (s.drop i)=1+((s.drop (i+1)).takeWhile aM).length:=by
 have a:i<s.length:=by
  rcases Nat.lt_or_ge i s.length with x | x
  ·exact x
  rw [fE x] at h;cases h
 refine ⟨a,?_⟩;rw [bM a,be,if_pos h]
theorem mH {s:List UInt8}{i:Nat}(h:bU (atB s i)=false):be (s.drop i)=0:=by
 rcases Nat.lt_or_ge i s.length with x | x
 ·rw [bM x,be,if_neg (by rw [h];decide)]
 rw [List.drop_eq_nil_of_le x];rfl
theorem mI {c:UInt8}(h:bU c=true):aM c=true:=by unfold aM;rw [h];rfl
theorem rB {c:UInt8}(h:aX c=true):aM c=true:=by unfold aM;rw [h,Bool.or_true];rfl
theorem rC {c:UInt8}(h:(c==95)=true):aM c=true:=by unfold aM;rw [h,Bool.or_true]
theorem rD {c:UInt8}(a:bU c=false) (b:aX c=false) (d:(c==95)=false):aM c=false:=by unfold aM;rw [a,b,d];rfl
theorem aI (c d:UInt8):(((c.toNat:Nat):Int)==((d.toNat:Nat):Int))=(c==d):=by
 by_cases h:c=d
 ·subst h;simp
 rw [beq_eq_false_iff_ne.2 h,beq_eq_false_iff_ne];intro e;exact h (UInt8.toNat.inj (by omega))
theorem yQ (w:World) (c:UInt8) (v:Bool) (d:aM c=v):Calls Tryz.prog 135 #[.int .u8 (c.toNat:Nat)] w (ax w (.bool v)):=by
 cases hl:bU c
 ·cases hd:aX c
  ·cases g:(c==95)
   ·obtain rfl:v=false:=by rw [<- d];exact rD hl hd g
    have j:(((c.toNat:Nat):Int)==95)=false:=(aI c 95).trans g;clear d g;go_in;go_wp2_with fail;refine (cH _ c false hl).mono ?_;rintro e i ⟨rfl,q1⟩;have a:=(ae w).trans (q1.mono (ae w).size);have f:=q1.size;clear q1;go_wp2_with fail;refine (jY _ c false hd).mono ?_;rintro e k ⟨rfl,q2⟩;have b:=a.trans (q2.mono a.size);have h:=q2.size;clear q2 a;go_wp2;go_ret;exact bW rfl b
   obtain rfl:v=true:=by rw [<- d];exact rC g
   have j:(((c.toNat:Nat):Int)==95)=true:=(aI c 95).trans g;clear d g;go_in;go_wp2_with fail;refine (cH _ c false hl).mono ?_;rintro e i ⟨rfl,q1⟩;have a:=(ae w).trans (q1.mono (ae w).size);have f:=q1.size;clear q1;go_wp2_with fail;refine (jY _ c false hd).mono ?_;rintro e k ⟨rfl,q2⟩;have b:=a.trans (q2.mono a.size);have h:=q2.size;clear q2 a;go_wp2;go_ret;exact bW rfl b
  obtain rfl:v=true:=by rw [<- d];exact rB hd
  clear d;go_in;go_wp2_with fail;refine (cH _ c false hl).mono ?_;rintro e i ⟨rfl,q1⟩;have a:=(ae w).trans (q1.mono (ae w).size);have f:=q1.size;clear q1;go_wp2_with fail;refine (jY _ c true hd).mono ?_;rintro e k ⟨rfl,q2⟩;have b:=a.trans (q2.mono a.size);have h:=q2.size;clear q2 a;go_wp2;go_ret;exact bW rfl b
 obtain rfl:v=true:=by rw [<- d];exact mI hl
 clear d;go_in;go_wp2_with fail;refine (cH _ c true hl).mono ?_;rintro e i ⟨rfl,q1⟩;have a:=(ae w).trans (q1.mono (ae w).size);have f:=q1.size;clear q1;go_wp2;go_ret;exact bW rfl a
theorem mJ (w:World) (s:List UInt8) (i:Nat) (d:UInt8) (hd:atB s i=d):Calls Tryz.prog 90 #[aa s,.int .i64 (i:Nat)] w (ax w (.int .u8 (d.toNat:Nat))):=by
 have b:=aJ s;rcases Nat.lt_or_ge i s.length with a | a
 ·have f:∀ h,(⟨s.toArray⟩:ByteArray)[i]' h=d:=fun h=>by rw [<- hd];exact (dy a).symm
  have c:i<s.length:=a;have j:(0:Int)<=((i:Nat):Int):=by omega
  have g:((i:Int)<(s.length:Int))=True:=by simp;omega
  clear hd;go_in;go_wp2;go_ret;exact ⟨rfl,(ae w)⟩
 obtain rfl:d=0:=by rw [<- hd];exact fE a
 have g:((i:Int)<(s.length:Int))=False:=by simp;omega
 clear hd;go_in;go_wp2;go_ret;exact ⟨rfl,(ae w)⟩
theorem vQ (w:World) (s:List UInt8) (i:Nat) (R:i<=s.length) (U:s.length<4611686018427387904) (v:Nat) (A:i+be (s.drop i)=v):Calls Tryz.prog 50 #[aa s,.int .i64 (i:Nat)] w (ax w (.int .i64 (v:Nat))):=by
 obtain ⟨d,hd⟩:∃ d,atB s i=d:=⟨_,rfl⟩;cases q:bU d
 ·obtain rfl:i=v:=by rw [<- A,mH (by rw [hd];exact q)];rfl
  clear A;go_in;go_wp2_with fail;refine (mJ _ (s) (i) d hd).mono ?_;rintro e P ⟨rfl,q1⟩;have m:=(ae w).trans (q1.mono (ae w).size);have G:=q1.size;clear q1;go_wp2_with fail;refine (fR _ d false q).mono ?_;rintro e M ⟨rfl,q2⟩;have x:=m.trans (q2.mono m.size);have L:=q2.size;clear q2 m;go_wp2;go_ret;exact ⟨rfl,x⟩
 have A:i+((s.drop i).takeWhile aM).length=v:=by rw [<- A,(rA (by rw [hd];exact q)).2,(iM (p:=aM) rfl (by rw [hd];exact mI q)).2]
 have S:=Qh A;clear A;go_in;go_wp2_with fail;refine (mJ _ (s) (i) d hd).mono ?_;rintro e P ⟨rfl,q1⟩;have m:=(ae w).trans (q1.mono (ae w).size);have G:=q1.size;clear q1;go_wp2_with fail;refine (fR _ d true q).mono ?_;rintro e M ⟨rfl,q2⟩;have x:=m.trans (q2.mono m.size);have L:=q2.size;clear q2 m;go_wp2_with fail;clear hd q;go_loopw [1] (fun K wr=>∃ (j:Nat),K=.int .i64 (j:Nat)/\j<=s.length/\Hid (j+((s.drop j).takeWhile aM).length=v)/\Kp M wr/\Below w.heap.size w wr/\M.heap.size<=wr.heap.size) (fun K _=>s.length-(intOf K).toNat)
 case atStart=>exact ⟨i,rfl,R,S,Kp.refl _,x,Qr⟩
 case round =>
  obtain ⟨j,rfl,V,hw,a,l,T⟩:=hrel;obtain ⟨d,hd⟩:∃ d,atB s j=d:=⟨_,rfl⟩;cases q:bU d
  ·cases hg:aX d
   ·cases hu:(d==95)
    ·have H:j=v:=by rw [<- hw.out,jZ (p:=aM) (by rw [hd];exact rD q hg hu)];rfl
     subst H;have I:(((d.toNat:Nat):Int)==95)=false:=(aI d 95).trans hu;go_wp2_with fail;refine (mJ _ (s) (j) d hd).mono ?_;rintro e F ⟨rfl,q3⟩;replace a:=a.below q3;have b:=l.trans (q3.mono l.size);have z:=q3.size;clear q3;go_wp2_with fail;refine (fR _ d false q).mono ?_;rintro e E ⟨rfl,h⟩;replace a:=a.below h;have c:=b.trans (h.mono b.size);have y:=h.size;clear h b;go_wp2_with fail;refine (mJ _ (s) (j) d hd).mono ?_;rintro e O ⟨rfl,o⟩;replace a:=a.below o;have f:=c.trans (o.mono c.size);have D:=o.size;clear o c;go_wp2_with fail;refine (pK _ d false hg).mono ?_;rintro e N ⟨rfl,n⟩;replace a:=a.below n;have g:=f.trans (n.mono f.size);have C:=n.size;clear n f;go_wp2_with fail;refine (mJ _ (s) (j) d hd).mono ?_;rintro e Q ⟨rfl,t⟩;replace a:=a.below t;have u:=g.trans (t.mono g.size);have J:=t.size;clear t g;go_wp2;go_ret;exact ⟨rfl,u⟩
    obtain ⟨B,k⟩:=iM (p:=aM) (s:=s) (i:=j) rfl (by rw [hd];exact rC hu);have r:Hid (j+1+((s.drop (j+1)).takeWhile aM).length=v):=Qh (by rw [<- hw.out,k];omega);clear k;have I:(((d.toNat:Nat):Int)==95)=true:=(aI d 95).trans hu;go_wp2_with fail;refine (mJ _ (s) (j) d hd).mono ?_;rintro e F ⟨rfl,q3⟩;replace a:=a.below q3;have b:=l.trans (q3.mono l.size);have z:=q3.size;clear q3;go_wp2_with fail;refine (fR _ d false q).mono ?_;rintro e E ⟨rfl,h⟩;replace a:=a.below h;have c:=b.trans (h.mono b.size);have y:=h.size;clear h b;go_wp2_with fail;refine (mJ _ (s) (j) d hd).mono ?_;rintro e O ⟨rfl,o⟩;replace a:=a.below o;have f:=c.trans (o.mono c.size);have D:=o.size;clear o c;go_wp2_with fail;refine (pK _ d false hg).mono ?_;rintro e N ⟨rfl,n⟩;replace a:=a.below n;have g:=f.trans (n.mono f.size);have C:=n.size;clear n f;go_wp2_with fail;refine (mJ _ (s) (j) d hd).mono ?_;rintro e Q ⟨rfl,t⟩;replace a:=a.below t;have u:=g.trans (t.mono g.size);have J:=t.size;clear t g;go_wp2_with fail;go_roundw
    case rel=>exact ⟨j+1,by go_num,by omega,r,a,u,by omega⟩
    case measure=>simp [intOf];omega
   obtain ⟨B,k⟩:=iM (p:=aM) (s:=s) (i:=j) rfl (by rw [hd];exact rB hg);have r:Hid (j+1+((s.drop (j+1)).takeWhile aM).length=v):=Qh (by rw [<- hw.out,k];omega);clear k;go_wp2_with fail;refine (mJ _ (s) (j) d hd).mono ?_;rintro e F ⟨rfl,q3⟩;replace a:=a.below q3;have b:=l.trans (q3.mono l.size);have z:=q3.size;clear q3;go_wp2_with fail;refine (fR _ d false q).mono ?_;rintro e E ⟨rfl,h⟩;replace a:=a.below h;have c:=b.trans (h.mono b.size);have y:=h.size;clear h b;go_wp2_with fail;refine (mJ _ (s) (j) d hd).mono ?_;rintro e O ⟨rfl,o⟩;replace a:=a.below o;have f:=c.trans (o.mono c.size);have D:=o.size;clear o c;go_wp2_with fail;refine (pK _ d true hg).mono ?_;rintro e N ⟨rfl,n⟩;replace a:=a.below n;have g:=f.trans (n.mono f.size);have C:=n.size;clear n f;go_wp2_with fail;go_roundw
   case rel=>exact ⟨j+1,by go_num,by omega,r,a,g,by omega⟩
   case measure=>simp [intOf];omega
  obtain ⟨B,k⟩:=iM (p:=aM) (s:=s) (i:=j) rfl (by rw [hd];exact mI q);have r:Hid (j+1+((s.drop (j+1)).takeWhile aM).length=v):=Qh (by rw [<- hw.out,k];omega);clear k;go_wp2_with fail;refine (mJ _ (s) (j) d hd).mono ?_;rintro e F ⟨rfl,q3⟩;replace a:=a.below q3;have b:=l.trans (q3.mono l.size);have z:=q3.size;clear q3;go_wp2_with fail;refine (fR _ d true q).mono ?_;rintro e E ⟨rfl,h⟩;replace a:=a.below h;have c:=b.trans (h.mono b.size);have y:=h.size;clear h b;go_wp2_with fail;go_roundw
  case rel=>exact ⟨j+1,by go_num,by omega,r,a,c,by omega⟩
  case measure=>simp [intOf];omega
theorem yR (w:World) (s:List UInt8) (i:Nat) (y:i<=s.length) (D:s.length<4611686018427387904) (v:Nat) (r:cC (s.drop i)=v):Calls Tryz.prog 149 #[aa s,.int .i64 (i:Nat)] w (ax w (.int .i64 (v:Nat))):=by
 have z:Hid (0+((s.drop (i+0)).takeWhile aX).length=v):=Qh (by rw [<- r,Nat.zero_add];rfl);have q:=aJ s;clear r;go_in;go_wp2_with fail;go_loopw [5] (fun o wr=>∃ (j:Nat),o=.int .i64 (j:Nat)/\i+j<=s.length/\Hid (j+((s.drop (i+j)).takeWhile aX).length=v)/\Kp w wr/\Below w.heap.size w wr/\w.heap.size<=wr.heap.size) (fun o _=>s.length-(intOf o).toNat)
 case atStart=>exact ⟨0,rfl,y,z,Kp.refl _,(ae w),Qr⟩
 case round =>
  obtain ⟨j,rfl,E,hw,b,a,A⟩:=hrel;have x:IntKind.i64.wrap ((i:Int)+(j:Int))=(i:Int)+(j:Int):=IntWalk.i64_in _ ⟨by omega,by omega⟩;rcases Nat.lt_or_ge (i+j) s.length with n | n
  ·obtain ⟨d,hd⟩:∃ d,atB s (i+j)=d:=⟨_,rfl⟩
   have B:(0:Int)<=(i:Int)+(j:Int):=by omega
   have k:(i:Int)+(j:Int)<(s.length:Int):=by omega
   have C:((i:Int)+(j:Int)).toNat=i+j:=by omega
   have t:∀ h,(⟨s.toArray⟩:ByteArray)[i+j]' h=d:=fun h=>by rw [<- hd];exact (dy n).symm
   cases hg:aX d
   ·have f:j=v:=by rw [<- hw.out,jZ (p:=aX) (by rw [hd];exact hg)];rfl
    subst f;clear hd;go_wp2_with fail;refine (jY _ d false hg).mono ?_;rintro e u ⟨rfl,q1⟩;replace b:=b.below q1;have c:=a.trans (q1.mono a.size);have m:=q1.size;clear q1;go_wp2;go_ret;exact ⟨rfl,c⟩
   obtain ⟨_,g⟩:=iM (p:=aX) (s:=s) (i:=i+j) rfl (by rw [hd];exact hg);have l:Hid (j+1+((s.drop (i+(j+1))).takeWhile aX).length=v):=Qh (by rw [<- hw.out,g,Nat.add_assoc i j 1];omega);clear g hd;go_wp2_with fail;refine (jY _ d true hg).mono ?_;rintro e u ⟨rfl,q1⟩;replace b:=b.below q1;have c:=a.trans (q1.mono a.size);have m:=q1.size;clear q1;go_wp2_with fail;go_roundw
   case rel=>exact ⟨j+1,by go_num,by omega,l,b,c,by omega⟩
   case measure=>simp [intOf];omega
  have f:j=v:=by rw [<- hw.out,jZ (p:=aX) (by rw [fE n];rfl)];rfl
  subst f;have k:((i:Int)+(j:Int)<(s.length:Int))=False:=by simp;omega
  go_wp2;go_ret;exact ⟨rfl,a⟩
theorem dh (w:World) (s:List UInt8) (H:s.length<4611686018427387904) (v:Nat) (r:be s=v):Calls Tryz.prog 94 #[aa s] w (ax w (.int .i64 (v:Nat))):=by
 have E:=aJ s;rcases Nat.eq_zero_or_pos s.length with o | o
 ·obtain rfl:s=[]:=List.eq_nil_of_length_eq_zero o
  obtain rfl:0=v:=r;clear H;go_in;go_wp2;go_ret;exact ⟨rfl,(ae w)⟩
 obtain ⟨y,F,f⟩:∃ y F,s=y::F:=List.exists_cons_of_length_pos o;have B:((⟨s.toArray⟩:ByteArray)==⟨#[]⟩)=false:=by rw [f];rfl
 have u:(s==[])=false:=by rw [f];rfl
 have A:(s=[])=False:=by rw [f];simp
 clear f;obtain ⟨d,hd⟩:∃ d,atB s 0=d:=⟨_,rfl⟩;have g:∀ h,(⟨s.toArray⟩:ByteArray)[0]' h=d:=fun h=>by rw [<- hd];exact (dy o).symm
 have n:(0:Int)<(s.length:Int):=by omega
 cases c:bU d
 ·obtain rfl:0=v:=by rw [<- r];exact (mH (s:=s) (i:=0) (by rw [hd];exact c)).symm
  clear hd r;go_in;go_wp2_with fail;refine (cH _ d false c).mono ?_;rintro e t ⟨rfl,q1⟩;have k:=(ae w).trans (q1.mono (ae w).size);have z:=q1.size;clear q1;go_wp2;go_ret;exact ⟨rfl,k⟩
 have I:Hid (1+((s.drop 1).takeWhile aM).length=v):=Qh (by rw [<- r];exact ((rA (s:=s) (i:=0) (by rw [hd];exact c)).2).symm);clear r hd;go_in;go_wp2_with fail;refine (cH _ d true c).mono ?_;rintro e t ⟨rfl,q1⟩;have k:=(ae w).trans (q1.mono (ae w).size);have z:=q1.size;clear q1;go_wp2_with fail;clear g c n B u A;go_loopw [3] (fun C wr=>∃ (j:Nat),C=.int .i64 (j:Nat)/\j<=s.length/\Hid (j+((s.drop j).takeWhile aM).length=v)/\Kp t wr/\Below w.heap.size w wr/\t.heap.size<=wr.heap.size) (fun C _=>s.length-(intOf C).toNat)
 case atStart=>exact ⟨1,rfl,o,I,Kp.refl _,k,Qr⟩
 case round =>
  obtain ⟨j,rfl,L,hw,b,a,K⟩:=hrel;rcases Nat.lt_or_ge j s.length with c | c
  ·obtain ⟨d,hd⟩:∃ d,atB s j=d:=⟨_,rfl⟩
   have g:∀ h,(⟨s.toArray⟩:ByteArray)[j]' h=d:=fun h=>by rw [<- hd];exact (dy c).symm
   have G:j<s.length:=c;cases hg:aM d
   ·have m:j=v:=by rw [<- hw.out,jZ (p:=aM) (by rw [hd];exact hg)];rfl
    subst m;clear hd;go_wp2_with fail;refine (yQ _ d false hg).mono ?_;rintro e J ⟨rfl,q2⟩;replace b:=b.below q2;have l:=a.trans (q2.mono a.size);have D:=q2.size;clear q2;go_wp2;go_ret;exact ⟨rfl,l⟩
   obtain ⟨_,q⟩:=iM (p:=aM) (s:=s) (i:=j) rfl (by rw [hd];exact hg);have x:Hid (j+1+((s.drop (j+1)).takeWhile aM).length=v):=Qh (by rw [<- hw.out,q];omega);clear q hd;go_wp2_with fail;refine (yQ _ d true hg).mono ?_;rintro e J ⟨rfl,q2⟩;replace b:=b.below q2;have l:=a.trans (q2.mono a.size);have D:=q2.size;clear q2;go_wp2_with fail;go_roundw
   case rel=>exact ⟨j+1,by go_num,by omega,x,b,l,by omega⟩
   case measure=>simp [intOf];omega
  have m:j=v:=by rw [<- hw.out,jZ (p:=aM) (by rw [fE c];rfl)];rfl
  subst m;have n:((j:Int)<(s.length:Int))=False:=by simp;omega
  go_wp2;go_ret;exact ⟨rfl,a⟩
theorem lz (w:World) (s:List UInt8) (x:Int) (i:Nat) (d:x=((i:Nat):Int)) (b:i<=s.length) (c:s.length<4611686018427387904) (y:Int) (a:((i+be (s.drop i):Nat):Int)=y):Calls Tryz.prog 50 #[aa s,.int .i64 x] w (ax w (.int .i64 y)):=by
 subst d a;exact vQ w s i b c _ rfl
theorem aN (w:World) (s:List UInt8) (x:Int) (i:Nat) (d:x=((i:Nat):Int)) (b:i<=s.length) (c:s.length<4611686018427387904) (y:Int) (a:((cC (s.drop i):Nat):Int)=y):Calls Tryz.prog 149 #[aa s,.int .i64 x] w (ax w (.int .i64 y)):=by
 subst d a;exact yR w s i b c _ rfl

theorem val_rep (m:Nat):val (List.replicate m 0)=0:=by
 induction m with
 | zero=>rfl
 | succ m ih=>rw [List.replicate_succ,val,ih]
theorem uq (m:Nat):Wds (List.replicate m 0):=by intro x a;rw [List.eq_of_mem_replicate a];omega
theorem rE (l:List Nat):(cellsOf l).toList=words l:=by simp [cellsOf,words]
theorem OwS.made (w:World) {B:Nat}(L:List Nat) (n:Nat) (hB:B<=w.heap.size) (c:n<=4398046511104) (b:L.length=n) (a:Wds L):OwS (w.alloc (.cells (cellsOf L) 173)) B w.heap.size n n L:=by
 refine ⟨?_,a⟩;rw [<- rE];exact World.ownsRow_lit w (cellsOf L) n hB (by unfold maxLen;omega) (by simp [cellsOf,b])
theorem OwS.far {w:World}{B g n cap:Nat}{l:List Nat}(h:OwS w B g n cap l) {p:Addr}(d:g≠p.block) (u:Value):OwS (w.setCell p u) B g n cap l:=by
 refine ⟨⟨h.1.1,?_⟩,h.2⟩;rcases h.1.2 with ⟨e,_⟩ | ⟨f,b,cur,e,hB,a,r⟩
 ·cases e
 have c:=e;injection e with e1 _ e2;injection e1 with e1;injection e1 with e1;subst e1;exact .inr ⟨g,b,cur,c,hB,(Below.heap_setCell w p u g d).trans a,r⟩
theorem BC {u p s:Nat}(c:u+p<4294967296) (b:u ||| p=u+p) (a:2^s=p):bits .or .u32 (u:Int) ((2:Int)^s%4294967296)=((u+p:Nat):Int):=by
 have e:(2:Int)^s%4294967296=(p:Int):=by
  have h:(2:Int)^s=((2^s:Nat):Int):=by simp
  rw [h,a];omega
 rw [e,<- b];exact u32_or_nat u p (by omega) (by omega)
theorem FL {q m:Nat}:(2*q+1)*2^m=q*2^(m+1)+2^m:=by rw [Nat.pow_succ];grind
theorem EP {q m:Nat}:(2*q)*2^m=q*2^(m+1):=by rw [Nat.pow_succ];grind
def FM (a b:Nat) (Lq Lr:List Nat) (k:Nat):Prop:=val Lq=a/2^k/b*2^k/\val Lr=a/2^k%b
theorem ti (w:World) (A n c l) (wa:Wd w A n c l) (hn:n<=1000000000000) (A' n' c' l') (wb:Wd w A' n' c' l') (bz:n'<=1000000000000) (h0:val l'≠0) :
 Calls Tryz.prog 162 #[.slice A n c,.slice A' n' c'] w (sV w (val l) (val l')):=by
 have HL:=Qh wa.2.1;have a2:=Qh wb.2.1;obtain ⟨va,al⟩:∃ v,val l=v:=⟨_,rfl⟩;obtain ⟨X,C⟩:∃ v,val l'=v:=⟨_,rfl⟩;have HA:=Qh al;have HB:=Qh C;rw [C] at h0;have H0:=Qh (Nat.pos_of_ne_zero h0);rw [al,C]
 obtain ⟨gb,ob,rfl,b1,_⟩:=wb.at2 (by
  rcases Nat.eq_zero_or_pos n' with e | e
  ·exfalso
   have h9:=a2.out;rw [e] at h9;rw [List.eq_nil_of_length_eq_zero h9.symm] at C;exact h0 C.symm
  exact e)
 clear h0 al C;go_in
 go_wp2_with (first
  | (at_make;refine aR _ rfl _ _ rfl _ _ _ _ n rfl rfl (by omega) (by omega) (by omega) ?_)
  | (at_make;refine aR _ rfl _ _ rfl _ _ _ _ (n'+1) rfl rfl (by omega) (by omega) (by omega) ?_))
 refine (yE _ A n c l ?_ (by omega)).mono ?_;(exact wa.keep (((Kp.refl w).alloc _).alloc _));rintro e w1 ⟨N,rfl,ao,bv,rfl⟩;rw [HA.out] at ao;go_wp2_with fail
 have a7:OwS ((w.alloc (.cells (cellsOf (List.replicate n 0)) 173)).alloc (.cells (cellsOf (List.replicate (n'+1) 0)) 173)) w.heap.size w.heap.size n n (List.replicate n 0) :=
  (OwS.made w (List.replicate n 0) n Qr (by omega) (by simp) (uq n)).belw ((ae _).alloc Qr _)
 have aC:OwS ((w.alloc (.cells (cellsOf (List.replicate n 0)) 173)).alloc (.cells (cellsOf (List.replicate (n'+1) 0)) 173)) w.heap.size (w.heap.size+1) (n'+1) (n'+1) (List.replicate (n'+1) 0):=by
  have h:=OwS.made (w.alloc (.cells (cellsOf (List.replicate n 0)) 173)) (B:=w.heap.size) (List.replicate (n'+1) 0) (n'+1) (by simp) (by omega) (by simp) (uq _);simpa using h
 have HO:=Qh (And.intro a7 aC);clear a7 aC;go_loopw [8] (fun iv wr=>∃ (k:Nat) (z:Int) (U S:List Nat),k<=N/\iv=.int .i64 z/\z+1=(k:Int)/\FM va X U S k/\OwS wr w.heap.size w.heap.size n n U/\OwS wr w.heap.size (w.heap.size+1) (n'+1) (n'+1) S/\Below w.heap.size w wr) (fun iv _=>(intOf iv+1).toNat)
 case atStart =>
  refine ⟨N,(N:Int)-1,_,_,Qr,by go_num,by omega,⟨?_,?_⟩,HO.out.1,HO.out.2,((ae w).alloc Qr _).alloc (by simp) _⟩
  ·rw [val_rep,Nat.div_eq_of_lt ao];simp
  rw [val_rep,Nat.div_eq_of_lt ao];simp
 case round =>
  obtain ⟨k,z,U,S,hk,rfl,hz,hI,hq,hr,G⟩:=hrel;have HK:=Qh ((Kp.refl w).below G);have HI:=Qh hI;have HQ:=Qh hq;have HR:=Qh hr;have Y:=Qh G;clear hI hq hr G HO;by_cases a0:k=0
  ·subst a0
   have ez:z=-1:=by omega
   subst ez;go_wp2_with fail;refine (eP _ (some ⟨w.heap.size,0,none⟩) n n U ?_ (by omega)).mono ?_;(exact HQ.out.toWd);rintro e w1 ⟨A1,n1,c1,rfl,h1,D⟩;have i:=Qh (HR.out.belw D);have f:=Qh (Y.out.trans (D.mono Y.out.size));clear D;go_wp2_with fail;refine (eP _ (some ⟨w.heap.size+1,0,none⟩) (n'+1) (n'+1) S ?_ (by omega)).mono ?_;(exact i.out.toWd);rintro e w2 ⟨A2,n2,c2,rfl,h2,Z⟩;have R:=h1.keep ((Kp.refl w1).below Z);have j:=f.out.trans (Z.mono f.out.size);rw [HI.out.1] at R;rw [HI.out.2] at h2;simp only [Nat.pow_zero,Nat.div_one,Nat.mul_one] at R h2;have HF:=Qh (And.intro R (And.intro h2 j));clear h1 R h2 j Z;go_wp2;refine bodyPost_ret (v:=.tuple #[.slice A1 n1 c1,.slice A2 n2 c2]) (by simp [results,Tryz.results162,go_sem]) rfl ?_;exact ⟨A1,n1,c1,A2,n2,c2,rfl,HF.out.1,HF.out.2.1,HF.out.2.2⟩
  obtain ⟨m,rfl⟩:∃ m,k=m+1:=⟨k-1,by omega⟩;have ez:z=(m:Int):=by omega
  subst ez;have F:m/32<n:=by omega
  obtain ⟨ga,oa,rfl,bw,aS⟩:=(wa.keep HK.out).at2 (by omega);have bb:=aS (m/32) F;obtain ⟨x,hx⟩:∃ x,wd l (m/32)=x:=⟨_,rfl⟩;have bs:x<4294967296:=by rw [<- hx];exact wa.lt _
  rw [hx] at bb;have HX:=Qh hx;obtain ⟨br,a1⟩:∃ d,bits .and .u32 ((x:Int)/2^(m%32)) 1=d:=⟨_,rfl⟩;obtain ⟨b,hb⟩:∃ b,va/2^m%2=b:=⟨_,rfl⟩
  have aT:br=(b:Int):=by
   rw [<- a1,<- hb,<- HA.out,<- Dg wa.1 m,hx];have e:(x:Int)/2^(m%32)=((x/2^(m%32):Nat):Int):=by simp
   rw [e,py _ (Nat.lt_of_le_of_lt (Nat.div_le_self _ _) bs)]
  have bn:=Qh hb;have D:b<=1:=by omega
  clear aS hx hz a0 hb;go_wp2_with fail
  try rw [aT]
  clear a1 aT;go_loopw [9,36] (fun cv kv w2=>∃ (k T:Nat) (J:List Nat),k<=n'+1/\kv=.int .i64 (k:Nat)/\cv=.int .u32 (T:Nat)/\T<=1/\nS S J b k T/\OwS w2 w.heap.size w.heap.size n n U/\OwS w2 w.heap.size (w.heap.size+1) (n'+1) (n'+1) J/\Below w.heap.size w w2) (fun _ kv _=>n'+1-(intOf kv).toNat)
  case atStart=>exact ⟨0,b,S,Nat.zero_le _,rfl,rfl,D,nS.start _ _,HQ.out,HR.out,Y.out⟩
  case round =>
   obtain ⟨k,T,J,bx,rfl,rfl,a8,a5,a4,t,H⟩:=hrel;have ab:=Qh a5;have I:=Qh a4;have i:=Qh t;have f:=Qh H;clear a5 a4 t H;by_cases hkk:k<n'+1
   ·obtain ⟨y,hy⟩:∃ y,wd S k=y:=⟨_,rfl⟩
    have V:y<4294967296:=by rw [<- hy];exact bN HR.out.2 _
    have bg:=i.out.cell k hkk;rw [ab.out.1 k Qr,hy] at bg;have bY:=i.out.frozen k;have HY:=Qh hy;obtain ⟨s,hs⟩:∃ s,bits .or .u32 ((y:Int)*2%4294967296) (T:Int)=s:=⟨_,rfl⟩
    have he:s=((y*2%4294967296+T:Nat):Int):=by
     rw [<- hs,<- (rj a8 V).1];exact u32_or_nat (y*2%4294967296) T (Nat.mod_lt _ (by decide)) (by omega)
    have HE:=Qh he;have HS:=Qh (rj a8 V).2;clear hy he;go_wp2;go_region;clear hs;go_wp2;go_roundw
    case rel =>
     have bk:=ab.out.step HY.out V (by rw [<- i.out.len];exact hkk);refine ⟨k+1,y/2147483648,J.set k (y*2%4294967296+T),by omega,by go_num,by go_num,HS.out.2,bk,?_,?_,?_⟩
     ·exact OwS.far (w:=wr) I.out (p:=⟨w.heap.size+1,k,none⟩) (by simp) _
     ·exact OwS.set (w:=wr) i.out k HS.out.1 HE.out
     exact (Below.setCell f.out (p:=⟨w.heap.size+1,k,none⟩) (by simp) _).drew
    case measure=>simp [intOf];omega
   have a9:k=n'+1:=by omega
   subst a9
   have P:val J=2*val S+b:=by
    have h3:=i.out.len;have h4:=HR.out.len;refine nS.fin ab.out (by omega) (by omega) ?_;refine yC (v:=X) ?_ ?_ D
    ·rw [HI.out.2];exact Nat.mod_lt _ H0.out
    rw [<- HB.out,a2.out];exact cF wb.1
   rw [HI.out.2,<- bn.out] at P;obtain ⟨r2,t⟩:∃ r,val J=r:=⟨_,rfl⟩;rw [t] at P;have HV:=Qh P;have o:=Qh t;clear P t;by_cases hge:X<=r2
   ·have ac:0<=bH r2 X:=by unfold bH;(repeat' split) <;> omega
    obtain ⟨cv,q⟩:∃ cv,bH r2 X=cv:=⟨_,rfl⟩;rw [q] at ac;have HC:=Qh q;clear q;go_wp2_with fail;refine (dQ _ (some ⟨w.heap.size+1,0,none⟩) (n'+1) (n'+1) J ?_ ?_ (some ⟨gb,ob,none⟩) n' c' l' ?_ ?_).mono ?_;(exact i.out.toWd);(omega);(exact wb.keep ((Kp.refl w).below f.out));(omega);rintro e w1 ⟨rfl,g⟩;rw [o.out,HB.out,HC.out];have O:=Qh (I.out.belw g);have Q:=Qh (i.out.belw g);have j:=Qh (f.out.trans (g.mono f.out.size));clear g I i f;go_wp2_with fail;refine (gU _ w.heap.size (w.heap.size+1) (n'+1) (n'+1) J ?_ ?_ (some ⟨gb,ob,none⟩) n' c' l' ?_ ?_ ?_ ?_).mono ?_
    ·exact Q.out
    ·omega
    ·exact wb.keep ((Kp.refl w).below j.out)
    ·intro ad e;injection e with e;subst e;show gb≠_;omega
    ·omega
    ·rw [o.out,HB.out];exact hge
    rintro e w2 ⟨L3,rfl,a3,an,W⟩;rw [o.out,HB.out] at an;have K:=W.own O.out (by omega);have a6:=Qh (j.out.trans (W.1.mono (by omega)));have bf:=Qh a3;have bd:=Qh an;obtain ⟨u,hu⟩:∃ u,wd U (m/32)=u:=⟨_,rfl⟩;have bl:=K.cell (m/32) F;have b0:=K.frozen (m/32);rw [hu] at bl;have L:=Dh HQ.out.2 m (by rw [<- HQ.out.len];exact F) HI.out.1;rw [hu] at L;obtain ⟨p,hp⟩:∃ p,2^(m%32)=p:=⟨_,rfl⟩;rw [hp] at L;have bu:=Qh K;have M:=Qh L;have HU:=Qh hu;have HP:=Qh hp;clear a3 an W K O Q j hu L hp;go_wp2;go_region;go_wp2;go_roundw
    case rel =>
     have E:=Di (a:=va) (k:=m) HV.out hge H0.out;have he:=BC M.out.2.1 M.out.1 HP.out;refine ⟨m,(m:Int)-1,U.set (m/32) (u+p),L3,by omega,by go_num,by omega,⟨?_,?_⟩,?_,?_,?_⟩
     ·rw [M.out.2.2,HI.out.1,E.1,FL]
     ·rw [bd.out,E.2]
     ·exact OwS.set (w:=w2) bu.out (m/32) M.out.2.1 he
     ·exact OwS.far (w:=w2) bf.out (p:=⟨w.heap.size,m/32,none⟩) (by simp) _
     exact (Below.setCell a6.out (p:=⟨w.heap.size,m/32,none⟩) (by simp) _).drew
    case measure=>simp [intOf] <;> omega
   have ac:bH r2 X<0:=by unfold bH;(repeat' split) <;> omega
   obtain ⟨cv,q⟩:∃ cv,bH r2 X=cv:=⟨_,rfl⟩;rw [q] at ac;have HC:=Qh q;clear q;go_wp2_with fail;refine (dQ _ (some ⟨w.heap.size+1,0,none⟩) (n'+1) (n'+1) J ?_ ?_ (some ⟨gb,ob,none⟩) n' c' l' ?_ ?_).mono ?_;(exact i.out.toWd);(omega);(exact wb.keep ((Kp.refl w).below f.out));(omega);rintro e w1 ⟨rfl,g⟩;rw [o.out,HB.out,HC.out];have O:=Qh (I.out.belw g);have Q:=Qh (i.out.belw g);have j:=Qh (f.out.trans (g.mono f.out.size));clear g I i f;go_wp2;go_roundw
   case rel =>
    have E:=Bx (a:=va) (k:=m) HV.out (by omega);refine ⟨m,(m:Int)-1,U,J,by omega,by go_num,by omega,⟨?_,?_⟩,O.out,Q.out,j.out⟩
    ·rw [HI.out.1,E.1,EP]
    rw [o.out,E.2]
   case measure=>simp [intOf] <;> omega
theorem iO (w:World) (b:Bool) (A:Option Addr) (n c:Nat) (l:List Nat) (s:Bool) (a:Wd w A n c l) (f:n<=1099511627776) (d:WD.s ⟨b,l⟩=s) :
 Calls Tryz.prog 160 #[.agg #[.bool b,.slice A n c]] w (ax w (.bool s)):=by subst d;exact dD w b A n c l a f
theorem yS (w:World) (b:Bool) (A:Option Addr) (n c:Nat) (l:List Nat) (s:Int) (a:Wd w A n c l) (f:n<=1099511627000) (d:(WD.z ⟨b,l⟩).sign=s) :
 Calls Tryz.prog 125 #[.agg #[.bool b,.slice A n c]] w (ax w (.int .i64 s)):=by subst d;exact qV w b A n c l a f
theorem tj (w:World) (A n c l) (g:Wd w A n c l) (i:n<=1000000000000) (A' n' c' l') (b:Wd w A' n' c' l') (a:n'<=1000000000000) (x y:Nat) (h:val l=x) (d:val l'=y) (f:y≠0) :
 Calls Tryz.prog 162 #[.slice A n c,.slice A' n' c'] w (sV w x y):=by subst h d;exact ti w A n c l g i A' n' c' l' b a f
def BE (w:World) (q r:Int) (e:Ending) (w':World):Prop:=∃ A1 n1 c1 A2 n2 c2,e=.returned (.tuple #[.agg #[.bool (wh q).neg,.slice A1 n1 c1],.agg #[.bool (wh r).neg,.slice A2 n2 c2],.int .i64 0])/\Wd w' A1 n1 c1 (wh q).mag/\Wd w' A2 n2 c2 (wh r).mag/\Below w.heap.size w w'
theorem BF (w:World) (b:Bool) (A n c l) (h:Wd w A n c l) (hn:n<=1000000000000) (B:Bool) (A' n' c' l') (j:Wd w A' n' c' l') (ac:n'<=1000000000000) (h0:WD.z ⟨B,l'⟩≠0) (Z:WD.z ⟨b,l⟩%WD.z ⟨B,l'⟩=0) :
 Calls Tryz.prog 128 #[.agg #[.bool b,.slice A n c],.agg #[.bool B,.slice A' n' c']] w (BE w (WD.z ⟨b,l⟩/WD.z ⟨B,l'⟩) (WD.z ⟨b,l⟩%WD.z ⟨B,l'⟩)):=by
 have HL:=Qh h.2.1;have ad:=Qh j.2.1;obtain ⟨s0,F⟩:∃ s,(WD.z ⟨B,l'⟩).sign=s:=⟨_,rfl⟩;have a1:((s0:Int)==0)=false:=by simp;rintro rfl;exact h0 (Int.sign_eq_zero_iff_zero.1 F)
 have ab:=Qh F;clear F
 have O:val (WD.m ⟨B,l'⟩) ∣ val (WD.m ⟨b,l⟩):=by
  rw [<- mr ⟨b,l⟩,<- mr ⟨B,l'⟩];exact Int.natAbs_dvd_natAbs.2 (Int.dvd_of_emod_eq_zero Z)
 rw [WD.z_eq] at h0 ⊢;rw [WD.z_eq ⟨B,l'⟩];have Y:val (WD.m ⟨B,l'⟩)≠0:=by intro e;rw [e] at h0;exact h0 (by cases (WD.s ⟨B,l'⟩) <;> rfl)
 obtain ⟨sa,L⟩:∃ s,WD.s ⟨b,l⟩=s:=⟨_,rfl⟩;obtain ⟨sb,M⟩:∃ s,WD.s ⟨B,l'⟩=s:=⟨_,rfl⟩;rw [L,M];obtain ⟨x,hx⟩:∃ x,val (WD.m ⟨b,l⟩)=x:=⟨_,rfl⟩;obtain ⟨y,W⟩:∃ y,val (WD.m ⟨B,l'⟩)=y:=⟨_,rfl⟩;rw [hx,W];rw [hx,W] at O;have Q:=Qh (And.intro L M);have HX:=Qh (And.intro hx W);have HY:=Qh (show y≠0 from W ▸ Y);have K:=Qh (Nat.mod_eq_zero_of_dvd O);clear L M hx W Y h0 Z O;go_in;go_wp2_with fail;have b0:Below w.heap.size w ((((w.alloc (.cells #[.bool b,.slice A n c] 134)).alloc (.cells #[.bool B,.slice A' n' c'] 134)).alloc (.cells #[.bool false,.slice none 0 0] 134)).alloc (.cells #[.bool false,.slice none 0 0] 134)):=(((((Below.refl _ _).alloc Qr _).alloc (by simp) _).alloc (by simp;omega) _).alloc (by simp;omega) _);generalize a:((((w.alloc (.cells #[.bool b,.slice A n c] 134)).alloc (.cells #[.bool B,.slice A' n' c'] 134)).alloc (.cells #[.bool false,.slice none 0 0] 134)).alloc (.cells #[.bool false,.slice none 0 0] 134))=W0 at b0 ⊢;have a3:W0.cell? ⟨w.heap.size,0,none⟩=some (.bool b):=by subst a;simp [go_sem]
 have a0:W0.frozen? ⟨w.heap.size,0,none⟩=false:=by subst a;simp [go_sem]
 have a5:W0.cell? ⟨w.heap.size,1,none⟩=some (.slice A n c):=by subst a;simp [go_sem]
 have bd:W0.frozen? ⟨w.heap.size,1,none⟩=false:=by subst a;simp [go_sem]
 have aS:W0.cell? ⟨w.heap.size+1,0,none⟩=some (.bool B):=by subst a;simp [go_sem]
 have a8:W0.frozen? ⟨w.heap.size+1,0,none⟩=false:=by subst a;simp [go_sem]
 have a9:W0.cell? ⟨w.heap.size+1,1,none⟩=some (.slice A' n' c'):=by subst a;simp [go_sem]
 have aT:W0.frozen? ⟨w.heap.size+1,1,none⟩=false:=by subst a;simp [go_sem]
 have bf:W0.cell? ⟨w.heap.size+1+1,0,none⟩=some (.bool false):=by subst a;simp [go_sem]
 have bb:W0.frozen? ⟨w.heap.size+1+1,0,none⟩=false:=by subst a;simp [go_sem]
 have a4:W0.cell? ⟨w.heap.size+1+1,1,none⟩=some (.slice none 0 0):=by subst a;simp [go_sem]
 have an:W0.frozen? ⟨w.heap.size+1+1,1,none⟩=false:=by subst a;simp [go_sem]
 have aC:W0.cell? ⟨w.heap.size+1+1+1,0,none⟩=some (.bool false):=by subst a;simp [go_sem]
 have a2:W0.frozen? ⟨w.heap.size+1+1+1,0,none⟩=false:=by subst a;simp [go_sem]
 have ao:W0.cell? ⟨w.heap.size+1+1+1,1,none⟩=some (.slice none 0 0):=by subst a;simp [go_sem]
 have a7:W0.frozen? ⟨w.heap.size+1+1+1,1,none⟩=false:=by subst a;simp [go_sem]
 have x0:Box W0 w.heap.size 134:=by subst a;exact (((bG _ _ _ (by simp)).alloc _).alloc _).alloc _
 have x1:Box W0 (w.heap.size+1) 134:=by subst a;exact ((bG _ _ _ (by simp)).alloc _).alloc _
 have x2:Box W0 (w.heap.size+1+1) 134:=by subst a;exact (bG _ _ _ (by simp)).alloc _
 have x3:Box W0 (w.heap.size+1+1+1) 134:=by subst a;exact bG _ _ _ (by simp)
 have D:ji (w.heap.size+1+1) (w.heap.size+1+1+1+1) 2 W0:=by subst a;exact Cs (by simp) rfl
 have d:w.heap.size+1+1+1+1<=W0.heap.size:=by subst a;simp
 clear a;have h:=h.belw b0;have j:=j.belw b0;have r0:Below W0.heap.size W0 W0:=ae _
 go_wp2_with (first
  | (go_at_call 125;(with_reducible refine (yS _ B A' n' c' l' s0 ?_ ?_ ?_).mono ?_);(exact j);(omega);(exact ab.out);rintro e w1 ⟨rfl,P⟩;have r1:=aj r0 P;replace h:=h.belw P;replace j:=j.belw P;(try clear sc G C sz);obtain ⟨⟨sc,G⟩,C,sz⟩:=ba.of (by omega) d D r1))
 (try clear sc G C sz);have g:w.heap.size+1+1<=w.heap.size+1+1+1+1:=by omega
 go_region_held3 (fun w'=>Sees (w.heap.size+1+1) W0 w') (first | exact Sees.of (Nat.le_trans g d) (by assumption) | exact Sees.of (Nat.le_trans g d) (af (by assumption) _))
  (first
   | (go_at_call 159;(with_reducible refine (dc _ b A n c l ?_ ?_).mono ?_);(exact h);(omega);rintro e w2 ⟨A2,n2,c2,rfl,q,E⟩;replace E:=aj (af (ae _) 1) E;have r2:=aj r1 E;replace h:=h.belw E;replace j:=j.belw E)
   | (go_at_call 159;(with_reducible refine (dc _ B A' n' c' l' ?_ ?_).mono ?_);(exact j);(omega);rintro e w3 ⟨A3,n3,c3,rfl,r,I⟩;have r3:=aj r2 I;replace h:=h.belw I;replace j:=j.belw I;replace q:=q.belw I)
   | (go_at_call 162;(with_reducible refine (tj _ A2 n2 c2 (WD.m ⟨b,l⟩) ?_ ?_ A3 n3 c3 (WD.m ⟨B,l'⟩) ?_ ?_ x y ?_ ?_ ?_).mono ?_);(exact q);(exact q.m_len (by rw [<- HL.out];exact hn));(exact r);(exact r.m_len (by rw [<- ad.out];exact ac));(exact HX.out.1);(exact HX.out.2);(exact HY.out);rintro e w4 ⟨A4,n4,c4,A5,n5,c5,rfl,u,t,H⟩;have r4:=aj r3 H;replace h:=h.belw H;replace j:=j.belw H;replace q:=q.belw H;replace r:=r.belw H))
 obtain ⟨⟨sc,G⟩,C,sz⟩:=ba.of (by omega) d D r4;clear g
 have a6:n4<=1000000000000:=by
  rw [u.2.1];exact pl (Nat.lt_of_le_of_lt (Nat.div_le_self _ _) (HX.out.1 ▸ q.vlt Qr)) (q.m_len (by rw [<- HL.out];exact hn))
 have al:n5=0:=by rw [t.2.1,K.out,az];rfl
 subst al;cases sa
 ·go_wp2_with (first
   | (go_at_call 160;(with_reducible refine (iO _ b A n c l false ?_ ?_ ?_).mono ?_);(exact h);(omega);(exact Q.out.1);rintro e w5 ⟨rfl,o⟩;have r5:=aj r4 o;replace h:=h.belw o;replace j:=j.belw o;replace q:=q.belw o;replace r:=r.belw o;replace u:=u.belw o;replace t:=t.belw o;(try clear sc G C sz);obtain ⟨⟨sc,G⟩,C,sz⟩:=ba.of (by omega) d D r5))
  have T:=Qh (iC (sa:=false) (sb:=sb) (x:=x) HY.out (.inr K.out));(try clear sc G C sz);have g:w.heap.size+1+1<=w.heap.size+1+1+1+1:=by omega
  go_region_held3 (fun w'=>Sees (w.heap.size+1+1) W0 w') (first | exact Sees.of (Nat.le_trans g d) (by assumption) | exact Sees.of (Nat.le_trans g d) (af (by assumption) _) | exact (Sees.set (Sees.of (Nat.le_trans g d) (by assumption)) (by simp)) | exact (Sees.set (Sees.set (Sees.of (Nat.le_trans g d) (by assumption)) (by simp)) (by simp)) | exact (Sees.set (Sees.set (Sees.set (Sees.of (Nat.le_trans g d) (by assumption)) (by simp)) (by simp)) (by simp)) | exact (Sees.set (Sees.set (Sees.set (Sees.set (Sees.of (Nat.le_trans g d) (by assumption)) (by simp)) (by simp)) (by simp)) (by simp)))
   (first
    | (go_at_call 160;(with_reducible refine (iO _ b A n c l false ?_ ?_ ?_).mono ?_);(exact h);(omega);(exact Q.out.1);rintro e w6 ⟨rfl,f⟩;replace f:=aj (af (ae _) 1) f;have r6:=aj r5 f;replace h:=h.belw f;replace j:=j.belw f;replace q:=q.belw f;replace r:=r.belw f;replace u:=u.belw f;replace t:=t.belw f)
    | (go_at_call 160;(with_reducible refine (iO _ B A' n' c' l' sb ?_ ?_ ?_).mono ?_);(exact j);(omega);(exact Q.out.2);rintro e w7 ⟨rfl,p⟩;have r7:=aj r6 p;replace h:=h.belw p;replace j:=j.belw p;replace q:=q.belw p;replace r:=r.belw p;replace u:=u.belw p;replace t:=t.belw p)
    | (go_at_call 129;(with_reducible refine (de _ sb A4 n4 c4 (ap (x/y)) (sgn false x/sgn sb y) ?_ ?_ ?_).mono ?_);(exact u);(omega);(rw [T.out.1,ah];cases sb <;> rfl);rintro e w8 ⟨X,n8,U,rfl,N,k⟩;have r8:=aj r7 k;replace h:=h.belw k;replace j:=j.belw k;replace q:=q.belw k;replace r:=r.belw k;replace u:=u.belw k;replace t:=t.belw k)
    | (go_at_call 129;(with_reducible refine (de _ false A5 0 c5 (ap (x%y)) (sgn false x%sgn sb y) ?_ ?_ ?_).mono ?_);(exact t);(omega);(rw [T.out.2,ah];rfl);rintro e w9 ⟨V,n9,R,rfl,h9,i⟩;have J:=aj r8 i;replace h:=h.belw i;replace j:=j.belw i;replace q:=q.belw i;replace r:=r.belw i;replace u:=u.belw i;replace t:=t.belw i;replace N:=N.belw i;obtain ⟨⟨sc,G⟩,C,sz⟩:=ba.of (by omega) d D J))
  clear g;go_wp2_with fail;refine bodyPost_ret (v:=.tuple #[.agg #[.bool _,.slice X n8 U],.agg #[.bool _,.slice V n9 R],.int .i64 0]) (by simp [results,Tryz.results128,go_sem,C];first | rfl | exact ⟨rfl,rfl⟩) rfl ?_;have y2:=x2.below J;have S:=x3.below J;refine ⟨X,n8,U,V,n9,R,rfl,?_,?_,?_⟩
  ·exact N.keep (kp4 y2 S (by decide) (by decide) _ _ _ _ _ _ _ _)
  ·exact h9.keep (kp4 y2 S (by decide) (by decide) _ _ _ _ _ _ _ _)
  exact ((((b0.trans (J.mono b0.size)).setCell (by dsimp only;omega) _).setCell (by dsimp only;omega) _).setCell (by dsimp only;omega) _).setCell (by dsimp only;omega) _
 ·go_wp2_with (first
   | (go_at_call 160;(with_reducible refine (iO _ b A n c l true ?_ ?_ ?_).mono ?_);(exact h);(omega);(exact Q.out.1);rintro e w5 ⟨rfl,o⟩;have r5:=aj r4 o;replace h:=h.belw o;replace j:=j.belw o;replace q:=q.belw o;replace r:=r.belw o;replace u:=u.belw o;replace t:=t.belw o;(try clear sc G C sz);obtain ⟨⟨sc,G⟩,C,sz⟩:=ba.of (by omega) d D r5))
  have T:=Qh (iC (sa:=true) (sb:=sb) (x:=x) HY.out (.inr K.out));(try clear sc G C sz);have g:w.heap.size+1+1<=w.heap.size+1+1+1+1:=by omega
  go_region_held3 (fun w'=>Sees (w.heap.size+1+1) W0 w') (first | exact Sees.of (Nat.le_trans g d) (by assumption) | exact Sees.of (Nat.le_trans g d) (af (by assumption) _) | exact (Sees.set (Sees.of (Nat.le_trans g d) (by assumption)) (by simp)) | exact (Sees.set (Sees.set (Sees.of (Nat.le_trans g d) (by assumption)) (by simp)) (by simp)) | exact (Sees.set (Sees.set (Sees.set (Sees.of (Nat.le_trans g d) (by assumption)) (by simp)) (by simp)) (by simp)) | exact (Sees.set (Sees.set (Sees.set (Sees.set (Sees.of (Nat.le_trans g d) (by assumption)) (by simp)) (by simp)) (by simp)) (by simp)))
   (first
    | (go_at_call 160;(with_reducible refine (iO _ b A n c l true ?_ ?_ ?_).mono ?_);(exact h);(omega);(exact Q.out.1);rintro e w6 ⟨rfl,f⟩;replace f:=aj (af (ae _) 1) f;have r6:=aj r5 f;replace h:=h.belw f;replace j:=j.belw f;replace q:=q.belw f;replace r:=r.belw f;replace u:=u.belw f;replace t:=t.belw f)
    | (go_at_call 160;(with_reducible refine (iO _ B A' n' c' l' sb ?_ ?_ ?_).mono ?_);(exact j);(omega);(exact Q.out.2);rintro e w7 ⟨rfl,p⟩;have r7:=aj r6 p;replace h:=h.belw p;replace j:=j.belw p;replace q:=q.belw p;replace r:=r.belw p;replace u:=u.belw p;replace t:=t.belw p)
    | (go_at_call 129;(with_reducible refine (de _ (!sb) A4 n4 c4 (ap (x/y)) (sgn true x/sgn sb y) ?_ ?_ ?_).mono ?_);(exact u);(omega);(rw [T.out.1,ah];cases sb <;> rfl);rintro e w8 ⟨X,n8,U,rfl,N,k⟩;have r8:=aj r7 k;replace h:=h.belw k;replace j:=j.belw k;replace q:=q.belw k;replace r:=r.belw k;replace u:=u.belw k;replace t:=t.belw k)
    | (go_at_call 129;(with_reducible refine (de _ false A5 0 c5 (ap (x%y)) (sgn true x%sgn sb y) ?_ ?_ ?_).mono ?_);(exact t);(omega);(rw [T.out.2,ah];rfl);rintro e w9 ⟨V,n9,R,rfl,h9,i⟩;have J:=aj r8 i;replace h:=h.belw i;replace j:=j.belw i;replace q:=q.belw i;replace r:=r.belw i;replace u:=u.belw i;replace t:=t.belw i;replace N:=N.belw i;obtain ⟨⟨sc,G⟩,C,sz⟩:=ba.of (by omega) d D J))
  clear g;go_wp2_with fail;refine bodyPost_ret (v:=.tuple #[.agg #[.bool _,.slice X n8 U],.agg #[.bool _,.slice V n9 R],.int .i64 0]) (by simp [results,Tryz.results128,go_sem,C];first | rfl | exact ⟨rfl,rfl⟩) rfl ?_;have y2:=x2.below J;have S:=x3.below J;refine ⟨X,n8,U,V,n9,R,rfl,?_,?_,?_⟩
  ·exact N.keep (kp4 y2 S (by decide) (by decide) _ _ _ _ _ _ _ _)
  ·exact h9.keep (kp4 y2 S (by decide) (by decide) _ _ _ _ _ _ _ _)
  exact ((((b0.trans (J.mono b0.size)).setCell (by dsimp only;omega) _).setCell (by dsimp only;omega) _).setCell (by dsimp only;omega) _).setCell (by dsimp only;omega) _
theorem ur (w:World) (b A n c z k) (h:IZ w b A n c z k) (b' A' n' c' z' k') (f:IZ w b' A' n' c' z' k') (C:k+k'<=1000000000) (a:z'≠0) (j:z%z'=0):Calls Tryz.prog 128 #[.agg #[.bool b,.slice A n c],.agg #[.bool b',.slice A' n' c']] w (Cv w (.int .i64 0) (z/z') (z%z') (k+k')):=by
 have y:=h.mono (Nat.le_add_right k k') |>.lt
 have v:=f.mono (Nat.le_add_left k' k) |>.lt
 obtain ⟨l,u,rfl,B⟩:=h;obtain ⟨t,d,rfl,m⟩:=f;refine (BF w b A n c l u (by omega) b' A' n' c' t d (by omega) a j).mono fun _ _ r=>?_
 obtain ⟨p,s,c1,q,x,c2,rfl,i,o,g⟩:=r;refine ⟨_,p,s,c1,_,q,x,c2,rfl,IV.mk_ i rfl ?_,IV.mk_ o rfl ?_,g⟩
 ·exact Nat.lt_of_le_of_lt (Int.natAbs_ediv_le_natAbs _ _) y
 have D:=Int.emod_nonneg (WD.z ⟨b,l⟩) a;have E:=Int.emod_lt (WD.z ⟨b,l⟩) a;omega
theorem mK (w:World) (b A n c z k) (h:IZ w b A n c z k) (s:Int) (d:z.sign=s) (a:k<=1000000000):Calls Tryz.prog 125 #[.agg #[.bool b,.slice A n c]] w (ax w (.int .i64 s)):=by
 subst d;exact mz w b A n c z k h a
theorem yT {z d:Int}{q:Rat}(j:z≠0) (hd:0<d) (c:Rat.divInt z d=q) :
 (rd q).num=(wh (z/((Nat.gcd z.natAbs d.natAbs:Nat):Int))).mag/\(rd q).den=(wh (d/((Nat.gcd z.natAbs d.natAbs:Nat):Int))).mag/\(rd q).neg=(wh (z/((Nat.gcd z.natAbs d.natAbs:Nat):Int))).neg:=by
 rw [<- c,kK j hd,mt _ hd];have f:0<Nat.gcd z.natAbs d.natAbs:=Nat.gcd_pos_of_pos_right _ (by omega);have a:((Nat.gcd z.natAbs d.natAbs:Nat):Int) ∣ z:=Int.ofNat_dvd_left.2 (Nat.gcd_dvd_left _ _);generalize Nat.gcd z.natAbs d.natAbs=g at *;obtain ⟨m,rfl⟩:=a;have e:(g:Int)*m/(g:Int)=m:=Int.mul_ediv_cancel_left _ (by omega);have i:((g:Int)*m).natAbs/g=m.natAbs:=by rw [Int.natAbs_mul,Int.natAbs_natCast];exact Nat.mul_div_cancel_left _ f
 rw [e,i];refine ⟨rfl,rfl,?_⟩;unfold wh;simp only [decide_eq_decide];constructor
 ·intro h;rcases (show m<0\/0<=m by omega) with b | b;exact b;exact absurd (Int.mul_nonneg (Int.natCast_nonneg g) b) (by omega)
 intro h;exact Int.mul_neg_of_pos_of_neg (by omega) h
theorem tl (w:World) (b A n c z k) (h:IZ w b A n c z k) (b' A' n' c' z' k') (j:IZ w b' A' n' c' z' k') (q:Rat) (K:Nat) (hd:z'≠0) (hq:Rat.divInt z z'=q) (hs:Sz q K) (hk:k+k'<=300000000) :
 Calls Tryz.prog 86 #[.agg #[.bool b,.slice A n c],.agg #[.bool b',.slice A' n' c']] w (pw w q K):=by
 have HD:=Qh hd;have HQ:=Qh hq;have HS:=Qh hs;obtain ⟨s,aC⟩:∃ s,z.sign=s:=⟨_,rfl⟩;obtain ⟨s',ab⟩:∃ s,z'.sign=s:=⟨_,rfl⟩;have H1:=Qh aC;have H2:=Qh ab;clear hd hq hs aC ab;go_in;go_upto_region 1 with fail;refine cQ ?_;intro w1 ac;have a:B3 w w.heap.size 134 #[.bool b,.slice A n c] 134 #[.bool b',.slice A' n' c'] 54 #[.bool false,.slice none 0 0,.slice none 0 0] w1:=by rw [ac];exact ⟨((Blk.new w _ _).alloc _).alloc _,(ak _ _ _ (by simp)).alloc _,ak _ _ _ (by simp),(((ae w).alloc Qr _).alloc (by simp) _).alloc (by simp <;> omega) _⟩
 replace h:=h.belw a.q;replace j:=j.belw a.q;clear ac;have y:=a.s.v2;go_wp2_with fail;(refine (mK _ b A n c z k h s H1.out (by omega)).mono ?_);rintro e w2 ⟨rfl,F⟩;replace a:=a.call F;replace h:=h.belw F;replace j:=j.belw F;clear F y;by_cases hz:z=0
 ·obtain rfl:s=0:=by rw [<- H1.out,hz];rfl
  have aT:q=0:=by rw [<- HQ.out,hz,Rat.zero_divInt]
  subst aT;have y:=a.r.v3;go_wp2_with fail;refine bodyPost_ret (v:=.agg #[.bool false,.slice none 0 0,.slice none 0 0]) (by simp [results,Tryz.results86,go_sem, *] <;> trivial) rfl ?_;exact ⟨false,none,0,0,none,0,0,rfl,QV.zero _ _,((a.q.setCell (p:=⟨w.heap.size+1+1,0,none⟩) (by show w.heap.size<=w.heap.size+1+1;omega) (.bool false)).setCell (p:=⟨w.heap.size+1+1,1,none⟩) (by show w.heap.size<=w.heap.size+1+1;omega) (.slice none 0 0)).setCell (p:=⟨w.heap.size+1+1,2,none⟩) (by show w.heap.size<=w.heap.size+1+1;omega) (.slice none 0 0)⟩
 obtain ⟨hp,al,ad⟩:=qU hz HD.out HQ.out;have HP:=Qh hp;have Q:=Qh al;have M:=Qh ad;have u1:(s==0)=false:=beq_eq_false_iff_ne.2 (by rw [<- H1.out];exact fun e=>hz (Int.sign_eq_zero_iff_zero.1 e));have u2:(s=0)=False:=by simpa using u1
 clear hz hp al ad HQ;have y:=a.t.v2;go_wp2_with fail;(refine (mK _ b' A' n' c' z' k' j s' H2.out (by omega)).mono ?_);rintro e w3 ⟨rfl,G⟩;replace a:=a.call G;replace h:=h.belw G;replace j:=j.belw G;clear G y;obtain ⟨O,J⟩:∃ y,sgz z z'=y:=⟨_,rfl⟩;obtain ⟨U,N⟩:∃ y,sgz z' z'=y:=⟨_,rfl⟩;rw [J] at Q M;rw [N] at HP Q;have R:=Qh J;have S:=Qh N;clear J N;go_upto_if 18 with fail;go_cut [] (fun wx=>∃ b8 A8 n8 c8 Z A9 n9 Y,B3 w w.heap.size 134 #[.bool b8,.slice A8 n8 c8] 134 #[.bool Z,.slice A9 n9 Y] 54 #[.bool false,.slice none 0 0,.slice none 0 0] wx/\IZ wx b8 A8 n8 c8 O k/\IZ wx Z A9 n9 Y U k')
 case first =>
  have y:=a.s.v2;have y9:=a.t.v2;by_cases T:z'<0
  ·obtain rfl:s'=-1:=by rw [<- H2.out];exact Int.sign_eq_neg_one_iff_neg.2 T
   obtain rfl:-z=O:=by rw [<- R.out];exact (if_pos T).symm
   obtain rfl:-z'=U:=by rw [<- S.out];exact (if_pos T).symm
   clear T;go_wp2_with fail
   go_region_with (first
    | (go_at_call 126;(with_reducible refine (lL _ b A n c z k ?_ ?_).mono ?_);(first | exact h | exact h.belw (af (ae _) _) | fail);(omega);rintro e w5 ⟨b5,A5,n5,c5,rfl,P,H⟩;replace H:=aj (af (ae _) 1) H;replace j:=j.belw H;replace a:=a.call H;have y:=a.s.v2;have y9:=a.t.v2)
    | (go_at_call 126;(with_reducible refine (lL _ b' A' n' c' z' k' ?_ ?_).mono ?_);(exact j);(omega);rintro e w6 ⟨b6,A6,n6,c6,rfl,h6,ao⟩;replace P:=P.belw ao;replace a:=a.call ao;have y:=a.s.v2;have y9:=a.t.v2))
   all_goals
    go_wp2_with fail;go_meet;exact ⟨_,_,_,_,_,_,_,_,(a.p0 _ _).p1 _ _,P.iz.keep ((a.s.k2 (by decide) _ _).trans ((a.p0 _ _).t.k2 (by decide) _ _)),h6.iz.keep ((a.s.k2 (by decide) _ _).trans ((a.p0 _ _).t.k2 (by decide) _ _))⟩
  have hp:0<z':=by have:=HD.out;omega
  obtain rfl:s'=1:=by rw [<- H2.out];exact Int.sign_eq_one_iff_pos.2 hp
  obtain rfl:z=O:=by rw [<- R.out];exact (if_neg T).symm
  obtain rfl:z'=U:=by rw [<- S.out];exact (if_neg T).symm
  clear T hp;go_wp2_with fail;go_meet;exact ⟨_,_,_,_,_,_,_,_,a,h,j⟩
 case rest =>
  clear a h j R S;obtain ⟨b8,A8,n8,c8,Z,A9,n9,Y,a,W,C⟩:=hcut;rename World=>w7;have y:=And.intro a.s.v2 a.t.v2;go_wp2_with fail;(refine (uk _ b8 A8 n8 c8 O k W Z A9 n9 Y U k' C (by omega)).mono ?_);rintro e w8 ⟨b3,A3,n3,c3,rfl,D,E⟩;replace a:=a.call E;replace W:=W.belw E;replace C:=C.belw E;obtain ⟨g,hg⟩:∃ g:Int,((Nat.gcd O.natAbs U.natAbs:Nat):Int)=g:=⟨_,rfl⟩;have HG:=Qh hg;rw [hg] at D;clear E y hg;go_upto_region 6 with fail;refine cQ ?_;intro w9 L;have X:Below w8.heap.size w8 w9:=by rw [L];exact (ae w8).alloc Qr _
  have V:Blk w9 w8.heap.size 134 #[.bool b3,.slice A3 n3 c3]:=by rw [L];exact Blk.new w8 _ _
  replace W:=W.belw X;replace C:=C.belw X;replace D:=D.belw X;replace a:=a.call X;clear L X;have g0:g≠0:=by rw [<- HG.out];exact yf HP.out
  have m1:O%g=0:=by rw [<- HG.out];exact Int.emod_eq_zero_of_dvd (Int.ofNat_dvd_left.2 (Nat.gcd_dvd_left _ _))
  have m2:U%g=0:=by rw [<- HG.out];exact Int.emod_eq_zero_of_dvd (Int.ofNat_dvd_left.2 (Nat.gcd_dvd_right _ _))
  have M1:=Qh m1;have M2:=Qh m2;clear m1 m2;have y:=And.intro a.s.v2 V.v2;go_wp2_with fail;(refine (ur _ b8 A8 n8 c8 O k W b3 A3 n3 c3 g (k+k') D.iz (by omega) g0 M1.out).mono ?_);rintro e o ⟨b4,A4,n4,c4,bx,Ax,nx,cx,rfl,I,_,d⟩;replace a:=a.call d;replace V:=V.b d;replace C:=C.belw d;replace D:=D.belw d;clear d y;go_upto_region 7 with fail;refine cQ ?_;intro an l;have i:Below o.heap.size o an:=by rw [l];exact ((ae o).alloc Qr _).alloc (by simp) _
  have x:Blk an o.heap.size 134 #[.bool b4,.slice A4 n4 c4]:=by rw [l];exact (Blk.new o _ _).alloc _
  replace a:=a.call i;replace V:=V.b i;replace C:=C.belw i;replace D:=D.belw i;replace I:=I.belw i;clear l i;have y:=And.intro a.t.v2 V.v2;go_wp2_with fail;(refine (ur _ Z A9 n9 Y U k' C b3 A3 n3 c3 g (k+k') D.iz (by omega) g0 M2.out).mono ?_);rintro e B ⟨b5,A5,n5,c5,bz,Az,nz,cz,rfl,P,_,f⟩;replace a:=a.call f;replace x:=x.b f;replace I:=I.belw f;clear f y;go_upto_region 8 with fail;refine cQ ?_;intro aS u;have m:Below B.heap.size B aS:=by rw [u];exact ((ae B).alloc Qr _).alloc (by simp) _
  have a0:Blk aS B.heap.size 134 #[.bool b5,.slice A5 n5 c5]:=by rw [u];exact (Blk.new B _ _).alloc _
  replace a:=a.call m;replace x:=x.b m;replace I:=I.belw m;replace P:=P.belw m;clear u m;have y:=And.intro x.v2 (And.intro a0.v2 a.r.v3);go_wp2_with fail;refine bodyPost_ret (v:=.agg #[.bool b4,.slice A4 n4 c4,.slice A5 n5 c5]) (by simp [results,Tryz.results86,go_sem, *] <;> trivial) rfl ?_;clear y;have kp:=a.r.k3 (by decide) (.bool b4) (.slice A4 n4 c4) (.slice A5 n5 c5);obtain ⟨e1,e2,e3⟩:=yT (fun e=>by rw [e] at M;rcases M.out with h | h <;> cases h) HP.out Q.out
  rw [HG.out] at e1 e2 e3;exact ⟨_,_,_,_,_,_,_,rfl,QV.mk_ (by rw [e1];exact I.2.1.keep kp) (by rw [e2];exact P.2.1.keep kp) (by rw [e3];exact I.1.symm) HS.out,((a.q.setCell (p:=⟨w.heap.size+1+1,0,none⟩) (by show w.heap.size<=w.heap.size+1+1;omega) _).setCell (p:=⟨w.heap.size+1+1,1,none⟩) (by show w.heap.size<=w.heap.size+1+1;omega) _).setCell (p:=⟨w.heap.size+1+1,2,none⟩) (by show w.heap.size<=w.heap.size+1+1;omega) _⟩
theorem vR (w:World) (A n c l) (wa:Wd w A n c l) (hn:n<=1099511627776) (A' n' c' l') (Y:Wd w A' n' c' l') (a4:n'<=1099511627776) :
 Calls Tryz.prog 221 #[.slice A n c,.slice A' n' c'] w (fz w (ap (val l*val l'))):=by
 have HL:=Qh wa.2.1;have aC:=Qh Y.2.1;go_in;go_wp2_with (at_make;refine aR _ rfl _ _ rfl _ _ _ _ (n+n') rfl rfl (by omega) (by omega) (by omega) ?_);go_loopw [18] (fun iv wr=>∃ (i:Nat) (L:List Nat),i<=n/\iv=.int .i64 (i:Nat)/\L.length=n+n'/\xQ l l' L (n+n') n' i/\Blk wr w.heap.size 173 (cellsOf L)/\Below w.heap.size w wr) (fun iv _=>n-(intOf iv).toNat)
 case atStart =>
  refine ⟨0,List.replicate (n+n') 0,Nat.zero_le _,rfl,by simp,⟨by intro x J;rw [List.eq_of_mem_replicate J];omega,fun j _=>?_,?_⟩,Blk.new _ _ _,(Below.refl _ _).alloc Qr _⟩
  ·unfold wd;by_cases G:j<n+n' <;> simp [List.getD,G]
  rw [Sm]
  have:∀ m,Sm (wd (List.replicate (n+n') 0)) m=0:=by
   intro m
   induction m with
   | zero=>rfl
   | succ m ih =>
    rw [Sm,ih];unfold wd;by_cases G:m<n+n' <;> simp [List.getD,G]
  rw [this];simp
 case round =>
  obtain ⟨i,L,hi,rfl,S,hI,hB,r⟩:=hrel;have a3:=Qh ((Kp.refl w).below r);have T:=Qh hI;have HB:=Qh hB;have F:=Qh S;clear hI hB S;by_cases hkM:i<n
  ·obtain ⟨x,J⟩:∃ x,wd l i=x:=⟨_,rfl⟩
   have ao:x<4294967296:=by rw [<- J];exact wa.lt i
   have HX:=Qh J;clear J;go_wp2_with fail;obtain ⟨wo,K⟩:∃ wo:World,wo=wr:=⟨_,rfl⟩;have a2:=Qh K;clear K;go_loopw [7,23] (fun cv kv w2=>∃ (k t:Nat) (u:List Nat),k<=n'/\kv=.int .i64 (k:Nat)/\cv=.int .u64 (t:Nat)/\t<4294967296/\u.length=n+n'/\xR l l' u (n+n') n' i x k t/\Blk w2 w.heap.size 173 (cellsOf u)/\Below w.heap.size w w2) (fun _ kv _=>n'-(intOf kv).toNat)
   case atStart=>exact ⟨0,0,L,Nat.zero_le _,rfl,rfl,by omega,F.out,⟨T.out.1,T.out.2.1,by rw [T.out.2.2];simp [Sm]⟩,HB.out,r⟩
   case round =>
    obtain ⟨k,t,u,hk,rfl,rfl,R,C,I,O,f⟩:=hrel;have B:=Qh ((Kp.refl w).below f);have b:=Qh I;have h:=Qh O;have a:=Qh C;clear I O C;by_cases v:k<n'
    ·obtain ⟨g2,o2,rfl,aT,P⟩:=(Y.keep B.out).at2 (by omega)
     obtain ⟨g,o,rfl,a0,U⟩:=(wa.keep B.out).at2 (by omega);have X:=U i hkM;rw [HX.out] at X;clear U;have al:=P k v;obtain ⟨y,z,V,D⟩:∃ y z,wd l' k=y/\wd u (i+k)=z:=⟨_,_,rfl,rfl⟩;have W:y<4294967296:=by rw [<- V];exact Y.lt k
     have an:z<4294967296:=by rw [<- D];exact bN b.out.1 _
     rw [V] at al;have E:=h.out.cell (i+k);rw [aB (by rw [a.out];omega),D] at E;have ad:=h.out.frozen (i+k);have HY:=Qh V;have HZ:=Qh D;clear V D P;obtain ⟨p,hp⟩:∃ d,IntKind.u64.wrap ((x:Int)*(y:Int))=d:=⟨_,rfl⟩;obtain ⟨q,hq⟩:∃ d,IntKind.u64.wrap (p+(z:Int))=d:=⟨_,rfl⟩;obtain ⟨s,hs⟩:∃ d,IntKind.u64.wrap (q+(t:Int))=d:=⟨_,rfl⟩;have HD:=Qh (mj ao W an R hp hq (show IntKind.u64.wrap ((t:Int)+q)=s by rw [Int.add_comm];exact hs));go_wp2;go_quiet (fail);go_wp2;obtain ⟨es,ac⟩:=HD.out;clear hp hq hs;go_roundw
     case rel =>
      refine ⟨k+1,(t+x*y+z)/4294967296,u.set (i+k) ((t+x*y+z)%4294967296),by omega,by go_num,by rw [es];go_num,ac,by rw [List.length_set];exact a.out,⟨wds_set b.out.1 _ (Nat.mod_lt _ (by omega)),?_,?_⟩,?_,(af f _).setCell Qr _⟩
      ·intro j G;rw [bS,if_neg (by omega)];exact b.out.2.1 j G
      ·have Q:=dx u (i+k) ((t+x*y+z)%4294967296) (n+n') (by rw [a.out];omega) (by omega)
       rw [HZ.out] at Q;have ht:=mi (o:=z) (x:=x) (y:=y) (Sb:=Sm (wd l') k) (Pi:=4294967296^i) (Pk:=4294967296^k) b.out.2.2 (by rw [Nat.pow_add]) Q;rw [<- Nat.add_assoc,Nat.pow_succ,Sm,HY.out];exact ht
      exact (h.out.below (af (ae _) _) h.out.lt).setW (i+k) _ _ (by rw [es];omega)
     case measure=>simp [intOf];omega
    have M:k=n':=by omega
    have ab:=Qh M;have E:=h.out.cell (i+n');have D:wd u (i+n')=0:=b.out.2.1 _ (by omega);rw [aB (by rw [a.out];omega),D] at E;have ad:=h.out.frozen (i+n');have a1:n'<=k:=by omega
    clear M v D;go_wp2;go_roundw
    case rel =>
     refine ⟨i+1,u.set (i+n') t,by omega,by go_num,by rw [List.length_set];exact a.out,⟨wds_set b.out.1 _ R,?_,?_⟩,?_,f.setCell Qr _⟩
     ·intro j G;rw [bS,if_neg (by omega)];exact b.out.2.1 j (by omega)
     ·have Q:=dx u (i+n') t (n+n') (by rw [a.out];omega) (by omega)
      rw [b.out.2.1 _ (by omega),Nat.zero_mul,Nat.add_zero] at Q;have h2:=b.out.2.2;rw [ab.out,bm l' (by rw [<- aC.out];exact Qr)] at h2;rw [Q,h2,Sm,HX.out,Nat.add_mul];congr 1;rw [Nat.mul_assoc,Nat.mul_comm (val l'),<- Nat.mul_assoc]
     exact h.out.setW (i+n') _ _ rfl
    case measure=>simp [intOf];omega
  have v:i=n:=by omega
  subst v
  have H:val L=val l*val l':=by
   have N:=T.out.2.2;rw [bm L (by rw [F.out];exact Qr),bm l (by rw [<- HL.out];omega)] at N;exact N
  have Z:=Qh H;clear H;go_wp2_with fail;refine (eP _ _ (i+n') (i+n') L ?_ ?_).mono ?_
  ·exact HB.out.wdN T.out.1 F.out
  ·omega
  rintro e w1 ⟨A1,n1,c1,rfl,N,aS⟩;go_wp2;go_ret;rw [Z.out] at N;exact ⟨_,_,_,rfl,N,r.trans (aS.mono r.size)⟩
theorem BG (w:World) (b:Bool) (A n c l) (f:Wd w A n c l) (G:n<=500000000000) (i:Bool) (A' n' c' l') (d:Wd w A' n' c' l') (y:n'<=500000000000) :
 Calls Tryz.prog 198 #[.agg #[.bool b,.slice A n c],.agg #[.bool i,.slice A' n' c']] w (gP w (wh (WD.z ⟨b,l⟩*WD.z ⟨i,l'⟩))):=by
 have F:=Qh f.2.1;have B:=Qh d.2.1;go_in;go_wp2_with fail;have b0:Below w.heap.size w (((w.alloc (.cells #[.bool b,.slice A n c] 134)).alloc (.cells #[.bool i,.slice A' n' c'] 134)).alloc (.cells #[.bool false,.slice none 0 0] 134)):=((((Below.refl _ _).alloc Qr _).alloc (by simp) _).alloc (by simp;omega) _);generalize a:(((w.alloc (.cells #[.bool b,.slice A n c] 134)).alloc (.cells #[.bool i,.slice A' n' c'] 134)).alloc (.cells #[.bool false,.slice none 0 0] 134))=W0 at b0 ⊢;have ad:W0.cell? ⟨w.heap.size,0,none⟩=some (.bool b):=by subst a;simp [go_sem]
 have R:W0.frozen? ⟨w.heap.size,0,none⟩=false:=by subst a;simp [go_sem]
 have an:W0.cell? ⟨w.heap.size,1,none⟩=some (.slice A n c):=by subst a;simp [go_sem]
 have ac:W0.frozen? ⟨w.heap.size,1,none⟩=false:=by subst a;simp [go_sem]
 have N:W0.cell? ⟨w.heap.size+1,0,none⟩=some (.bool i):=by subst a;simp [go_sem]
 have U:W0.frozen? ⟨w.heap.size+1,0,none⟩=false:=by subst a;simp [go_sem]
 have X:W0.cell? ⟨w.heap.size+1,1,none⟩=some (.slice A' n' c'):=by subst a;simp [go_sem]
 have O:W0.frozen? ⟨w.heap.size+1,1,none⟩=false:=by subst a;simp [go_sem]
 have ao:W0.cell? ⟨w.heap.size+1+1,0,none⟩=some (.bool false):=by subst a;simp [go_sem]
 have ab:W0.frozen? ⟨w.heap.size+1+1,0,none⟩=false:=by subst a;simp [go_sem]
 have al:W0.cell? ⟨w.heap.size+1+1,1,none⟩=some (.slice none 0 0):=by subst a;simp [go_sem]
 have H:W0.frozen? ⟨w.heap.size+1+1,1,none⟩=false:=by subst a;simp [go_sem]
 have x0:Box W0 w.heap.size 134:=by subst a;exact ((bG _ _ _ (by simp)).alloc _).alloc _
 have x1:Box W0 (w.heap.size+1) 134:=by subst a;exact (bG _ _ _ (by simp)).alloc _
 have P:Box W0 (w.heap.size+1+1) 134:=by subst a;exact bG _ _ _ (by simp)
 have E:ji (w.heap.size+1+1) (w.heap.size+1+1+1) 2 W0:=by subst a;exact lu (by simp)
 have j:w.heap.size+1+1+1<=W0.heap.size:=by subst a;simp
 clear a;have f:=f.belw b0;have d:=d.belw b0;have M:Below W0.heap.size W0 W0:=ae _;have h:w.heap.size+1+1<=w.heap.size+1+1+1:=by omega
 go_region_held3 (fun S=>Sees (w.heap.size+1+1) W0 S) (first | exact Sees.of (Nat.le_trans h j) (by assumption) | exact Sees.of (Nat.le_trans h j) (af (by assumption) _) | exact (Sees.set (Sees.of (Nat.le_trans h j) (by assumption)) (by simp)) | exact (Sees.set (Sees.set (Sees.of (Nat.le_trans h j) (by assumption)) (by simp)) (by simp)))
  (first
   | (go_at_call 160;(with_reducible refine (dD _ b A n c l ?_ ?_).mono ?_);(exact f);(omega);rintro e w1 ⟨rfl,o⟩;replace o:=aj (af (ae _) 1) o;have T:=aj M o;replace f:=f.belw o;replace d:=d.belw o)
   | (go_at_call 160;(with_reducible refine (dD _ i A' n' c' l' ?_ ?_).mono ?_);(exact d);(omega);rintro e w2 ⟨rfl,t⟩;have r2:=aj T t;replace f:=f.belw t;replace d:=d.belw t)
   | (go_at_call 159;(with_reducible refine (dc _ b A n c l ?_ ?_).mono ?_);(exact f);(omega);rintro e w3 ⟨K,n1,c1,rfl,p,u⟩;have I:=aj r2 u;replace f:=f.belw u;replace d:=d.belw u)
   | (go_at_call 159;(with_reducible refine (dc _ i A' n' c' l' ?_ ?_).mono ?_);(exact d);(omega);rintro e w4 ⟨A2,W,c2,rfl,r,q⟩;have V:=aj I q;replace f:=f.belw q;replace d:=d.belw q;replace p:=p.belw q)
   | (go_at_call 221;(with_reducible refine (vR _ K n1 c1 (WD.m ⟨b,l⟩) ?_ ?_ A2 W c2 (WD.m ⟨i,l'⟩) ?_ ?_).mono ?_);(exact p);(exact Nat.le_trans (p.m_len (by rw [<- F.out];exact G)) (by decide));(exact r);(exact Nat.le_trans (r.m_len (by rw [<- B.out];exact y)) (by decide));rintro e w5 ⟨Q,J,c3,rfl,C,k⟩;have Z:=aj V k;replace f:=f.belw k;replace d:=d.belw k;replace p:=p.belw k;replace r:=r.belw k)
   | (go_at_call 129;(with_reducible refine (de _ (!(WD.s ⟨b,l⟩==WD.s ⟨i,l'⟩)) Q J c3 (ap (val (WD.m ⟨b,l⟩)*val (WD.m ⟨i,l'⟩))) (WD.z ⟨b,l⟩*WD.z ⟨i,l'⟩) ?_ ?_ ?_).mono ?_);(exact C);(rw [C.2.1];exact oi p r (Nat.le_trans (Nat.add_le_add (p.m_len (by rw [<- F.out];exact G)) (r.m_len (by rw [<- B.out];exact y))) (by decide)));(rw [ah];exact (Cu _ _).symm);rintro e w6 ⟨A4,n4,c4,rfl,L,g⟩;have D:=aj Z g;replace f:=f.belw g;replace d:=d.belw g;replace p:=p.belw g;replace r:=r.belw g;replace C:=C.belw g;obtain ⟨⟨sc,sf⟩,Y,sz⟩:=ba.of (by omega) j E D))
 clear h;go_wp2_with fail;refine bodyPost_ret (v:=.agg #[.bool _,.slice A4 n4 c4]) (by simp [results,Tryz.results198,go_sem,Y];rfl) rfl ?_;have x:=P.below D;refine gR ?_ ?_ ?_
 ·rfl
 ·exact L.keep (kp2 x (by decide) _ _ _ _)
 exact ((b0.trans (D.mono b0.size)).setCell (by dsimp only;omega) _).setCell (by dsimp only;omega) _
theorem pL (w:World) (b A n c z k) (h:IZ w b A n c z k) (b' A' n' c' z' k') (f:IZ w b' A' n' c' z' k') (p:k+k'<=1000000000):Calls Tryz.prog 198 #[.agg #[.bool b,.slice A n c],.agg #[.bool b',.slice A' n' c']] w (jj w (z*z') (k+k')):=by
 have o:=h.lt;have a:=f.lt;obtain ⟨l,j,rfl,q⟩:=h;obtain ⟨g,d,rfl,m⟩:=f;exact (BG w b A n c l j (by omega) b' A' n' c' g d (by omega)).mono fun _ _ r=>r.i (cP o a)
def ER (ops:Array Oper) (fr:(Nat->Value)->Act) (R:Nat->Value->World->Prop) (W:World) (L:Array Bool) (a:Act) (w:World):Prop :=
  ∃ x,a=fr x/\Below W.heap.size W w/\(∀ i,L.getD i false=true->R i (x i) w) /\
  (∀ i o,ops[i]?=some o->L.getD i false=true->∀ e∈o.after,Region.binds .any e=true->L.getD e.on false=true)
section
variable {P:Program}{ops:Array Oper}{Q:Exit->Act->World->Prop}{fr:(Nat->Value)->Act}{R:Nat->Value->World->Prop}{id:Nat}{w:World}{x0:Nat->Value}
theorem fS {L:Array Bool}{i:Nat}{o:Oper}(g:i<L.size) (m:ops[i]?=some o) (c:∀ e∈o.after,Region.binds .any e=true->L.getD e.on false=true)
 (j:∀ i o,ops[i]?=some o->L.getD i false=true->∀ e∈o.after,Region.binds .any e=true->L.getD e.on false=true) :
 ∀ b f,ops[b]?=some f->(L.setIfInBounds i true).getD b false=true->∀ e∈f.after,Region.binds .any e=true->(L.setIfInBounds i true).getD e.on false=true:=by
 intro b f a l e k d;rw [av g] at l ⊢;by_cases h:b=i
 ·subst h;rw [m] at a;injection a with a;subst a
  rw [c e k d];simp
 have:L.getD b false=true:=by simpa [h] using l
 rw [j b f a this e k d];simp
def rF (P:Program) (ops:Array Oper) (Q:Exit->Act->World->Prop) (fr:(Nat->Value)->Act) (R:Nat->Value->World->Prop) (w:World) (i:Nat) (o:Oper):Prop :=
  ∀ x wq,Below w.heap.size w wq->(∀ e∈o.after,Region.binds .any e=true->R e.on (x e.on) wq)->∀ K':Act->World->Prop,Shut (∀ v w',R i v w'->Below wq.heap.size wq w'->K' ((fr x).put o.dst v) w') ->
      if Region.wanted o (yielded ops (fr x).tmps)=true then Oper.wp P o (fr x) wq K' Q else K' ((fr x).put o.dst undef) wq
theorem mL (I:P.follows .mixedOrders=true)
 (s:∀ i o,ops[i]?=some o->∀ x v,(fr x).put o.dst v=fr (upd x i v))
 (A:∀ i o,ops[i]?=some o->∀ e∈o.after,Region.binds .any e=true->e.on<i)
 (J:∀ i v w b,R i v w->Below w.heap.size w b->R i v b)
 (d:∀ i o,ops[i]?=some o->rF P ops Q fr R w i o)
 (m:∀ x b,Below w.heap.size w b->(∀ i,i<ops.size->R i (x i) b)->Q .normal (fr x) b) :
 (Code.region id ops true).wp P Q (fr x0) w:=by
 refine wp_region_any I (fO (fun L a b=>ER ops fr R w L a b) ?_ ?_ _ _ _ _ (by simp) ?_ ?_)
 ·rintro L a t i H k ⟨x,rfl,hb,y,r⟩
  obtain ⟨p,o,u,c⟩:=mem_ready.1 k
  have l:i<L.size:=by
   rcases Nat.lt_or_ge i L.size with h | h
   ·exact h
   rw [Array.getD_eq_getD_getElem?,Array.getElem?_eq_none h] at p;cases p
  have q:∀ e∈o.after,Region.binds .any e=true->R e.on (x e.on) t:=fun e C g=>y _ (c e C g)
  refine wpOp_step u fun K F=>?_
  refine d i o u x t hb q K (fun v b z n=>F _ _ ?_);refine ⟨upd x i v,s i o u x v,hb.trans (n.mono hb.size),fun j D=>?_,fS l u c r⟩;by_cases h:j=i
  ·subst h;rw [dR];exact z
  rw [bD _ _ h];rw [av l] at D;exact J _ _ _ _ (y j (by simpa [h] using D)) n
 ·rintro L a t H B ⟨x,rfl,hb,y,r⟩
  have f:∀ i,i<ops.size->L.getD i false=true:=by
   intro i
   induction i using Nat.strongRecOn with
   | ind i ih =>
    intro k;cases h:L.getD i false
    ·exfalso
     have:i∈Region.ready .any ops L:=by
      refine mem_ready.2 ⟨?_,ops[i],Array.getElem?_eq_getElem k,fun e C g=>?_⟩
      ·rw [Array.getD_eq_getD_getElem?,Array.getElem?_eq_getElem (by omega)] at h ⊢;exact h
      have E:=A i _ (Array.getElem?_eq_getElem k) e C g;exact ih e.on E (by omega)
     rw [B] at this;cases this
    rfl
  exact m x t hb (fun i k=>y i (f i k))
 ·simp
 ·have G:∀ j,(Array.replicate ops.size false).getD j false=false:=by
   intro j;rw [Array.getD_eq_getD_getElem?,Array.getElem?_replicate];split <;> rfl
  refine ⟨x0,rfl,(Below.refl w.heap.size w).drew,fun i h=>?_,fun i o _ h=>?_⟩ <;> rw [G] at h <;> cases h
def yU (l:List Oper) (n:Nat):Bool:=(List.range n).all fun j=>(List.range (n+1)).any fun k=>decide (j<k)&&match l[k]? with | some o=>o.after.any (fun e=>Region.binds .any e&&e.on==j) | none=>false
theorem eU {l:List Oper}{n j:Nat}(h:yU l n=true) (i:j<n):∃ k o,j<k/\k<=n/\(l.toArray)[k]?=some o/\∃ e∈o.after,Region.binds .any e=true/\e.on=j:=by
 unfold yU at h;rw [List.all_eq_true] at h;have d:=h j (List.mem_range.2 i);rw [List.any_eq_true] at d;obtain ⟨k,f,a⟩:=d;rw [Bool.and_eq_true,decide_eq_true_eq] at a;obtain ⟨c,a⟩:=a
 cases hl:l[k]? with
 | none=>rw [hl] at a;cases a
 | some o =>
  rw [hl] at a;obtain ⟨e,g,b⟩:=Array.any_eq_true'.1 a;rw [Bool.and_eq_true] at b;exact ⟨k,o,c,by have:=List.mem_range.1 f;omega,by simpa using hl,e,g,b.1,by simpa using b.2⟩
theorem fF {n:Nat}(W:P.follows .mixedOrders=true) (hn:ops.size=n+1)
 (K:∀ i o,ops[i]?=some o->i<n->∀ x v,(fr x).put o.dst v=fr (upd x i v))
 (U:∀ i o,ops[i]?=some o->∀ e∈o.after,Region.binds .any e=true->e.on<i)
 (hR:∀ i v w l,R i v w->Below w.heap.size w l->R i v l)
 (p:∀ j,j<n->∃ k o,j<k/\k<=n/\ops[k]?=some o/\∃ e∈o.after,Region.binds .any e=true/\e.on=j)
 (B:∀ i o,ops[i]?=some o->i<n->rF P ops Q fr R w i o)
 (u:∀ o,ops[n]?=some o->∀ x wq,Below w.heap.size w wq->(∀ j,j<n->R j (x j) wq)->∀ F:Act->World->Prop,Shut (∀ a' l,Q .normal a' l->F a' l) ->
  if Region.wanted o (yielded ops (fr x).tmps)=true then Oper.wp P o (fr x) wq F Q else F ((fr x).put o.dst undef) wq) :
 (Code.region id ops true).wp P Q (fr x0) w:=by
 refine wp_region_any W (fO (fun L a l=>(L.getD n false=false/\ER ops fr R w L a l)\/((∀ i,i<ops.size->L.getD i false=true)/\Q .normal a l)) ?_ ?_ _ _ _ _ (by simp) ?_ ?_)
 ·rintro L a N i hs M t
  obtain ⟨q,o,D,f⟩:=mem_ready.1 M
  have c:i<L.size:=by
   rcases Nat.lt_or_ge i L.size with h | h
   ·exact h
   rw [Array.getD_eq_getD_getElem?,Array.getElem?_eq_none h] at q;cases q
  have I:L.getD i false=false:=by
   rw [Array.getD_eq_getD_getElem?,Array.getElem?_eq_getElem c] at q ⊢;exact q
  rcases t with ⟨A,x,rfl,hb,O,C⟩ | ⟨y,_⟩
  ·have J:∀ e∈o.after,Region.binds .any e=true->R e.on (x e.on) N:=fun e E b=>O _ (f e E b)
   refine wpOp_step D fun F Y=>?_
   rcases Nat.lt_or_ge i n with z | z
   ·refine B i o D z x N hb J F (fun v l T H=>Y _ _ (Or.inl ⟨?_,?_⟩))
    ·rw [av c,A];simp;omega
    refine ⟨upd x i v,K i o D z x v,hb.trans (H.mono hb.size),fun j r=>?_,fS c D f C⟩;by_cases h:j=i
    ·subst h;rw [dR];exact T
    rw [bD _ _ h];rw [av c] at r;exact hR _ _ _ _ (O j (by simpa [h] using r)) H
   have e:i=n:=by omega
   subst e
   have g:∀ m j,j<i->i-j<=m->L.getD j false=true:=by
    intro m
    induction m with
    | zero=>intro j r W;omega
    | succ m ih =>
     intro j r W;obtain ⟨k,o',ab,hk,d,e,E,b,G⟩:=p j r;rcases Nat.lt_or_ge k i with h | h
     ·rw [<- G];exact C k o' d (ih k h (by omega)) e E b
     have Z:k=i:=by omega
     subst Z;rw [D] at d;injection d with d;subst d;rw [<- G];exact f e E b
   refine u o D x N hb (fun j r=>O j (g (i-j) j r Qr)) F (fun a' l V=>Y _ _ (Or.inr ⟨fun j r=>?_,V⟩));rw [av c];by_cases h:j=i
   ·simp [h]
   rw [g (i-j) j (by omega) Qr];simp
  have:=y i (by omega);rw [I] at this;cases this
 ·rintro L a N hs S (⟨A,x,rfl,hb,O,C⟩ | ⟨_,V⟩)
  ·have s:∀ i,i<ops.size->L.getD i false=true:=by
    intro i
    induction i using Nat.strongRecOn with
    | ind i ih =>
     intro M;cases h:L.getD i false
     ·exfalso
      have:i∈Region.ready .any ops L:=by
       refine mem_ready.2 ⟨?_,ops[i],Array.getElem?_eq_getElem M,fun e E b=>?_⟩
       ·rw [Array.getD_eq_getD_getElem?,Array.getElem?_eq_getElem (by omega)] at h ⊢;exact h
       have h1:=U i _ (Array.getElem?_eq_getElem M) e E b;exact ih e.on h1 (by omega)
      rw [S] at this;cases this
     rfl
   have:=s n (by omega);rw [A] at this;cases this
  exact V
 ·simp
 ·have X:∀ j,(Array.replicate ops.size false).getD j false=false:=by
   intro j;rw [Array.getD_eq_getD_getElem?,Array.getElem?_replicate];split <;> rfl
  refine Or.inl ⟨X n,x0,rfl,(Below.refl w.heap.size w).drew,fun i h=>?_,fun i o _ h=>?_⟩ <;> rw [X] at h <;> cases h
end
def Grw (p:Value->World->Prop):Prop:=∀ v w w',p v w->Below w.heap.size w w'->p v w'
def gy:List (Value->World->Prop)->Prop
  | []=>True
  | p::l=>Grw p/\gy l
theorem gy.get:∀ (l:List (Value->World->Prop)),gy l->∀ i v w a,l.getD i (fun _ _=>True) v w->Below w.heap.size w a->l.getD i (fun _ _=>True) v a:=by
 intro l
 induction l with
 | nil=>intro _ i v w a _ _;simp
 | cons p l ih =>
  intro h i v w a b c
  cases i with
  | zero=>exact h.1 v w a b c
  | succ i=>exact ih h.2 i v w a b c
theorem gEq (u:Value):Grw (PEq u):=fun _ _ _ h _=>h
theorem lF:Grw fi:=fun _ _ _ h _=>h
theorem gQ (q:Rat) (k:Nat):Grw (VQ q k):=fun _ _ _ ⟨b,A,n,c,D,m,e,d,h⟩ a=>⟨b,A,n,c,D,m,e,d,h.belw a⟩
def VIv (z:Int) (k:Nat):Value->World->Prop:=fun v w=>∃ b A n c,v=.agg #[.bool b,.slice A n c]/\IV w b A n c z k
theorem gIv (z:Int) (k:Nat):Grw (VIv z k):=fun _ _ _ ⟨b,A,n,c,a,h⟩ hb=>⟨b,A,n,c,a,h.belw hb⟩
theorem pM {w a:World}{g:Nat}{b:Bool}{A D:Option Addr}{n c m e:Nat}{q:Rat}{k:Nat}(r:Blk a g 54 #[.bool false,.slice none 0 0,.slice none 0 0]) (f:Below w.heap.size w a) (d:w.heap.size<=g) (h:QV a b A n c D m e q k):pw w q k (.returned (.agg #[.bool b,.slice A n c,.slice D m e])) (((a.setCell ⟨g,0,none⟩ (.bool b)).setCell ⟨g,1,none⟩ (.slice A n c)).setCell ⟨g,2,none⟩ (.slice D m e)) :=
 ⟨_,_,_,_,_,_,_,rfl,h.keep (r.k3 (by decide) _ _ _),((f.setCell (p:=⟨g,0,none⟩) d _).setCell (p:=⟨g,1,none⟩) d _).setCell (p:=⟨g,2,none⟩) d _⟩
abbrev frA (u0 u1 u2 u3 u4 u5 u6 u7 u8 u9 u10 u11 u12 u13 u14 u15 u16 u17 u18:Value) (xf:Nat->Value):Act:=⟨List.toArray (u0::u1::u2::u3::u4::u5::u6::u7::u8::u9::u10::u11::u12::u13::u14::u15::u16::u17::u18::xf 0::xf 1::xf 2::xf 3::xf 4::xf 5::xf 6::xf 7::xf 8::xf 9::xf 10::[]),[]⟩
abbrev frC (u0 u1 u2 u3 u5 u6 u7 u8 u9 u10 u11 u12 u13 u14 u15 u16 u17 u18:Value) (xf:Nat->Value):Act:=⟨List.toArray (u0::u1::u2::u3::xf 7::u5::u6::u7::u8::u9::u10::u11::u12::u13::u14::u15::u16::u17::u18::xf 0::xf 1::xf 2::xf 3::xf 4::xf 5::xf 6::[]),[]⟩
theorem ut (F:FuncId) (hF:F=60\/F=168) (w:World) (b A n c D m e q k) (h:QZ w b A n c D m e q k) (b' A' n' c' D' m' e' q' k') (E:QZ w b' A' n' c' D' m' e' q' k') (h0:0<k) (hk:k<=40000000) (N:0<k') (aT:k'<=40000000):Calls Tryz.prog F #[.agg #[.bool b,.slice A n c,.slice D m e],.agg #[.bool b',.slice A' n' c',.slice D' m' e']] w (pw w (q+q') (k+k'+1)):=by
 have HS:=Qh (h.sz h0);have ad:=Qh (E.sz N);rcases hF with rfl | rfl
 all_goals
  first
  | (go_in)
  | (go_in)
  go_upto_region 1 with fail;refine cQ ?_;intro w1 ac;have l:B3 w w.heap.size 54 #[.bool b,.slice A n c,.slice D m e] 54 #[.bool b',.slice A' n' c',.slice D' m' e'] 54 #[.bool false,.slice none 0 0,.slice none 0 0] w1:=by rw [ac];exact ⟨((Blk.new w _ _).alloc _).alloc _,(ak _ _ _ (by simp)).alloc _,ak _ _ _ (by simp),(((ae w).alloc Qr _).alloc (by simp) _).alloc (by simp <;> omega) _⟩
  replace h:=h.belw l.q;replace E:=E.belw l.q;clear ac;have y:=l.s.v3;go_wp2_with fail
  (first | refine (iJ _ b A n c D m e q k h h0 (by omega)).mono ?_ | refine (lM _ b A n c D m e q k h h0 (by omega)).mono ?_);rintro W w2 ⟨b1,A1,n1,c1,P,S,M,c2,rfl,Z,V,L⟩
  replace l:=l.call L;replace E:=E.belw L;clear L y;go_upto_region 2 with fail;refine cQ ?_;intro w3 I;have q3:Below w2.heap.size w2 w3:=by rw [I];exact ((ae w2).alloc Qr _).alloc (by simp) _
  have Y:Blk w3 w2.heap.size 134 #[.bool b1,.slice A1 n1 c1]:=by rw [I];exact (Blk.new w2 _ _).alloc _
  have T:Blk w3 (w2.heap.size+1) 134 #[.bool P,.slice S M c2]:=by rw [I];exact ak _ _ _ (by simp)
  replace l:=l.call q3;replace E:=E.belw q3;replace Z:=Z.belw q3;replace V:=V.belw q3;clear I q3;have y:=l.t.v3;go_wp2_with fail
  (first | refine (iJ _ b' A' n' c' D' m' e' q' k' E N (by omega)).mono ?_ | refine (lM _ b' A' n' c' D' m' e' q' k' E N (by omega)).mono ?_);rintro W U ⟨b3,A3,n3,c3,Q,O,n4,c4,rfl,h3,h4,p⟩
  replace l:=l.call p;replace Z:=Z.belw p;replace V:=V.belw p;replace Y:=Y.b p;replace T:=T.b p;clear p y;go_upto_region 3 with fail;refine cQ ?_;intro w5 G;have J:Below U.heap.size U w5:=by rw [G];exact ((ae U).alloc Qr _).alloc (by simp) _
  have x3:Blk w5 U.heap.size 134 #[.bool b3,.slice A3 n3 c3]:=by rw [G];exact (Blk.new U _ _).alloc _
  have x4:Blk w5 (U.heap.size+1) 134 #[.bool Q,.slice O n4 c4]:=by rw [G];exact ak _ _ _ (by simp)
  replace l:=l.call J;replace Y:=Y.b J;replace T:=T.b J;have H:=Qh (And.intro (Z.belw J) (And.intro (V.belw J) (And.intro (h3.belw J) (h4.belw J))));have X:=Qh (And.intro Y (And.intro T (And.intro x3 x4)));have K1:=Qh l;clear G J Z V h3 h4 h E Y T x3 x4 l;change Code.wp _ _ _ (frA _ _ _ _ _ _ _ _ _ _ _ _ _ _ _ _ _ _ _ (fun _=>undef)) _;refine fF (n:=11) (x0:=(fun _=>undef)) (R:=fun ri=>List.getD ((PEq (.agg #[.bool b1,.slice A1 n1 c1]))::(PEq (.agg #[.bool Q,.slice O n4 c4]))::(VIv (q.num*(q'.den:Int)) (k+k'))::(PEq (.agg #[.bool b3,.slice A3 n3 c3]))::(PEq (.agg #[.bool P,.slice S M c2]))::(VIv (q'.num*(q.den:Int)) (k'+k))::(VIv (q.num*(q'.den:Int)+q'.num*(q.den:Int)) ((k+k')+(k'+k)+1))::(PEq (.agg #[.bool P,.slice S M c2]))::(PEq (.agg #[.bool Q,.slice O n4 c4]))::(VIv ((q.den:Int)*(q'.den:Int)) (k+k'))::(VQ (q+q') (k+k'+1))::[]) ri (fun _ _=>True)) (by kernel_rfl) rfl (aw ⟨(fun _ _ _=>rfl),(fun _ _ _=>rfl),(fun _ _ _=>rfl),(fun _ _ _=>rfl),(fun _ _ _=>rfl),(fun _ _ _=>rfl),(fun _ _ _=>rfl),(fun _ _ _=>rfl),(fun _ _ _=>rfl),(fun _ _ _=>rfl),(fun _ _ _=>rfl),(fun h=>absurd h (by decide)),trivial⟩) (aw (bF _ 0 (by kernel_rfl))) (gy.get _ ⟨gEq _,gEq _,(gIv _ _),gEq _,gEq _,(gIv _ _),(gIv _ _),gEq _,gEq _,(gIv _ _),(gQ _ _),trivial⟩) (fun j hj=>eU (by kernel_rfl) hj) (aw ⟨?_,?_,?_,?_,?_,?_,?_,?_,?_,?_,?_,(fun h=>absurd h (by decide)),trivial⟩) ?_;intro _ f a hb hd K i;have z:=X.out.1.below hb X.out.1.lt;obtain ⟨y0,y1⟩:=z.c2;rotate_left;intro _ f a hb hd K i;have z:=X.out.2.2.2.below hb X.out.2.2.2.lt;obtain ⟨y0,y1⟩:=z.c2;rotate_left
  ·intro _ f a hb hd K i
   have ab:f 0=_:=hd ⟨0,.data⟩ (by simp) rfl;have aC:f 1=_:=hd ⟨1,.data⟩ (by simp) rfl;(try dsimp only [frA]);(try simp only [ab,aC]);go_simp
   first
   | (go_at_call 100;(with_reducible refine (qS a b1 A1 n1 c1 q.num k (H.out.1.belw hb).iz Q O n4 c4 (q'.den:Int) k' (H.out.2.2.2.belw hb).iz (by omega)).mono ?_))
   | (go_at_call 198;(with_reducible refine (pL a b1 A1 n1 c1 q.num k (H.out.1.belw hb).iz Q O n4 c4 (q'.den:Int) k' (H.out.2.2.2.belw hb).iz (by omega)).mono ?_))
   rintro W wr ⟨x,B,n9,u,rfl,C,g⟩;have d:=i.out _ _ ⟨x,B,n9,u,rfl,C⟩ g;dsimp only [frA] at d;simp only [ab,aC] at d;exact d
  intro _ f a hb hd K i;have z:=X.out.2.2.1.below hb X.out.2.2.1.lt;obtain ⟨y0,y1⟩:=z.c2;rotate_left;intro _ f a hb hd K i;have z:=X.out.2.1.below hb X.out.2.1.lt;obtain ⟨y0,y1⟩:=z.c2;rotate_left
  ·intro _ f a hb hd K i
   have ao:f 3=_:=hd ⟨3,.data⟩ (by simp) rfl;have an:f 4=_:=hd ⟨4,.data⟩ (by simp) rfl;(try dsimp only [frA]);(try simp only [ao,an]);go_simp
   first
   | (go_at_call 100;(with_reducible refine (qS a b3 A3 n3 c3 q'.num k' (H.out.2.2.1.belw hb).iz P S M c2 (q.den:Int) k (H.out.2.1.belw hb).iz (by omega)).mono ?_))
   | (go_at_call 198;(with_reducible refine (pL a b3 A3 n3 c3 q'.num k' (H.out.2.2.1.belw hb).iz P S M c2 (q.den:Int) k (H.out.2.1.belw hb).iz (by omega)).mono ?_))
   rintro W wr ⟨x,B,n9,u,rfl,C,g⟩;have d:=i.out _ _ ⟨x,B,n9,u,rfl,C⟩ g;dsimp only [frA] at d;simp only [ao,an] at d;exact d
  ·intro _ f a hb hd K i
   obtain ⟨b5,A5,n5,c5,e5,h5⟩:VIv (q.num*(q'.den:Int)) (k+k') (f 2) a:=hd ⟨2,.data⟩ (by simp) rfl;obtain ⟨b6,A6,n6,c6,e6,h6⟩:VIv (q'.num*(q.den:Int)) (k'+k) (f 5) a:=hd ⟨5,.data⟩ (by simp) rfl;(try dsimp only [frA]);(try simp only [e5,e6]);go_simp
   first
   | (go_at_call 99;(with_reducible refine (EG a b5 A5 n5 c5 (q.num*(q'.den:Int)) (k+k') h5.iz b6 A6 n6 c6 (q'.num*(q.den:Int)) (k'+k) h6.iz (by omega)).mono ?_))
   | (go_at_call 197;(with_reducible refine (uh a b5 A5 n5 c5 (q.num*(q'.den:Int)) (k+k') h5.iz b6 A6 n6 c6 (q'.num*(q.den:Int)) (k'+k) h6.iz (by omega)).mono ?_))
   rintro W wr ⟨x,B,n9,u,rfl,C,g⟩;have d:=i.out _ _ ⟨x,B,n9,u,rfl,C⟩ g;dsimp only [frA] at d;simp only [e5,e6] at d;exact d
  intro _ f a hb hd K i;have z:=X.out.2.1.below hb X.out.2.1.lt;obtain ⟨y0,y1⟩:=z.c2;rotate_left;intro _ f a hb hd K i;have z:=X.out.2.2.2.below hb X.out.2.2.2.lt;obtain ⟨y0,y1⟩:=z.c2;rotate_left
  ·intro _ f a hb hd K i
   have aS:f 7=_:=hd ⟨7,.data⟩ (by simp) rfl;have al:f 8=_:=hd ⟨8,.data⟩ (by simp) rfl;(try dsimp only [frA]);(try simp only [aS,al]);go_simp
   first
   | (go_at_call 100;(with_reducible refine (qS a P S M c2 (q.den:Int) k (H.out.2.1.belw hb).iz Q O n4 c4 (q'.den:Int) k' (H.out.2.2.2.belw hb).iz (by omega)).mono ?_))
   | (go_at_call 198;(with_reducible refine (pL a P S M c2 (q.den:Int) k (H.out.2.1.belw hb).iz Q O n4 c4 (q'.den:Int) k' (H.out.2.2.2.belw hb).iz (by omega)).mono ?_))
   rintro W wr ⟨x,B,n9,u,rfl,C,g⟩;have d:=i.out _ _ ⟨x,B,n9,u,rfl,C⟩ g;dsimp only [frA] at d;simp only [aS,al] at d;exact d
  ·intro _ f a hb hd K i
   obtain ⟨b5,A5,n5,c5,e5,h5⟩:VIv (q.num*(q'.den:Int)+q'.num*(q.den:Int)) ((k+k')+(k'+k)+1) (f 6) a:=hd ⟨6,.data⟩ (by simp) rfl;obtain ⟨b6,A6,n6,c6,e6,h6⟩:VIv ((q.den:Int)*(q'.den:Int)) (k+k') (f 9) a:=hd ⟨9,.data⟩ (by simp) rfl;(try dsimp only [frA]);(try simp only [e5,e6]);go_simp
   first
   | (go_at_call 98;(with_reducible refine (yi a b5 A5 n5 c5 (q.num*(q'.den:Int)+q'.num*(q.den:Int)) ((k+k')+(k'+k)+1) h5.iz b6 A6 n6 c6 ((q.den:Int)*(q'.den:Int)) (k+k') h6.iz (q+q') (k+k'+1) (Int.mul_ne_zero (gn _) (gn _)) (xC _ _).symm (xD HS.out ad.out) (by omega)).mono ?_))
   | (go_at_call 86;(with_reducible refine (tl a b5 A5 n5 c5 (q.num*(q'.den:Int)+q'.num*(q.den:Int)) ((k+k')+(k'+k)+1) h5.iz b6 A6 n6 c6 ((q.den:Int)*(q'.den:Int)) (k+k') h6.iz (q+q') (k+k'+1) (Int.mul_ne_zero (gn _) (gn _)) (xC _ _).symm (xD HS.out ad.out) (by omega)).mono ?_))
   rintro W wr ⟨x,B,n9,u,D9,m9,f9,rfl,C,g⟩;have d:=i.out _ _ ⟨x,B,n9,u,D9,m9,f9,rfl,C⟩ g;dsimp only [frA] at d;simp only [e5,e6] at d;exact d
  ·intro o ho f a hb hr K i
   injection ho with ho;subst ho;obtain ⟨x,B,n9,u,D9,m9,f9,dq,C⟩:VQ (q+q') (k+k'+1) (f 10) a:=hr 10 (by decide);have K9:=K1.out.call hb;have y:=K9.r.v3;dsimp only [frA];simp only [dq];go_simp;refine i.out _ _ ?_;have HE:=Qh (pM K9.r K9.q (show w.heap.size<=w.heap.size+1+1 by omega) C);go_wp2_with fail;refine bodyPost_ret (v:=.agg #[.bool x,.slice B n9 u,.slice D9 m9 f9]) (by simp [results,Tryz.results60,Tryz.results168,go_sem, *] <;> trivial) rfl ?_;exact HE.out
  all_goals
   (try dsimp only [frA]);go_simp;have d:=i.out _ _ rfl (ae _);dsimp only [frA] at d;exact d
theorem Dn (w:World) (b A n c D m e q k) (h:QZ w b A n c D m e q k) (b' A' n' c' D' m' e' q' k') (g:QZ w b' A' n' c' D' m' e' q' k') (i:0<k) (f:k<=40000000) (d:0<k') (a:k'<=40000000):Calls Tryz.prog 60 #[.agg #[.bool b,.slice A n c,.slice D m e],.agg #[.bool b',.slice A' n' c',.slice D' m' e']] w (pw w (q+q') (k+k'+1)):=ut _ (.inl rfl) w b A n c D m e q k h b' A' n' c' D' m' e' q' k' g i f d a
theorem Dp (w:World) (b A n c D m e q k) (h:QZ w b A n c D m e q k) (b' A' n' c' D' m' e' q' k') (g:QZ w b' A' n' c' D' m' e' q' k') (i:0<k) (f:k<=40000000) (d:0<k') (a:k'<=40000000):Calls Tryz.prog 168 #[.agg #[.bool b,.slice A n c,.slice D m e],.agg #[.bool b',.slice A' n' c',.slice D' m' e']] w (pw w (q+q') (k+k'+1)):=ut _ (.inr rfl) w b A n c D m e q k h b' A' n' c' D' m' e' q' k' g i f d a
theorem tw2 {W w a:World}{g t:Nat}{c0 c1:Array Value}(h:Blk w g t c0/\Blk w (g+1) t c1/\Below g W w) (hb:Below w.heap.size w a):Blk a g t c0/\Blk a (g+1) t c1/\Below g W a:=⟨h.1.below hb h.1.lt,h.2.1.below hb h.2.1.lt,h.2.2.trans (hb.mono (by have:=h.1.lt;omega))⟩
theorem Dq (w:World) (b A n c D m e q k) (h:QZ w b A n c D m e q k) (b' A' n' c' D' m' e' q' k') (s:QZ w b' A' n' c' D' m' e' q' k') (h0:0<k) (hk:k<=40000000) (W:0<k') (ac:k'<=40000000):Calls Tryz.prog 138 #[.agg #[.bool b,.slice A n c,.slice D m e],.agg #[.bool b',.slice A' n' c',.slice D' m' e']] w (ax w (.int .i64 (da (q.num*q'.den) (q'.num*q.den)))):=by
 go_in;go_upto_region 1 with fail;refine cQ ?_;intro Y L;have f:Blk Y w.heap.size 54 #[.bool b,.slice A n c,.slice D m e]/\Blk Y (w.heap.size+1) 54 #[.bool b',.slice A' n' c',.slice D' m' e']/\Below w.heap.size w Y:=by rw [L];exact ⟨(Blk.new w _ _).alloc _,ak _ _ _ (by simp),((ae w).alloc Qr _).alloc (by simp) _⟩
 replace h:=h.belw f.2.2;replace s:=s.belw f.2.2;clear L;have y:=f.1.v3;go_wp2_with fail
 (first | refine (iJ _ b A n c D m e q k h h0 (by omega)).mono ?_);rintro N F ⟨Z,Q,n1,c1,b2,A2,n2,c2,rfl,E,z,v⟩
 replace f:=tw2 f v;replace s:=s.belw v;clear v y;go_upto_region 2 with fail;refine cQ ?_;intro w3 p;have q3:Below F.heap.size F w3:=by rw [p];exact ((ae F).alloc Qr _).alloc (by simp) _
 have C:Blk w3 F.heap.size 134 #[.bool Z,.slice Q n1 c1]:=by rw [p];exact (Blk.new F _ _).alloc _
 have B:Blk w3 (F.heap.size+1) 134 #[.bool b2,.slice A2 n2 c2]:=by rw [p];exact ak _ _ _ (by simp)
 replace f:=tw2 f q3;replace s:=s.belw q3;replace E:=E.belw q3;replace z:=z.belw q3;clear p q3;have y:=f.2.1.v3;go_wp2_with fail
 (first | refine (iJ _ b' A' n' c' D' m' e' q' k' s W (by omega)).mono ?_);rintro N x ⟨O,V,P,c3,b4,A4,n4,c4,rfl,h3,h4,j⟩
 replace f:=tw2 f j;replace E:=E.belw j;replace z:=z.belw j;replace C:=C.b j;replace B:=B.b j;clear j y;go_upto_region 3 with fail;refine cQ ?_;intro w5 r;have t:Below x.heap.size x w5:=by rw [r];exact ((ae x).alloc Qr _).alloc (by simp) _
 have x3:Blk w5 x.heap.size 134 #[.bool O,.slice V P c3]:=by rw [r];exact (Blk.new x _ _).alloc _
 have x4:Blk w5 (x.heap.size+1) 134 #[.bool b4,.slice A4 n4 c4]:=by rw [r];exact ak _ _ _ (by simp)
 replace f:=tw2 f t;replace C:=C.b t;replace B:=B.b t;have H:=Qh (And.intro (E.belw t) (And.intro (z.belw t) (And.intro (h3.belw t) (h4.belw t))));have X:=Qh (And.intro C (And.intro B (And.intro x3 x4)));have K1:=Qh f;clear r t E z h3 h4 h s C B x3 x4 f;change Code.wp _ _ _ (frC _ _ _ _ _ _ _ _ _ _ _ _ _ _ _ _ _ _ (fun ri=>List.getD (_::_::_::_::_::_::_::_::[]) ri undef)) _;refine mL (x0:=_) (R:=fun ri=>List.getD ((PEq (.agg #[.bool Z,.slice Q n1 c1]))::(PEq (.agg #[.bool b4,.slice A4 n4 c4]))::(VIv (q.num*(q'.den:Int)) (k+k'))::(PEq (.agg #[.bool O,.slice V P c3]))::(PEq (.agg #[.bool b2,.slice A2 n2 c2]))::(VIv (q'.num*(q.den:Int)) (k'+k))::(PEq (.int .i64 (da (q.num*(q'.den:Int)) (q'.num*(q.den:Int)))))::(PEq (.int .i64 (da (q.num*(q'.den:Int)) (q'.num*(q.den:Int)))))::[]) ri (fun _ _=>True)) (by kernel_rfl) (aw ⟨fun _ _=>rfl,fun _ _=>rfl,fun _ _=>rfl,fun _ _=>rfl,fun _ _=>rfl,fun _ _=>rfl,fun _ _=>rfl,fun _ _=>rfl,trivial⟩) (aw (bF _ 0 (by kernel_rfl))) (gy.get _ ⟨gEq _,gEq _,(gIv _ _),gEq _,gEq _,(gIv _ _),gEq _,gEq _,trivial⟩) (aw ⟨?_,?_,?_,?_,?_,?_,?_,?_,trivial⟩) ?_;intro a i hb hd K l;have u:=X.out.1.below hb X.out.1.lt;obtain ⟨U,y1⟩:=u.c2;have g:=trivial;rotate_left;intro a i hb hd K l;have u:=X.out.2.2.2.below hb X.out.2.2.2.lt;obtain ⟨U,y1⟩:=u.c2;have g:=trivial;rotate_left
 ·intro a i hb hd K l
  have G:a 0=_:=hd ⟨0,.data⟩ (by simp) rfl;have M:a 1=_:=hd ⟨1,.data⟩ (by simp) rfl;(try dsimp only [frC]);(try simp only [G,M]);go_simp
  first
  | (go_at_call 100;(with_reducible refine (qS i Z Q n1 c1 q.num k (H.out.1.belw hb).iz b4 A4 n4 c4 (q'.den:Int) k' (H.out.2.2.2.belw hb).iz (by omega)).mono ?_))
  rintro N wr ⟨T,A9,n9,S,rfl,h9,o⟩;have d:=l.out _ _ ⟨T,A9,n9,S,rfl,h9⟩ o;dsimp only [frC] at d;simp only [G,M] at d;exact d
 intro a i hb hd K l;have u:=X.out.2.2.1.below hb X.out.2.2.1.lt;obtain ⟨U,y1⟩:=u.c2;have g:=trivial;rotate_left;intro a i hb hd K l;have u:=X.out.2.1.below hb X.out.2.1.lt;obtain ⟨U,y1⟩:=u.c2;have g:=trivial;rotate_left
 ·intro a i hb hd K l
  have J:a 3=_:=hd ⟨3,.data⟩ (by simp) rfl;have I:a 4=_:=hd ⟨4,.data⟩ (by simp) rfl;(try dsimp only [frC]);(try simp only [J,I]);go_simp
  first
  | (go_at_call 100;(with_reducible refine (qS i O V P c3 q'.num k' (H.out.2.2.1.belw hb).iz b2 A2 n2 c2 (q.den:Int) k (H.out.2.1.belw hb).iz (by omega)).mono ?_))
  rintro N wr ⟨T,A9,n9,S,rfl,h9,o⟩;have d:=l.out _ _ ⟨T,A9,n9,S,rfl,h9⟩ o;dsimp only [frC] at d;simp only [J,I] at d;exact d
 ·intro a i hb hd K l
  obtain ⟨b5,A5,n5,c5,e5,h5⟩:VIv (q.num*(q'.den:Int)) (k+k') (a 2) i:=hd ⟨2,.data⟩ (by simp) rfl;obtain ⟨b6,A6,n6,c6,e6,h6⟩:VIv (q'.num*(q.den:Int)) (k'+k) (a 5) i:=hd ⟨5,.data⟩ (by simp) rfl;(try dsimp only [frC]);(try simp only [e5,e6]);go_simp
  first
  | (go_at_call 83;(with_reducible refine (ye i b5 A5 n5 c5 (q.num*(q'.den:Int)) (k+k') h5.iz b6 A6 n6 c6 (q'.num*(q.den:Int)) (k'+k) h6.iz (by omega)).mono ?_))
  rintro N wr ⟨rfl,o⟩;have d:=l.out _ _ rfl o;dsimp only [frC] at d;simp only [e5,e6] at d;exact d
 intro a i hb hd K l;have g:a 6=_:=hd ⟨6,.data⟩ (by simp) rfl;rotate_left
 ·intro a i hb hr
  have ab:a 7=.int .i64 (da (q.num*(q'.den:Int)) (q'.num*(q.den:Int))):=hr 7 (by decide);have hq:=K1.out.2.2.trans (hb.mono K1.out.2.2.size);dsimp only [frC];simp only [ab];go_wp2;go_ret;exact cM rfl hq
 all_goals
  (try dsimp only [frC]);(try simp only [g]);go_simp;have d:=l.out _ _ rfl (ae _);dsimp only [frC] at d;(try simp only [g] at d);exact d
abbrev frN (u0 u1 u2 u3 u4 u5 u6 u7 u8 u9:Value) (xf:Nat->Value):Act:=⟨List.toArray (u0::u1::u2::u3::u4::u5::u6::u7::u8::u9::xf 0::xf 1::xf 2::xf 3::[]),[]⟩
theorem Dr (w:World) (b A n c D m e q k) (h:QZ w b A n c D m e q k) (h0:0<k) (hk:k<=40000000):Calls Tryz.prog 169 #[.agg #[.bool b,.slice A n c,.slice D m e]] w (pw w (-q) k):=by
 have HS:=Qh (h.sz h0);go_in;go_upto_region 1 with fail;refine cQ ?_;intro J z;have d:Blk J w.heap.size 54 #[.bool b,.slice A n c,.slice D m e]/\Blk J (w.heap.size+1) 54 #[.bool false,.slice none 0 0,.slice none 0 0]/\Below w.heap.size w J:=by rw [z];exact ⟨(Blk.new w _ _).alloc _,ak _ _ _ (by simp),((ae w).alloc Qr _).alloc (by simp) _⟩
 replace h:=h.belw d.2.2;clear z;have y:=d.1.v3;go_wp2_with fail;(refine (lM _ b A n c D m e q k h h0 (by omega)).mono ?_);rintro Y r ⟨L,F,S,c1,P,Q,U,c2,rfl,h1,W,C⟩;replace d:=tw2 d C;clear C y;go_upto_region 2 with fail;refine cQ ?_;intro M l;have q3:Below r.heap.size r M:=by rw [l];exact ((ae r).alloc Qr _).alloc (by simp) _
 have X:Hid (Blk M r.heap.size 134 #[.bool L,.slice F S c1]/\Blk M (r.heap.size+1) 134 #[.bool P,.slice Q U c2]):=Qh (by rw [l];exact ⟨(Blk.new r _ _).alloc _,ak _ _ _ (by simp)⟩);replace d:=tw2 d q3;have H:=Qh (And.intro (h1.belw q3) (W.belw q3));have Z:=Qh d.2.1;have BW:=Qh d.2.2;clear l q3 h1 W h d;change Code.wp _ _ _ (frN _ _ _ _ _ _ _ _ _ _ (fun _=>undef)) _;refine fF (n:=4) (x0:=(fun _=>undef)) (R:=fun ri=>List.getD ((PEq (.agg #[.bool L,.slice F S c1]))::(VIv (-q.num) k)::(PEq (.agg #[.bool P,.slice Q U c2]))::(VQ (-q) k)::[]) ri (fun _ _=>True)) (by kernel_rfl) rfl (aw ⟨(fun _ _ _=>rfl),(fun _ _ _=>rfl),(fun _ _ _=>rfl),(fun _ _ _=>rfl),(fun h=>absurd h (by decide)),trivial⟩) (aw (bF _ 0 (by kernel_rfl))) (gy.get _ ⟨gEq _,(gIv _ _),gEq _,(gQ _ _),trivial⟩) (fun j hj=>eU (by kernel_rfl) hj) (aw ⟨?_,?_,?_,?_,(fun h=>absurd h (by decide)),trivial⟩) ?_;intro _ g f hb hd K i;have I:=X.out.1.below hb X.out.1.lt;obtain ⟨y0,y1⟩:=I.c2;rotate_left
 ·intro _ g f hb hd K i
  have t:g 0=_:=hd ⟨0,.data⟩ (by simp) rfl;(try dsimp only [frN]);(try simp only [t]);go_simp;go_at_call 126;refine (lL f L F S c1 q.num k (H.out.1.belw hb).iz (by omega)).mono ?_;rintro Y wr ⟨x,B,n9,u,rfl,E,p⟩;have a:=i.out _ _ ⟨x,B,n9,u,rfl,E⟩ p;dsimp only [frN] at a;simp only [t] at a;exact a
 intro _ g f hb hd K i;have I:=X.out.2.below hb X.out.2.lt;obtain ⟨y0,y1⟩:=I.c2;rotate_left
 ·intro _ g f hb hd K i
  have s:g 2=_:=hd ⟨2,.data⟩ (by simp) rfl;obtain ⟨b5,A5,n5,c5,V,h5⟩:VIv (-q.num) k (g 1) f:=hd ⟨1,.data⟩ (by simp) rfl;(try dsimp only [frN]);(try simp only [s,V]);go_simp;go_at_call 86;refine (tl f b5 A5 n5 c5 (-q.num) k h5.iz P Q U c2 (q.den:Int) k (H.out.2.belw hb).iz (-q) k (gn _) (Ep q).symm (CN HS.out) (by omega)).mono ?_;rintro Y wr ⟨x,B,n9,u,O,N,T,rfl,E,p⟩;have a:=i.out _ _ ⟨x,B,n9,u,O,N,T,rfl,E⟩ p;dsimp only [frN] at a;simp only [s,V] at a;exact a
 ·intro o G g f hb hr K i
  injection G with G;subst G;obtain ⟨x,B,n9,u,O,N,T,dq,E⟩:VQ (-q) k (g 3) f:=hr 3 (by decide);have z9:=Z.out.below hb Z.out.lt;have q9:=BW.out.trans (hb.mono BW.out.size);have y:=z9.v3;dsimp only [frN];simp only [dq];go_simp;refine i.out _ _ ?_;have HE:=Qh (pM z9 q9 (show w.heap.size<=w.heap.size+1 by omega) E);go_wp2_with fail;refine bodyPost_ret (v:=.agg #[.bool x,.slice B n9 u,.slice O N T]) (by simp [results,Tryz.results169,go_sem, *] <;> trivial) rfl ?_;exact HE.out
 all_goals
  (try dsimp only [frN]);go_simp;have a:=i.out _ _ rfl (ae _);dsimp only [frN] at a;exact a
abbrev frS (u0 u1 u2 u3 u4:Value) (xf:Nat->Value):Act:=⟨List.toArray (u0::u1::u2::u3::u4::xf 0::xf 1::xf 2::xf 3::[]),[]⟩
theorem Ds (w:World) (b A n c D m e q k) (h:QZ w b A n c D m e q k) (b' A' n' c' D' m' e' q' k') (O:QZ w b' A' n' c' D' m' e' q' k') (W:0<k) (hk:k<=40000000) (J:0<k') (ab:k'<=40000000):Calls Tryz.prog 133 #[.agg #[.bool b,.slice A n c,.slice D m e],.agg #[.bool b',.slice A' n' c',.slice D' m' e']] w (pw w (q-q') (k+k'+1)):=by
 go_in;go_upto_region 1 with fail;refine cQ ?_;intro S G;have i:B3 w w.heap.size 54 #[.bool b,.slice A n c,.slice D m e] 54 #[.bool b',.slice A' n' c',.slice D' m' e'] 54 #[.bool false,.slice none 0 0,.slice none 0 0] S:=by rw [G];exact ⟨((Blk.new w _ _).alloc _).alloc _,(ak _ _ _ (by simp)).alloc _,ak _ _ _ (by simp),(((ae w).alloc Qr _).alloc (by simp) _).alloc (by simp <;> omega) _⟩
 have H:=Qh (And.intro (h.belw i.q) (O.belw i.q));have X:=Qh (And.intro i.s i.t);have Z:=Qh i.r;have Q:=Qh i.q;clear G i h O;change Code.wp _ _ _ (frS _ _ _ _ _ (fun _=>undef)) _;refine fF (n:=4) (x0:=(fun _=>undef)) (R:=fun ri=>List.getD ((PEq (.agg #[.bool b,.slice A n c,.slice D m e]))::(PEq (.agg #[.bool b',.slice A' n' c',.slice D' m' e']))::(VQ (-q') k')::(VQ (q-q') (k+k'+1))::[]) ri (fun _ _=>True)) (by kernel_rfl) rfl (aw ⟨(fun _ _ _=>rfl),(fun _ _ _=>rfl),(fun _ _ _=>rfl),(fun _ _ _=>rfl),(fun h=>absurd h (by decide)),trivial⟩) (aw (bF _ 0 (by kernel_rfl))) (gy.get _ ⟨gEq _,gEq _,(gQ _ _),(gQ _ _),trivial⟩) (fun j hj=>eU (by kernel_rfl) hj) (aw ⟨?_,?_,?_,?_,(fun h=>absurd h (by decide)),trivial⟩) ?_;intro _ d f hb hd K g;have M:=X.out.1.below hb X.out.1.lt;obtain ⟨⟨y0,V,y2⟩,_⟩:=M.v3;rotate_left;intro _ d f hb hd K g;have M:=X.out.2.below hb X.out.2.lt;obtain ⟨⟨y0,V,y2⟩,_⟩:=M.v3;rotate_left
 ·intro _ d f hb hd K g
  have C:d 1=_:=hd ⟨1,.data⟩ (by simp) rfl;(try dsimp only [frS]);(try simp only [C]);go_simp;go_at_call 169;refine (Dr f b' A' n' c' D' m' e' q' k' (H.out.2.belw hb) J (by omega)).mono ?_;rintro Y wr ⟨E,F,n9,z,B,x,I,rfl,p,l⟩;have a:=g.out _ _ ⟨E,F,n9,z,B,x,I,rfl,p⟩ l;dsimp only [frS] at a;simp only [C] at a;exact a
 ·intro _ d f hb hd K g
  have u:d 0=_:=hd ⟨0,.data⟩ (by simp) rfl;obtain ⟨b5,A5,n5,c5,U,m5,f5,N,h5⟩:VQ (-q') k' (d 2) f:=hd ⟨2,.data⟩ (by simp) rfl;(try dsimp only [frS]);(try simp only [u,N]);go_simp;go_at_call 168;refine (Dp f b A n c D m e q k (H.out.1.belw hb) b5 A5 n5 c5 U m5 f5 (-q') k' h5.qz W (by omega) J (by omega)).mono ?_;rintro Y wr ⟨E,F,n9,z,B,x,I,rfl,p,l⟩;rw [<- Rat.sub_eq_add_neg] at p;have a:=g.out _ _ ⟨E,F,n9,z,B,x,I,rfl,p⟩ l;dsimp only [frS] at a;simp only [u,N] at a;exact a
 ·intro o L d f hb hr K g
  injection L with L;subst L;obtain ⟨E,F,n9,z,B,x,I,dq,p⟩:VQ (q-q') (k+k'+1) (d 3) f:=hr 3 (by decide);have P:=Z.out.below hb Z.out.lt;have T:=Q.out.trans (hb.mono Q.out.size);have y:=P.v3;dsimp only [frS];simp only [dq];go_simp;refine g.out _ _ ?_;have HE:=Qh (pM P T (show w.heap.size<=w.heap.size+1+1 by omega) p);go_wp2_with fail;refine bodyPost_ret (v:=.agg #[.bool E,.slice F n9 z,.slice B x I]) (by simp [results,Tryz.results133,go_sem, *] <;> trivial) rfl ?_;exact HE.out
 all_goals
  (try dsimp only [frS]);go_simp;have a:=g.out _ _ rfl (ae _);dsimp only [frS] at a;exact a
theorem Dt (w:World) (b A n c D m e q k) (h:QZ w b A n c D m e q k) (b' A' n' c' D' m' e' q' k') (i:QZ w b' A' n' c' D' m' e' q' k') (E:0<k) (F:k<=10000000) (C:0<k') (x:k'<=10000000) :
 Calls Tryz.prog 93 #[.agg #[.bool b,.slice A n c,.slice D m e],.agg #[.bool b',.slice A' n' c',.slice D' m' e']] w (ax w (.int .i64 (q-q').num.sign)):=by
 go_in;go_wp2_with fail;refine (Ds _ b A n c D m e (q) (k) ?_ b' A' n' c' D' m' e' (q') (k') ?_ ?_ ?_ ?_ ?_).mono ?_;(exact (h.belw (((Below.refl _ _).alloc Qr _).alloc (by simp) _)));(exact (i.belw (((Below.refl _ _).alloc Qr _).alloc (by simp) _)));(omega);(omega);(omega);(omega);rintro e t ⟨u,v,y,c1,l,o,p,rfl,r,a⟩;have q1:=a.q2;replace h:=h.belw q1;replace i:=i.belw q1;have j:Blk t w.heap.size 54 #[.bool b,.slice A n c,.slice D m e]:=((ak _ _ _ (by simp)).alloc _).below a (by simp <;> omega);have f:=(ak _ _ _ (g:=w.heap.size+1) (by simp)).below a (by simp);have d:=(ae w).trans (q1.mono (ae w).size);have B:=a.l2;clear q1;go_wp2_with fail;refine (De _ u v y c1 l o p ((q)-(q')) ((k)+(k')+1) ?_ ?_ ?_).mono ?_;(exact r.qz);(omega);(omega);rintro e G ⟨rfl,q2⟩;replace h:=h.belw q2;replace i:=i.belw q2;replace r:=r.belw q2;replace j:=j.b q2;replace f:=f.b q2;have s:=d.trans (q2.mono d.size);have z:=q2.size;clear q2 d;go_wp2;go_ret;exact cM rfl s
theorem FN (w:World) (i:Int) (I:-4294967296<i) (z:i<4294967296) :
 Calls Tryz.prog 49 #[.int .i64 i] w (pw w (i:Rat) 1):=by
 go_in;go_wp2_with fail;refine (ui _ (i) ?_ ?_).mono ?_;(omega);(omega);rintro e t ⟨u,y,F,c1,rfl,m,j⟩;have q1:=j.q1;have a:Blk t w.heap.size 54 #[.bool false,.slice none 0 0,.slice none 0 0]:=(ak _ _ _ (by simp)).below j (by simp);have g:=(ae w).trans (q1.mono (ae w).size);have A:=j.l1;clear q1;go_wp2_with fail;refine (yq _).mono ?_;rintro e J ⟨C,E,H,c2,rfl,o,q2⟩;replace m:=m.belw q2;replace a:=a.b q2;have h:=g.trans (q2.mono g.size);have G:=q2.size;clear q2 g;go_wp2_with fail;refine (tl _ u y F c1 (i) (1) ?_ C E H c2 (1) (1) ?_ ((i:Rat)) (1) ?_ ?_ ?_ ?_).mono ?_;(exact m.iz);(exact o.iz);(decide);(exact Cy i);(exact CO (by omega) (by decide));(decide);rintro e x ⟨k,n,l,c3,f,c,d,rfl,D,q3⟩;replace m:=m.belw q3;replace o:=o.belw q3;replace a:=a.b q3;have p:=h.trans (q3.mono h.size);have B:=q3.size;clear q3 h;have r:=a.c3;have q:=a.f3;have s:=jh a.lt;go_wp2_with fail;refine bodyPost_ret (v:=.agg #[.bool k,.slice n l c3,.slice f c d]) (by simp [results,Tryz.results49,go_sem, *] <;> trivial) rfl ?_;exact ⟨k,n,l,c3,f,c,d,rfl,D.keep ((((Kp.refl x).sb w.heap.size 0 a.box (by decide) (.bool k)).sb w.heap.size 1 (a.box.set ⟨w.heap.size,0,none⟩ (.bool k)) (by decide) (.slice n l c3)).sb w.heap.size 2 ((a.box.set ⟨w.heap.size,0,none⟩ (.bool k)).set ⟨w.heap.size,1,none⟩ (.slice n l c3)) (by decide) (.slice f c d)),(((p.sc w.heap.size 0 (by omega) (.bool k)).sc w.heap.size 1 (by omega) (.slice n l c3)).sc w.heap.size 2 (by omega) (.slice f c d))⟩
theorem Four.b {w a:World}{f d g c t:Nat}{c1 c2 c3 c4:Array Value}(X:Blk w f t c1/\Blk w d t c2/\Blk w g t c3/\Blk w c t c4) (hb:Below w.heap.size w a):Blk a f t c1/\Blk a d t c2/\Blk a g t c3/\Blk a c t c4:=⟨X.1.below hb X.1.lt,X.2.1.below hb X.2.1.lt,X.2.2.1.below hb X.2.2.1.lt,X.2.2.2.below hb X.2.2.2.lt⟩
theorem FourV.b {w a:World}{d n g o:Bool}{h r q m:Option Addr}{s t f n4 c1 c2 c3 c4 c k2 k3 l:Nat}{k i p j:Int}(H:IV w d h s c1 k c/\IV w n r t c2 i k2/\IV w g q f c3 p k3/\IV w o m n4 c4 j l) (hb:Below w.heap.size w a):IV a d h s c1 k c/\IV a n r t c2 i k2/\IV a g q f c3 p k3/\IV a o m n4 c4 j l:=⟨H.1.belw hb,H.2.1.belw hb,H.2.2.1.belw hb,H.2.2.2.belw hb⟩
end Go.Proofs.YtndhgcfajlalhaaGreatDoor
namespace Bn
open Go.Lib
theorem mM {c:UInt8}:∀ {a b x y:List UInt8},c ∉ a->c ∉ x->a++c::b=x++c::y->a=x/\b=y:=by
 intro a
 induction a with
 | nil =>
  intro b x y _ d h
  cases x with
  | nil=>simp at h;exact ⟨rfl,h⟩
  | cons z r=>simp at h;exact absurd h.1 (fun e=>d (by rw [e];simp))
 | cons w r ih =>
  intro b x y f d h
  cases x with
  | nil=>simp at h;exact absurd h.1 (fun e=>f (by rw [e];simp))
  | cons z s =>
   simp at h f d;obtain ⟨g,i⟩:=ih f.2 d.2 h.2;exact ⟨by rw [h.1,g],i⟩
def am (q:Rat):List UInt8:=if q.den=1 then itoa q.num else itoa q.num++47::itoa (q.den:Int)
theorem yV {c:UInt8}:∀ {a b:List UInt8},c ∉ a->index (a++c::b) [c]=(a.length:Int):=by
 intro a
 induction a with
 | nil=>intro b _;rw [List.nil_append,index,if_pos (by simp [List.isPrefixOf])];rfl
 | cons x r ih =>
  intro b h;simp at h;have d:List.isPrefixOf [c] (x::(r++c::b))=false:=by simp [List.isPrefixOf];exact h.1
  rw [List.cons_append,index,d,ih (b:=b) h.2];have:((r.length:Int) == -1)=false:=by rw [beq_eq_false_iff_ne];omega
  simp [this]
theorem yW {c:UInt8}:∀ {a:List UInt8},c ∉ a->index a [c]=-1:=by
 intro a
 induction a with
 | nil=>intro _;rfl
 | cons x r ih =>
  intro h;simp at h;have b:List.isPrefixOf [c] (x::r)=false:=by simp [List.isPrefixOf];exact h.1
  rw [index,b,ih h.2];rfl
theorem tm {c:UInt8}{a b:List UInt8}(h:c ∉ a):cut (a++c::b) [c]=(a,b,true):=by
 unfold cut;rw [yV h,if_pos (by omega)];simp
theorem mN {c:UInt8}{a:List UInt8}(h:c ∉ a):cut a [c]=(a,[],false):=by
 unfold cut;rw [yW h,if_neg (by omega)]
end Bn

/- Walks: what the integer laws lean on: short, Same; roots and texts as values. -/
namespace Go.Proofs.YtndhgcfajlalhaaGreatDoor
open Go Go.RowKit Bn
attribute [local go_sem ↓] Go.wp_at_zero Go.wp_at_succ
def Ws (w:World) (g N:Nat) (ns:Nat->Nat):Prop:=g<w.heap.size/\∀ i,i<N->∃ b A c,w.cell? ⟨g,i*2,none⟩=some (.bool b)/\w.cell? ⟨g,i*2+1,none⟩=some (.slice A (ns i) c)
theorem Ws.belw {w d:World}{g N:Nat}{f:Nat->Nat}(h:Ws w g N f) (hb:Below w.heap.size w d):Ws d g N f:=by
 obtain ⟨a,h⟩:=h;have j:=(cl hb).1;refine ⟨Nat.lt_of_lt_of_le a hb.size,fun i m=>?_⟩;obtain ⟨b,A,c,l,k⟩:=h i m;exact ⟨b,A,c,(j _ _ a).trans l,(j _ _ a).trans k⟩
theorem IZ.short {w:World}{b:Bool}{A:Option Addr}{n c k:Nat}{z:Int}(h:IZ w b A n c z k) (f:n<=30):IZ w b A n c z 30:=by
 obtain ⟨l,d,a,_⟩:=h;exact ⟨l,d,a,f⟩
theorem BH (a b:Rat):da (a.num*b.den) (b.num*a.den)=lC a b:=by
 unfold da lC;have h:=Er a b;by_cases h1:a<b
 ·rw [if_pos h1,if_pos (h.1.2 h1)]
 rw [if_neg h1,if_neg (fun x=>h1 (h.1.1 x))];by_cases h2:a=b
 ·rw [if_pos h2,if_pos (h.2.2 h2)]
 rw [if_neg h2,if_neg (fun x=>h2 (h.2.1 x))]
theorem Du (q a:Rat):(q-a).num.sign=lC q a:=by
 have d:=CM (q-a);rw [d];unfold lC;have c:(q-a<0) ↔ q<a:=by constructor <;> intro h <;> grind
 have b:(q-a=0) ↔ q=a:=by constructor <;> intro h <;> grind
 by_cases h4:q<a
 ·rw [if_pos h4,if_pos (c.2 h4)]
 rw [if_neg h4,if_neg (fun h=>h4 (c.1 h))];by_cases h5:q=a
 ·rw [if_pos h5,if_pos (b.2 h5)]
 rw [if_neg h5,if_neg (fun h=>h5 (b.1 h))]
theorem lQ (w:World) (b A n c D m e q k) (h:QZ w b A n c D m e q k) (b' A' n' c' D' m' e' q' k') (g:QZ w b' A' n' c' D' m' e' q' k') (s:Int) (j:lC q q'=s) (i:0<k) (f:k<=40000000) (d:0<k') (a:k'<=40000000):Calls Tryz.prog 138 #[.agg #[.bool b,.slice A n c,.slice D m e],.agg #[.bool b',.slice A' n' c',.slice D' m' e']] w (ax w (.int .i64 s)):=by
 subst j;rw [<- BH];exact Dq w b A n c D m e q k h b' A' n' c' D' m' e' q' k' g i f d a
theorem uu (w:World) (b A n c D m e q k) (h:QZ w b A n c D m e q k) (b' A' n' c' D' m' e' q' k') (g:QZ w b' A' n' c' D' m' e' q' k') (s:Int) (j:lC q q'=s) (i:0<k) (f:k<=10000000) (d:0<k') (a:k'<=10000000):Calls Tryz.prog 93 #[.agg #[.bool b,.slice A n c,.slice D m e],.agg #[.bool b',.slice A' n' c',.slice D' m' e']] w (ax w (.int .i64 s)):=by
 subst j;rw [<- Du];exact Dt w b A n c D m e q k h b' A' n' c' D' m' e' q' k' g i f d a
theorem yX (w:World) (b A n c z k) (h:IZ w b A n c z k) (b' A' n' c' z' k') (i:IZ w b' A' n' c' z' k') (hd:z'=0) (t:k+k'<=300000000) :
 Calls Tryz.prog 116 #[.agg #[.bool b,.slice A n c],.agg #[.bool b',.slice A' n' c']] w (jJ w (.iface 58 (.int .i64 8)) 0 1):=by
 have q:=Qh (show z'.sign=0 by rw [hd];rfl);clear hd;go_in;go_wp2_with fail;refine (gS _ b' A' n' c' (z') (k') ?_ 0 ?_ ?_).mono ?_;(exact (i.belw ((((Below.refl _ _).alloc Qr _).alloc (by simp) _).alloc (by simp <;> omega) _)));(exact q.out);(omega);rintro e o ⟨rfl,a⟩;have q1:=a.q3;replace h:=h.belw q1;replace i:=i.belw q1;have s:Blk o w.heap.size 134 #[.bool b,.slice A n c]:=(((ak _ _ _ (by simp)).alloc _).alloc _).below a (by simp <;> omega);have p:=((ak _ _ _ (g:=w.heap.size+1) (by simp)).alloc _).below a (by simp <;> omega);have d:=(ak _ _ _ (g:=w.heap.size+1+1) (by simp)).below a (by simp);have f:=(ae w).trans (q1.mono (ae w).size);have r:=a.l3;clear q1;have l:=d.c3;have j:=d.f3;have m:=xE d.lt;go_wp2_with fail;refine bodyPost_ret (v:=.tuple #[.agg #[.bool false,.slice none 0 0,.slice none 0 0],.iface 58 (.int .i64 8)]) (by simp [results,Tryz.results116,go_sem, *] <;> trivial) rfl ?_;exact ⟨_,_,_,_,_,_,_,rfl,QV.zero _ _,(((f.sc (w.heap.size+1+1) 0 (by omega) (.bool false)).sc (w.heap.size+1+1) 1 (by omega) (.slice none 0 0)).sc (w.heap.size+1+1) 2 (by omega) (.slice none 0 0))⟩

theorem tp (x:Int) (w:World):(Instr.typeAssert (.iface 58 (.int .i64 x)) 34 58 true).run Tryz.prog w=.ok (.tuple #[.int .i64 x,.bool true]) w:=by
 simp [Instr.typeAssert,run_underlying Tryz.underlying58]
theorem vS (w:World) (x:Int):Calls Tryz.prog 46 #[.iface 58 (.int .i64 x)] w (ax w (.int .i64 x)):=by
 go_in;have a:=tp x;go_wp2;go_ret;exact ⟨rfl,ae w⟩
theorem mO (w:World) (b A n c z k) (h:IZ w b A n c z k) (T:List UInt8) (g:k<=1000000000) (f:Tab w) (a:Lib.itoa z=T):Calls Tryz.prog 85 #[.agg #[.bool b,.slice A n c]] w (ax w (aa T)):=by
 subst a;obtain ⟨l,d,rfl,i⟩:=h;exact Dm w b A n c l d (by omega) f
theorem uv (w:World) (b A n c z k) (h:IZ w b A n c z k) (b' A' n' c' z' k') (d:IZ w b' A' n' c' z' k') (v:Int) (f:da z z'=v) (a:k+k'<=1000000000):Calls Tryz.prog 83 #[.agg #[.bool b,.slice A n c],.agg #[.bool b',.slice A' n' c']] w (ax w (.int .i64 v)):=by
 subst f;exact ye w b A n c z k h b' A' n' c' z' k' d a

theorem ES (w:World) (x:Int):Calls Tryz.prog 18 #[.iface 58 (.int .i64 x),.int .i64 x] w (ax w (.bool true)):=by
 go_in;go_wp2_with (go_at_call 46;refine (vS _ x).mono ?_;rintro e b ⟨rfl,a⟩);go_ret;exact ⟨rfl,a⟩
end Go.Proofs.YtndhgcfajlalhaaGreatDoor
namespace Bn
open Go.Lib
def CD (F B:List UInt8):Bool:=okZ (bT F)&&decide (0<=eT (bT F))&&decide (B≠[])&&B.all aX
def ET (F B:List UInt8):Int:=eT (bT F)*10^B.length+ar B
def FO (F B:List UInt8):Rat:=Rat.divInt (if cw F then -(ET F B) else ET F B) (10^B.length)
def CE (F B:List UInt8):Bool:=okZ F&&okZ B&&decide (0<eT B)&&decide (eT B≠1)&&decide (Nat.gcd (eT F).natAbs (eT B).natAbs=1)
inductive Fy (s:List UInt8) (x:Int) (q:Rat):Prop
  | big (h:65536<s.length) (hx:x=4) (hq:q=0)
  | dot (F B:List UInt8) (hl:s.length<=65536) (hs:s=F++46::B) (hF:46 ∉ F) (h64:s.length<=64) (h:CD F B=true) (hx:x=0) (hq:q=FO F B)
  | dotNo (F B:List UInt8) (hl:s.length<=65536) (hs:s=F++46::B) (hF:46 ∉ F) (h:64<s.length\/CD F B=false) (hx:x=2) (hq:q=0)
  | quo (F B:List UInt8) (hl:s.length<=65536) (hd:46 ∉ s) (hs:s=F++47::B) (hF:47 ∉ F) (h:CE F B=true) (hx:x=0) (hq:q=Rat.divInt (eT F) (eT B))
  | quoNo (F B:List UInt8) (hl:s.length<=65536) (hd:46 ∉ s) (hs:s=F++47::B) (hF:47 ∉ F) (h:CE F B=false) (hx:x=2) (hq:q=0)
  | whole (hl:s.length<=65536) (hd:46 ∉ s) (hs:47 ∉ s) (h:okZ s=true) (hx:x=0) (hq:q=((eT s:Int):Rat))
  | wholeNo (hl:s.length<=65536) (hd:46 ∉ s) (hs:47 ∉ s) (h:okZ s=false) (hx:x=2) (hq:q=0)
end Bn

/- Walks: linkworkref01.Parse. -/
namespace Go.Proofs.YtndhgcfajlalhaaGreatDoor
open Go Go.RowKit Bn
attribute [local go_sem ↓] Go.wp_at_zero Go.wp_at_succ

def vT (w:World) (T:List UInt8) (m:Bool) (k:Nat) (e:Ending) (w':World):Prop :=
  if T.all aX=true then jT w (.int .i64 0) (if m then -(ar T:Int) else ar T) k e w' else jT w (.int .i64 2) 0 0 e w'
theorem vT.bad {w a:World}{T:List UInt8}{m:Bool}{k:Nat}{e:Ending}(h:¬ T.all aX=true) (b:jT w (.int .i64 2) 0 0 e a):vT w T m k e a:=by
 unfold vT;rw [if_neg h];exact b
theorem vT.good {w a:World}{T:List UInt8}{m:Bool}{k:Nat}{e:Ending}(h:T.all aX=true) (b:jT w (.int .i64 0) (if m then -(ar T:Int) else ar T) k e a):vT w T m k e a:=by
 unfold vT;rw [if_pos h];exact b
def bo (x:Int):Value:=if x=0 then .nilIface else .iface 58 (.int .i64 x)
theorem aO:bo 0=.nilIface:=if_pos rfl
theorem jT.mono {w a:World}{v:Value}{z:Int}{k j:Nat}{e:Ending}(h:jT w v z k e a) (g:k<=j):jT w v z j e a:=by
 obtain ⟨b,A,n,c,i,d,f⟩:=h;exact ⟨b,A,n,c,i,d.mono g,f⟩
theorem BI (s:List UInt8) (i:Nat):cD (s.drop i)=if atB s i=45 then 1 else 0:=by
 rcases Nat.lt_or_ge i s.length with h | h
 ·rw [bM h]
  unfold cD;split
  ·rename_i e;injection e with a e2;rw [if_pos a]
  rename_i e;rw [if_neg (fun a=>e _ (by rw [a]))]
 rw [List.drop_eq_nil_of_le h,fE h];rfl
theorem yY (s:List UInt8) (i:Nat):dS (s.drop i)=if (atB s i==46||atB s i==47)&&decide (0<cC (s.drop (i+1))) then 1+cC (s.drop (i+1)) else 0:=by
 rcases Nat.lt_or_ge i s.length with h | h
 ·rw [bM h];rfl
 rw [List.drop_eq_nil_of_le h,fE h];rfl
theorem kW {s:List UInt8}{i v:Nat}(a:bJ (s.drop i)=v):∃ m k,((m=1/\atB s i=45)\/(m=0/\atB s i≠45))/\cC (s.drop (i+m))=k /\
 ((k=0/\v=0)\/(0<k/\∃ d,atB s (i+m+k)=d/\((d≠46/\d≠47/\v=m+k)\/((d=46\/d=47)/\∃ t,cC (s.drop (i+m+k+1))=t/\((t=0/\v=m+k)\/(0<t/\v=m+k+(1+t))))))):=by
 unfold bJ at a;rw [BI,List.drop_drop] at a;obtain ⟨m,b⟩:∃ m,(if atB s i=45 then 1 else 0)=m:=⟨_,rfl⟩;rw [b] at a
 have c:(m=1/\atB s i=45)\/(m=0/\atB s i≠45):=by
  by_cases h:atB s i=45
  ·rw [if_pos h] at b;exact .inl ⟨b.symm,h⟩
  rw [if_neg h] at b;exact .inr ⟨b.symm,h⟩
 obtain ⟨k,f⟩:∃ k,cC (s.drop (i+m))=k:=⟨_,rfl⟩;rw [f,List.drop_drop,yY,<- Nat.add_assoc] at a;refine ⟨m,k,c,f,?_⟩;by_cases h0:k=0
 ·rw [if_pos h0] at a;exact .inl ⟨h0,a.symm⟩
 rw [if_neg h0] at a;refine .inr ⟨by omega,_,rfl,?_⟩;by_cases h1:atB s (i+m+k)=46\/atB s (i+m+k)=47
 ·have e:(atB s (i+m+k)==46||atB s (i+m+k)==47)=true:=by rcases h1 with h | h <;> rw [h] <;> rfl
  rw [e,Bool.true_and] at a;refine .inr ⟨h1,_,rfl,?_⟩;by_cases h2:0<cC (s.drop (i+m+k+1))
  ·rw [if_pos (decide_eq_true h2)] at a;exact .inr ⟨h2,a.symm⟩
  rw [if_neg (by rw [decide_eq_false h2];decide)] at a;exact .inl ⟨by omega,by omega⟩
 have g:atB s (i+m+k)≠46:=fun h=>h1 (.inl h)
 have j:atB s (i+m+k)≠47:=fun h=>h1 (.inr h)
 rw [beq_eq_false_iff_ne.2 g,beq_eq_false_iff_ne.2 j,Bool.or_self,Bool.false_and,if_neg (by decide)] at a;exact .inl ⟨g,j,by omega⟩
theorem dz {s:List UInt8}{i k:Nat}(h:cC (s.drop i)=k) (a:0<k):i+k<=s.length:=by
 have:=pF (s.drop i);rw [h,List.length_drop] at this;omega
theorem rG (s:List UInt8):cw s=(atB s 0==45):=by
 cases s with
 | nil=>rfl
 | cons c t =>
  by_cases h:c=45
  ·subst h;rfl
  have e:(c==45)=false:=beq_eq_false_iff_ne.2 h;show cw (c::t)=(c==45);rw [e];unfold cw;split
  ·rename_i a;injection a with h2;exact absurd h2 h
  rfl
theorem pN {s:List UInt8}{i:Nat}{d:UInt8}(h:atB s i=d) (hd:d≠0):i<s.length:=by
 rcases Nat.lt_or_ge i s.length with x | x
 ·exact x
 rw [fE x] at h;exact absurd h.symm hd
theorem cI (w:World) (s:List UInt8) (n:s.length<4611686018427387904) (v:Nat) (hv:bJ s=v):Calls Tryz.prog 109 #[aa s] w (ax w (.int .i64 (v:Nat))):=by
 have ac:=aJ s;obtain ⟨m,k,hm,p,z⟩:=kW (s:=s) (i:=0) hv;rw [Nat.zero_add] at p;simp only [Nat.zero_add] at z;clear hv;rcases hm with ⟨rfl,C⟩ | ⟨rfl,C⟩
 ·have ad:0<s.length:=pN C (by decide)
  have r:cw s=true:=by rw [rG];simp [C]
  clear C;rcases z with ⟨Q,R⟩ | ⟨U,d,hd,z⟩
  ·subst R
   subst Q;go_in;go_wp2_with fail;refine (bP _ (s) true r).mono ?_;rintro e A ⟨rfl,q1⟩;have a:=(ae w).trans (q1.mono (ae w).size);have g:=q1.size;clear q1;go_wp2_with fail;refine (aN _ (s) (1) (1) (by omega) (by omega) n (0) (by have o:=p;omega)).mono ?_;rintro e D ⟨rfl,q2⟩;have b:=a.trans (q2.mono a.size);have j:=q2.size;clear q2 a;go_wp2;go_ret;exact cM (by omega) b
  have ab:1+k<=s.length:=by have:=dz p U;omega
  have X:((k:Int)==0)=false:=by simp;omega
  have Y:((k:Int)=0)=False:=by simp;omega
  rcases z with ⟨H,E,c⟩ | ⟨F,t,B,z⟩
  ·have I:(((d.toNat:Nat):Int)==46)=false:=(aI d 46).trans (by simp [H])
   have N:(((d.toNat:Nat):Int)==47)=false:=(aI d 47).trans (by simp [E]);clear H E;replace c:=c.symm;subst c;have W:IntKind.i64.wrap (1+(k:Int))=1+(k:Int):=IntWalk.i64_in _ ⟨by omega,by omega⟩;rcases Nat.lt_or_ge (1+k) s.length with L | L
   ·have K:∀ h,(⟨s.toArray⟩:ByteArray)[1+k]' h=d:=fun h=>by rw [<- hd];exact (dy L).symm
    have Z:(1+(k:Int)).toNat=1+k:=by omega
    have J:1+(k:Int)<(s.length:Int):=by omega
    have M:(0:Int)<=1+(k:Int):=by omega
    go_in;go_wp2_with fail;refine (bP _ (s) true r).mono ?_;rintro e A ⟨rfl,q1⟩;have a:=(ae w).trans (q1.mono (ae w).size);have g:=q1.size;clear q1;go_wp2_with fail;refine (aN _ (s) (1) (1) (by omega) (by omega) n ((k:Int)) (by have o:=p;omega)).mono ?_;rintro e D ⟨rfl,q2⟩;have b:=a.trans (q2.mono a.size);have j:=q2.size;clear q2 a;go_wp2;go_ret;exact cM (by omega) b
   have J:(1+(k:Int)<(s.length:Int))=False:=by simp;omega
   go_in;go_wp2_with fail;refine (bP _ (s) true r).mono ?_;rintro e A ⟨rfl,q1⟩;have a:=(ae w).trans (q1.mono (ae w).size);have g:=q1.size;clear q1;go_wp2_with fail;refine (aN _ (s) (1) (1) (by omega) (by omega) n ((k:Int)) (by have o:=p;omega)).mono ?_;rintro e D ⟨rfl,q2⟩;have b:=a.trans (q2.mono a.size);have j:=q2.size;clear q2 a;go_wp2;go_ret;exact cM (by omega) b
  have L:1+k<s.length:=by rcases F with e | e <;> exact pN hd (by rw [e];decide)
  have W:IntKind.i64.wrap (1+(k:Int))=1+(k:Int):=IntWalk.i64_in _ ⟨by omega,by omega⟩;have V:IntKind.i64.wrap (1+(k:Int)+1)=1+(k:Int)+1:=IntWalk.i64_in _ ⟨by omega,by omega⟩;have K:∀ h,(⟨s.toArray⟩:ByteArray)[1+k]' h=d:=fun h=>by rw [<- hd];exact (dy L).symm
  have Z:(1+(k:Int)).toNat=1+k:=by omega
  have J:1+(k:Int)<(s.length:Int):=by omega
  have M:(0:Int)<=1+(k:Int):=by omega
  rcases F with q | l
  ·have I:(((d.toNat:Nat):Int)==46)=true:=(aI d 46).trans (by simp [q])
   clear q;rcases z with ⟨y,c⟩ | ⟨x,c⟩
   ·replace c:=c.symm
    subst c;subst y;go_in;go_wp2_with fail;refine (bP _ (s) true r).mono ?_;rintro e A ⟨rfl,q1⟩;have a:=(ae w).trans (q1.mono (ae w).size);have g:=q1.size;clear q1;go_wp2_with fail;refine (aN _ (s) (1) (1) (by omega) (by omega) n ((k:Int)) (by have o:=p;omega)).mono ?_;rintro e D ⟨rfl,q2⟩;have b:=a.trans (q2.mono a.size);have j:=q2.size;clear q2 a;go_wp2_with fail;refine (aN _ (s) ((1+(k:Int)+1)) (1+k+1) (by omega) (by omega) n (0) (by have o:=B;omega)).mono ?_;rintro e O ⟨rfl,q3⟩;have f:=b.trans (q3.mono b.size);have u:=q3.size;clear q3 b;go_wp2;go_ret;exact cM (by omega) f
   replace c:=c.symm;subst c;have T:((0:Int)<(t:Int))=True:=by simp;omega
   have P:1+k+1+t<=s.length:=by have:=dz B x;omega
   have S:IntKind.i64.wrap (1+(t:Int))=1+(t:Int):=IntWalk.i64_in _ ⟨by omega,by omega⟩;have G:IntKind.i64.wrap (1+(k:Int)+(1+(t:Int)))=1+(k:Int)+(1+(t:Int)):=IntWalk.i64_in _ ⟨by omega,by omega⟩;go_in;go_wp2_with fail;refine (bP _ (s) true r).mono ?_;rintro e A ⟨rfl,q1⟩;have a:=(ae w).trans (q1.mono (ae w).size);have g:=q1.size;clear q1;go_wp2_with fail;refine (aN _ (s) (1) (1) (by omega) (by omega) n ((k:Int)) (by have o:=p;omega)).mono ?_;rintro e D ⟨rfl,q2⟩;have b:=a.trans (q2.mono a.size);have j:=q2.size;clear q2 a;go_wp2_with fail;refine (aN _ (s) ((1+(k:Int)+1)) (1+k+1) (by omega) (by omega) n ((t:Int)) (by have o:=B;omega)).mono ?_;rintro e O ⟨rfl,q3⟩;have f:=b.trans (q3.mono b.size);have u:=q3.size;clear q3 b;go_wp2;go_ret;exact cM (by omega) f
  have I:(((d.toNat:Nat):Int)==46)=false:=(aI d 46).trans (by simp [l]);have N:(((d.toNat:Nat):Int)==47)=true:=(aI d 47).trans (by simp [l]);clear l;rcases z with ⟨y,c⟩ | ⟨x,c⟩
  ·replace c:=c.symm
   subst c;subst y;go_in;go_wp2_with fail;refine (bP _ (s) true r).mono ?_;rintro e A ⟨rfl,q1⟩;have a:=(ae w).trans (q1.mono (ae w).size);have g:=q1.size;clear q1;go_wp2_with fail;refine (aN _ (s) (1) (1) (by omega) (by omega) n ((k:Int)) (by have o:=p;omega)).mono ?_;rintro e D ⟨rfl,q2⟩;have b:=a.trans (q2.mono a.size);have j:=q2.size;clear q2 a;go_wp2_with fail;refine (aN _ (s) ((1+(k:Int)+1)) (1+k+1) (by omega) (by omega) n (0) (by have o:=B;omega)).mono ?_;rintro e O ⟨rfl,q3⟩;have f:=b.trans (q3.mono b.size);have u:=q3.size;clear q3 b;go_wp2;go_ret;exact cM (by omega) f
  replace c:=c.symm;subst c;have T:((0:Int)<(t:Int))=True:=by simp;omega
  have P:1+k+1+t<=s.length:=by have:=dz B x;omega
  have S:IntKind.i64.wrap (1+(t:Int))=1+(t:Int):=IntWalk.i64_in _ ⟨by omega,by omega⟩;have G:IntKind.i64.wrap (1+(k:Int)+(1+(t:Int)))=1+(k:Int)+(1+(t:Int)):=IntWalk.i64_in _ ⟨by omega,by omega⟩;go_in;go_wp2_with fail;refine (bP _ (s) true r).mono ?_;rintro e A ⟨rfl,q1⟩;have a:=(ae w).trans (q1.mono (ae w).size);have g:=q1.size;clear q1;go_wp2_with fail;refine (aN _ (s) (1) (1) (by omega) (by omega) n ((k:Int)) (by have o:=p;omega)).mono ?_;rintro e D ⟨rfl,q2⟩;have b:=a.trans (q2.mono a.size);have j:=q2.size;clear q2 a;go_wp2_with fail;refine (aN _ (s) ((1+(k:Int)+1)) (1+k+1) (by omega) (by omega) n ((t:Int)) (by have o:=B;omega)).mono ?_;rintro e O ⟨rfl,q3⟩;have f:=b.trans (q3.mono b.size);have u:=q3.size;clear q3 b;go_wp2;go_ret;exact cM (by omega) f
 simp only [Nat.zero_add] at p z;have r:cw s=false:=by rw [rG];simp [C]
 clear C;rcases z with ⟨Q,R⟩ | ⟨U,d,hd,z⟩
 ·subst R
  subst Q;go_in;go_wp2_with fail;refine (bP _ (s) false r).mono ?_;rintro e A ⟨rfl,q1⟩;have a:=(ae w).trans (q1.mono (ae w).size);have g:=q1.size;clear q1;go_wp2_with fail;refine (aN _ (s) (0) (0) (by omega) (by omega) n (0) (by have o:=p;omega)).mono ?_;rintro e D ⟨rfl,q2⟩;have b:=a.trans (q2.mono a.size);have j:=q2.size;clear q2 a;go_wp2;go_ret;exact cM (by omega) b
 have ab:k<=s.length:=by have:=dz p U;omega
 have X:((k:Int)==0)=false:=by simp;omega
 have Y:((k:Int)=0)=False:=by simp;omega
 rcases z with ⟨H,E,c⟩ | ⟨F,t,B,z⟩
 ·have I:(((d.toNat:Nat):Int)==46)=false:=(aI d 46).trans (by simp [H])
  have N:(((d.toNat:Nat):Int)==47)=false:=(aI d 47).trans (by simp [E]);clear H E;replace c:=c.symm;subst c;rcases Nat.lt_or_ge (k) s.length with L | L
  ·have K:∀ h,(⟨s.toArray⟩:ByteArray)[k]' h=d:=fun h=>by rw [<- hd];exact (dy L).symm
   have Z:((k:Int)).toNat=k:=by omega
   have J:(k:Int)<(s.length:Int):=by omega
   have M:(0:Int)<=(k:Int):=by omega
   go_in;go_wp2_with fail;refine (bP _ (s) false r).mono ?_;rintro e A ⟨rfl,q1⟩;have a:=(ae w).trans (q1.mono (ae w).size);have g:=q1.size;clear q1;go_wp2_with fail;refine (aN _ (s) (0) (0) (by omega) (by omega) n ((k:Int)) (by have o:=p;omega)).mono ?_;rintro e D ⟨rfl,q2⟩;have b:=a.trans (q2.mono a.size);have j:=q2.size;clear q2 a;go_wp2;go_ret;exact cM (by omega) b
  have J:((k:Int)<(s.length:Int))=False:=by simp;omega
  go_in;go_wp2_with fail;refine (bP _ (s) false r).mono ?_;rintro e A ⟨rfl,q1⟩;have a:=(ae w).trans (q1.mono (ae w).size);have g:=q1.size;clear q1;go_wp2_with fail;refine (aN _ (s) (0) (0) (by omega) (by omega) n ((k:Int)) (by have o:=p;omega)).mono ?_;rintro e D ⟨rfl,q2⟩;have b:=a.trans (q2.mono a.size);have j:=q2.size;clear q2 a;go_wp2;go_ret;exact cM (by omega) b
 have L:k<s.length:=by rcases F with e | e <;> exact pN hd (by rw [e];decide)
 have V:IntKind.i64.wrap ((k:Int)+1)=(k:Int)+1:=IntWalk.i64_in _ ⟨by omega,by omega⟩;have K:∀ h,(⟨s.toArray⟩:ByteArray)[k]' h=d:=fun h=>by rw [<- hd];exact (dy L).symm
 have Z:((k:Int)).toNat=k:=by omega
 have J:(k:Int)<(s.length:Int):=by omega
 have M:(0:Int)<=(k:Int):=by omega
 rcases F with q | l
 ·have I:(((d.toNat:Nat):Int)==46)=true:=(aI d 46).trans (by simp [q])
  clear q;rcases z with ⟨y,c⟩ | ⟨x,c⟩
  ·replace c:=c.symm
   subst c;subst y;go_in;go_wp2_with fail;refine (bP _ (s) false r).mono ?_;rintro e A ⟨rfl,q1⟩;have a:=(ae w).trans (q1.mono (ae w).size);have g:=q1.size;clear q1;go_wp2_with fail;refine (aN _ (s) (0) (0) (by omega) (by omega) n ((k:Int)) (by have o:=p;omega)).mono ?_;rintro e D ⟨rfl,q2⟩;have b:=a.trans (q2.mono a.size);have j:=q2.size;clear q2 a;go_wp2_with fail;refine (aN _ (s) (((k:Int)+1)) (k+1) (by omega) (by omega) n (0) (by have o:=B;omega)).mono ?_;rintro e O ⟨rfl,q3⟩;have f:=b.trans (q3.mono b.size);have u:=q3.size;clear q3 b;go_wp2;go_ret;exact cM (by omega) f
  replace c:=c.symm;subst c;have T:((0:Int)<(t:Int))=True:=by simp;omega
  have P:k+1+t<=s.length:=by have:=dz B x;omega
  have S:IntKind.i64.wrap (1+(t:Int))=1+(t:Int):=IntWalk.i64_in _ ⟨by omega,by omega⟩;have G:IntKind.i64.wrap ((k:Int)+(1+(t:Int)))=(k:Int)+(1+(t:Int)):=IntWalk.i64_in _ ⟨by omega,by omega⟩;go_in;go_wp2_with fail;refine (bP _ (s) false r).mono ?_;rintro e A ⟨rfl,q1⟩;have a:=(ae w).trans (q1.mono (ae w).size);have g:=q1.size;clear q1;go_wp2_with fail;refine (aN _ (s) (0) (0) (by omega) (by omega) n ((k:Int)) (by have o:=p;omega)).mono ?_;rintro e D ⟨rfl,q2⟩;have b:=a.trans (q2.mono a.size);have j:=q2.size;clear q2 a;go_wp2_with fail;refine (aN _ (s) (((k:Int)+1)) (k+1) (by omega) (by omega) n ((t:Int)) (by have o:=B;omega)).mono ?_;rintro e O ⟨rfl,q3⟩;have f:=b.trans (q3.mono b.size);have u:=q3.size;clear q3 b;go_wp2;go_ret;exact cM (by omega) f
 have I:(((d.toNat:Nat):Int)==46)=false:=(aI d 46).trans (by simp [l]);have N:(((d.toNat:Nat):Int)==47)=true:=(aI d 47).trans (by simp [l]);clear l;rcases z with ⟨y,c⟩ | ⟨x,c⟩
 ·replace c:=c.symm
  subst c;subst y;go_in;go_wp2_with fail;refine (bP _ (s) false r).mono ?_;rintro e A ⟨rfl,q1⟩;have a:=(ae w).trans (q1.mono (ae w).size);have g:=q1.size;clear q1;go_wp2_with fail;refine (aN _ (s) (0) (0) (by omega) (by omega) n ((k:Int)) (by have o:=p;omega)).mono ?_;rintro e D ⟨rfl,q2⟩;have b:=a.trans (q2.mono a.size);have j:=q2.size;clear q2 a;go_wp2_with fail;refine (aN _ (s) (((k:Int)+1)) (k+1) (by omega) (by omega) n (0) (by have o:=B;omega)).mono ?_;rintro e O ⟨rfl,q3⟩;have f:=b.trans (q3.mono b.size);have u:=q3.size;clear q3 b;go_wp2;go_ret;exact cM (by omega) f
 replace c:=c.symm;subst c;have T:((0:Int)<(t:Int))=True:=by simp;omega
 have P:k+1+t<=s.length:=by have:=dz B x;omega
 have S:IntKind.i64.wrap (1+(t:Int))=1+(t:Int):=IntWalk.i64_in _ ⟨by omega,by omega⟩;have G:IntKind.i64.wrap ((k:Int)+(1+(t:Int)))=(k:Int)+(1+(t:Int)):=IntWalk.i64_in _ ⟨by omega,by omega⟩;go_in;go_wp2_with fail;refine (bP _ (s) false r).mono ?_;rintro e A ⟨rfl,q1⟩;have a:=(ae w).trans (q1.mono (ae w).size);have g:=q1.size;clear q1;go_wp2_with fail;refine (aN _ (s) (0) (0) (by omega) (by omega) n ((k:Int)) (by have o:=p;omega)).mono ?_;rintro e D ⟨rfl,q2⟩;have b:=a.trans (q2.mono a.size);have j:=q2.size;clear q2 a;go_wp2_with fail;refine (aN _ (s) (((k:Int)+1)) (k+1) (by omega) (by omega) n ((t:Int)) (by have o:=B;omega)).mono ?_;rintro e O ⟨rfl,q3⟩;have f:=b.trans (q3.mono b.size);have u:=q3.size;clear q3 b;go_wp2;go_ret;exact cM (by omega) f
theorem vU (s:List UInt8) (i:Nat):jw (s.drop i)=(bU (atB s i)||atB s i==95||atB s i==46||atB s i==47):=by
 rcases Nat.lt_or_ge i s.length with h | h
 ·rw [bM h];rfl
 rw [List.drop_eq_nil_of_le h,fE h];rfl
def Dv:up->Value
  | .ok k n=>.tuple #[.int .i64 (k:Nat),.int .i64 (n:Nat),.nilIface]
  | .err x=>.tuple #[.int .i64 0,.int .i64 0,.iface 58 (.int .i64 (x:Nat))]
theorem rH {s:List UInt8}{i:Nat}{f:up}(l:i<s.length) (r:aU (s.drop i)=f):∃ c,atB s i=c/\∃ n,be (s.drop i)=n/\∃ m,bJ (s.drop i)=m/\n<=s.length-i/\m<=s.length-i /\
 ((cG c=true/\n=0/\m=0/\f=.ok 2 1)\/(cG c=false/\24<n/\f=.err 5)\/(cG c=false/\0<n/\n<=24/\f=.ok 0 n) \/
  (cG c=false/\n=0/\m=0/\f=.err 2)\/(cG c=false/\n=0/\60<m/\f=.err 4) \/
  (cG c=false/\n=0/\0<m/\m<=60/\∃ d,atB s (i+m)=d/\((bU d=true/\f=.err 2)\/(bU d=false/\d=95/\f=.err 2)\/(bU d=false/\d=46/\f=.err 2)\/(bU d=false/\d=47/\f=.err 2) \/
   (bU d=false/\d≠95/\d≠46/\d≠47/\f=.ok 1 m)))):=by
 have p:=jW (s.drop i);have o:=pG (s.drop i);rw [List.length_drop] at p o;refine ⟨_,rfl,_,rfl,_,rfl,p,o,?_⟩;subst r;by_cases g:cG (atB s i)=true
 ·left
  have q:be (s.drop i)=0:=mH (by
   rw [oM] at g
   rw [kV];simp at g ⊢;omega)
  have u:bJ (s.drop i)=0:=by
   obtain ⟨m,k,t,j,v⟩:=kW (s:=s) (i:=i) rfl;rw [oM] at g;rcases t with ⟨_,h⟩ | ⟨rfl,h⟩
   ·rw [h] at g;exact absurd g (by decide)
   rcases v with ⟨_,h⟩ | ⟨h,_⟩
   ·exact h
   exfalso;rw [Nat.add_zero,bM l] at j;unfold cC at j;rw [List.takeWhile_cons,if_neg (by rw [mG];simp at g ⊢;omega)] at j;simp at j;omega
  refine ⟨g,q,u,?_⟩;rw [bM l,aU,if_pos g]
 have g:cG (atB s i)=false:=by simpa using g
 right
 have e:aU (s.drop i)=(if 0<be (s.drop i) then (if 24<be (s.drop i) then .err 5 else .ok 0 (be (s.drop i)))
  else if bJ (s.drop i)=0 then .err 2 else if 60<bJ (s.drop i) then .err 4 else if jw ((s.drop i).drop (bJ (s.drop i))) then .err 2 else .ok 1 (bJ (s.drop i))):=by
  conv=>lhs;rw [bM l]
  rw [aU,if_neg (by rw [g];decide),<- bM l]
 rw [e,List.drop_drop];by_cases a:0<be (s.drop i)
 ·rw [if_pos a]
  by_cases b:24<be (s.drop i)
  ·rw [if_pos b];exact .inl ⟨g,b,rfl⟩
  rw [if_neg b];exact .inr (.inl ⟨g,a,by omega,rfl⟩)
 rw [if_neg a];have a:be (s.drop i)=0:=by omega
 right;right;by_cases b:bJ (s.drop i)=0
 ·rw [if_pos b];exact .inl ⟨g,a,b,rfl⟩
 rw [if_neg b];by_cases b2:60<bJ (s.drop i)
 ·rw [if_pos b2];exact .inr (.inl ⟨g,a,b2,rfl⟩)
 rw [if_neg b2];refine .inr (.inr ⟨g,a,by omega,by omega,_,rfl,?_⟩);rw [vU];generalize atB s (i+bJ (s.drop i))=d;cases hl:bU d
 ·by_cases c1:d=95
  ·subst c1;exact .inr (.inl ⟨rfl,rfl,rfl⟩)
  by_cases c2:d=46
  ·subst c2;exact .inr (.inr (.inl ⟨rfl,rfl,rfl⟩))
  by_cases c3:d=47
  ·subst c3;exact .inr (.inr (.inr (.inl ⟨rfl,rfl,rfl⟩)))
  refine .inr (.inr (.inr (.inr ⟨rfl,c1,c2,c3,?_⟩)));rw [beq_eq_false_iff_ne.2 c1,beq_eq_false_iff_ne.2 c2,beq_eq_false_iff_ne.2 c3];rfl
 exact .inl ⟨rfl,rfl⟩
theorem ia (w:World) (c:UInt8) (v:Bool) (f:cG c=v):Calls Tryz.prog 146 #[.string ⟨#[123,125,59,46]⟩,.int .u8 (c.toNat:Nat)] w (fun e b=>∃ x:Int,decide (0<=x)=v/\e=.returned (.int .i64 x)/\Below w.heap.size w b):=by
 refine (Tryz.strings_IndexByte ⟨#[123,125,59,46]⟩ (c.toNat:Nat) w).mono fun e b ⟨d,hw⟩=>⟨_,?_,d,hw ▸ ae _⟩
 have i:((c.toNat:Nat):Int).toNat.toUInt8=c:=by simp
 rw [i,<- f];unfold cG;show decide (0<=Lib.indexByte [123,125,59,46] c)=_;unfold Lib.indexByte Lib.indexByte Lib.indexByte Lib.indexByte Lib.indexByte;by_cases h1:c=123
 ·subst h1;rfl
 by_cases h2:c=125
 ·subst h2;rfl
 by_cases h3:c=59
 ·subst h3;rfl
 by_cases h4:c=46
 ·subst h4;rfl
 have g:∀ {a:UInt8},c≠a->(a==c)=false:=fun h=>beq_eq_false_iff_ne.2 (fun e=>h e.symm)
 rw [beq_eq_false_iff_ne.2 h1,beq_eq_false_iff_ne.2 h2,beq_eq_false_iff_ne.2 h3,beq_eq_false_iff_ne.2 h4];simp [g h1,g h2,g h3,g h4]
theorem uw (w:World) (s:List UInt8) (hp:0<s.length) (B:s.length<4611686018427387904) (f:up) (hf:aU s=f):Calls Tryz.prog 103 #[aa s] w (ax w (Dv f)):=by
 have ab:=aJ s;obtain ⟨c,L,n,o,m,r,ao,aC,Z⟩:=rH (s:=s) (i:=0) hp hf;clear hf;have o:be s=n:=o;have r:bJ s=m:=r;have T:∀ h,(⟨s.toArray⟩:ByteArray)[0]' h=c:=fun h=>by rw [<- L];exact (dy hp).symm
 have al:(0:Int)<(s.length:Int):=by omega
 clear L;rcases Z with ⟨k,E,O,rfl⟩ | ⟨k,R,rfl⟩ | ⟨k,R,aS,rfl⟩ | ⟨k,E,O,rfl⟩ | ⟨k,E,X,rfl⟩ | ⟨k,E,X,an,d,hd,hc⟩
 ·go_in
  go_wp2_with fail;refine (ia _ c _ k).mono ?_;rintro e F ⟨x,l,rfl,j⟩;have q:(0<=x)=True:=by simpa using l
  clear l;have b:=j;go_wp2_with fail;refine bodyPost_ret (v:=.tuple #[.int .i64 2,.int .i64 1,.nilIface]) (by simp [results,Tryz.results103,go_sem, *] <;> trivial) rfl ?_;exact ⟨rfl,b⟩
 ·have S:((0:Int)<(n:Int))=True:=by simp;omega
  have P:((24:Int)<(n:Int))=True:=by simp;omega
  go_in;go_wp2_with fail;refine (ia _ c _ k).mono ?_;rintro e F ⟨x,l,rfl,j⟩;have q:(0<=x)=False:=by simpa using l
  clear l;have b:=j;go_wp2_with fail;refine (dh _ (s) B (n) o).mono ?_;rintro e I ⟨rfl,q2⟩;have a:=b.trans (q2.mono b.size);have A:=q2.size;clear q2;go_wp2_with fail;refine bodyPost_ret (v:=.tuple #[.int .i64 0,.int .i64 0,.iface 58 (.int .i64 5)]) (by simp [results,Tryz.results103,go_sem, *] <;> trivial) rfl ?_;exact ⟨rfl,a⟩
 ·have S:((0:Int)<(n:Int))=True:=by simp;omega
  have P:((24:Int)<(n:Int))=False:=by simp;omega
  go_in;go_wp2_with fail;refine (ia _ c _ k).mono ?_;rintro e F ⟨x,l,rfl,j⟩;have q:(0<=x)=False:=by simpa using l
  clear l;have b:=j;go_wp2_with fail;refine (dh _ (s) B (n) o).mono ?_;rintro e I ⟨rfl,q2⟩;have a:=b.trans (q2.mono b.size);have A:=q2.size;clear q2;go_wp2_with fail;refine bodyPost_ret (v:=.tuple #[.int .i64 0,.int .i64 n,.nilIface]) (by simp [results,Tryz.results103,go_sem, *] <;> trivial) rfl ?_;exact ⟨rfl,a⟩
 ·subst E
  subst O;go_in;go_wp2_with fail;refine (ia _ c _ k).mono ?_;rintro e F ⟨x,l,rfl,j⟩;have q:(0<=x)=False:=by simpa using l
  clear l;have b:=j;go_wp2_with fail;refine (dh _ (s) B (0) o).mono ?_;rintro e I ⟨rfl,q2⟩;have a:=b.trans (q2.mono b.size);have A:=q2.size;clear q2;go_wp2_with fail;refine (cI _ (s) B (0) r).mono ?_;rintro e K ⟨rfl,q3⟩;have g:=a.trans (q3.mono a.size);have D:=q3.size;clear q3 a;go_wp2_with fail;refine bodyPost_ret (v:=.tuple #[.int .i64 0,.int .i64 0,.iface 58 (.int .i64 2)]) (by simp [results,Tryz.results103,go_sem, *] <;> trivial) rfl ?_;exact ⟨rfl,g⟩
 ·subst E
  have U:((m:Int)==0)=false:=by simp;omega
  have Y:((60:Int)<(m:Int))=True:=by simp;omega
  go_in;go_wp2_with fail;refine (ia _ c _ k).mono ?_;rintro e F ⟨x,l,rfl,j⟩;have q:(0<=x)=False:=by simpa using l
  clear l;have b:=j;go_wp2_with fail;refine (dh _ (s) B (0) o).mono ?_;rintro e I ⟨rfl,q2⟩;have a:=b.trans (q2.mono b.size);have A:=q2.size;clear q2;go_wp2_with fail;refine (cI _ (s) B (m) r).mono ?_;rintro e K ⟨rfl,q3⟩;have g:=a.trans (q3.mono a.size);have D:=q3.size;clear q3 a;go_wp2_with fail;refine bodyPost_ret (v:=.tuple #[.int .i64 0,.int .i64 0,.iface 58 (.int .i64 4)]) (by simp [results,Tryz.results103,go_sem, *] <;> trivial) rfl ?_;exact ⟨rfl,g⟩
 subst E;have U:((m:Int)==0)=false:=by simp;omega
 have Y:((60:Int)<(m:Int))=False:=by simp;omega
 rw [Nat.zero_add] at hd;rcases Nat.lt_or_ge m s.length with H | H
 ·have ac:∀ h,(⟨s.toArray⟩:ByteArray)[m]' h=d:=fun h=>by rw [<- hd];exact (dy H).symm
  have N:((m:Int)<(s.length:Int))=True:=by simp;omega
  have ad:m<s.length:=H;clear hd;rcases hc with ⟨C,rfl⟩ | ⟨C,z,rfl⟩ | ⟨C,t,rfl⟩ | ⟨C,p,rfl⟩ | ⟨C,z,t,p,rfl⟩
  ·skip
   go_in;go_wp2_with fail;refine (ia _ c _ k).mono ?_;rintro e F ⟨x,l,rfl,j⟩;have q:(0<=x)=False:=by simpa using l
   clear l;have b:=j;go_wp2_with fail;refine (dh _ (s) B (0) o).mono ?_;rintro e I ⟨rfl,q2⟩;have a:=b.trans (q2.mono b.size);have A:=q2.size;clear q2;go_wp2_with fail;refine (cI _ (s) B (m) r).mono ?_;rintro e K ⟨rfl,q3⟩;have g:=a.trans (q3.mono a.size);have D:=q3.size;clear q3 a;go_wp2_with fail;refine (cH _ d true C).mono ?_;rintro e Q ⟨rfl,y⟩;have u:=g.trans (y.mono g.size);have G:=y.size;clear y g;go_wp2_with fail;refine bodyPost_ret (v:=.tuple #[.int .i64 0,.int .i64 0,.iface 58 (.int .i64 2)]) (by simp [results,Tryz.results103,go_sem, *] <;> trivial) rfl ?_;exact ⟨rfl,u⟩
  ·have J:(((d.toNat:Nat):Int)==95)=true:=(aI d 95).trans (by simp [z])
   clear z;go_in;go_wp2_with fail;refine (ia _ c _ k).mono ?_;rintro e F ⟨x,l,rfl,j⟩;have q:(0<=x)=False:=by simpa using l
   clear l;have b:=j;go_wp2_with fail;refine (dh _ (s) B (0) o).mono ?_;rintro e I ⟨rfl,q2⟩;have a:=b.trans (q2.mono b.size);have A:=q2.size;clear q2;go_wp2_with fail;refine (cI _ (s) B (m) r).mono ?_;rintro e K ⟨rfl,q3⟩;have g:=a.trans (q3.mono a.size);have D:=q3.size;clear q3 a;go_wp2_with fail;refine (cH _ d false C).mono ?_;rintro e Q ⟨rfl,y⟩;have u:=g.trans (y.mono g.size);have G:=y.size;clear y g;go_wp2_with fail;refine bodyPost_ret (v:=.tuple #[.int .i64 0,.int .i64 0,.iface 58 (.int .i64 2)]) (by simp [results,Tryz.results103,go_sem, *] <;> trivial) rfl ?_;exact ⟨rfl,u⟩
  ·have J:(((d.toNat:Nat):Int)==95)=false:=(aI d 95).trans (by simp [t])
   have M:(((d.toNat:Nat):Int)==46)=true:=(aI d 46).trans (by simp [t]);clear t;go_in;go_wp2_with fail;refine (ia _ c _ k).mono ?_;rintro e F ⟨x,l,rfl,j⟩;have q:(0<=x)=False:=by simpa using l
   clear l;have b:=j;go_wp2_with fail;refine (dh _ (s) B (0) o).mono ?_;rintro e I ⟨rfl,q2⟩;have a:=b.trans (q2.mono b.size);have A:=q2.size;clear q2;go_wp2_with fail;refine (cI _ (s) B (m) r).mono ?_;rintro e K ⟨rfl,q3⟩;have g:=a.trans (q3.mono a.size);have D:=q3.size;clear q3 a;go_wp2_with fail;refine (cH _ d false C).mono ?_;rintro e Q ⟨rfl,y⟩;have u:=g.trans (y.mono g.size);have G:=y.size;clear y g;go_wp2_with fail;refine bodyPost_ret (v:=.tuple #[.int .i64 0,.int .i64 0,.iface 58 (.int .i64 2)]) (by simp [results,Tryz.results103,go_sem, *] <;> trivial) rfl ?_;exact ⟨rfl,u⟩
  ·have J:(((d.toNat:Nat):Int)==95)=false:=(aI d 95).trans (by simp [p])
   have M:(((d.toNat:Nat):Int)==46)=false:=(aI d 46).trans (by simp [p]);have W:(((d.toNat:Nat):Int)==47)=true:=(aI d 47).trans (by simp [p]);clear p;go_in;go_wp2_with fail;refine (ia _ c _ k).mono ?_;rintro e F ⟨x,l,rfl,j⟩;have q:(0<=x)=False:=by simpa using l
   clear l;have b:=j;go_wp2_with fail;refine (dh _ (s) B (0) o).mono ?_;rintro e I ⟨rfl,q2⟩;have a:=b.trans (q2.mono b.size);have A:=q2.size;clear q2;go_wp2_with fail;refine (cI _ (s) B (m) r).mono ?_;rintro e K ⟨rfl,q3⟩;have g:=a.trans (q3.mono a.size);have D:=q3.size;clear q3 a;go_wp2_with fail;refine (cH _ d false C).mono ?_;rintro e Q ⟨rfl,y⟩;have u:=g.trans (y.mono g.size);have G:=y.size;clear y g;go_wp2_with fail;refine bodyPost_ret (v:=.tuple #[.int .i64 0,.int .i64 0,.iface 58 (.int .i64 2)]) (by simp [results,Tryz.results103,go_sem, *] <;> trivial) rfl ?_;exact ⟨rfl,u⟩
  have J:(((d.toNat:Nat):Int)==95)=false:=(aI d 95).trans (by simp [z]);have M:(((d.toNat:Nat):Int)==46)=false:=(aI d 46).trans (by simp [t]);have W:(((d.toNat:Nat):Int)==47)=false:=(aI d 47).trans (by simp [p]);clear z t p;go_in;go_wp2_with fail;refine (ia _ c _ k).mono ?_;rintro e F ⟨x,l,rfl,j⟩;have q:(0<=x)=False:=by simpa using l
  clear l;have b:=j;go_wp2_with fail;refine (dh _ (s) B (0) o).mono ?_;rintro e I ⟨rfl,q2⟩;have a:=b.trans (q2.mono b.size);have A:=q2.size;clear q2;go_wp2_with fail;refine (cI _ (s) B (m) r).mono ?_;rintro e K ⟨rfl,q3⟩;have g:=a.trans (q3.mono a.size);have D:=q3.size;clear q3 a;go_wp2_with fail;refine (cH _ d false C).mono ?_;rintro e Q ⟨rfl,y⟩;have u:=g.trans (y.mono g.size);have G:=y.size;clear y g;go_wp2_with fail;refine bodyPost_ret (v:=.tuple #[.int .i64 1,.int .i64 m,.nilIface]) (by simp [results,Tryz.results103,go_sem, *] <;> trivial) rfl ?_;exact ⟨rfl,u⟩
 have N:((m:Int)<(s.length:Int))=False:=by simp;omega
 have V:d=0:=by rw [<- hd];exact fE H
 subst V;clear hd;rcases hc with ⟨C,rfl⟩ | ⟨C,z,rfl⟩ | ⟨C,t,rfl⟩ | ⟨C,p,rfl⟩ | ⟨C,z,t,p,rfl⟩
 ·exact absurd C (by decide)
 ·exact absurd z (by decide)
 ·exact absurd t (by decide)
 ·exact absurd p (by decide)
 clear z t p C;go_in;go_wp2_with fail;refine (ia _ c _ k).mono ?_;rintro e F ⟨x,l,rfl,j⟩;have q:(0<=x)=False:=by simpa using l
 clear l;have b:=j;go_wp2_with fail;refine (dh _ (s) B (0) o).mono ?_;rintro e I ⟨rfl,q2⟩;have a:=b.trans (q2.mono b.size);have A:=q2.size;clear q2;go_wp2_with fail;refine (cI _ (s) B (m) r).mono ?_;rintro e K ⟨rfl,q3⟩;have g:=a.trans (q3.mono a.size);have D:=q3.size;clear q3 a;go_wp2_with fail;refine bodyPost_ret (v:=.tuple #[.int .i64 1,.int .i64 m,.nilIface]) (by simp [results,Tryz.results103,go_sem, *] <;> trivial) rfl ?_;exact ⟨rfl,g⟩
end Go.Proofs.YtndhgcfajlalhaaGreatDoor
