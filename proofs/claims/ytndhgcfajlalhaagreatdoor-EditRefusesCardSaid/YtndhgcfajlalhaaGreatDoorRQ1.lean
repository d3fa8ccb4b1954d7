import Derived.Below
import Derived.Laws.OwnMore
import Derived.Deep.Draws
import Derived.OneCell
import Derived.Laws.Rows
import Derived.Test.YtndhgcfajlalhaaGreatDoorProg
import Derived.WalkKit
import Derived.WalkSpells
import Derived.WalkLawsBesides
import Derived.BigQuiet
import Derived.Deep.QuietTactic
import Derived.Deep.AppendLies
import Derived.Lib.Hide
import Derived.Deep.RegionHeld3
import Derived.Deep.DrawnRows
import Derived.Shelf.Strings.Builder1
import Derived.Shelf.Strings.Builder2
import Derived.Shelf.Strings.OnBuilder
import Derived.Shelf.Strings.Trim
import Derived.Shelf.Small.Utf8
import Derived.Shelf.Small.Bits
import Derived.Shelf.Small.Strs
import Derived.Shelf.Small.Wraps
import Derived.Shelf.Strings.BuilderF
import Derived.Shelf.Strings.BuilderK
import Derived.Shelf.Strings.Builder2Cap
import Derived.Shelf.Strconv.Atoi
import Derived.Shelf.Strconv.Itoa0
import Derived.Shelf.Strconv.Itoa1
import Derived.Shelf.LaysM
import Derived.Shelf.Strconv.Itoa2
import Derived.Shelf.Strconv.Itoa3
import Derived.Shelf.Strings.Search1
import Derived.Shelf.Strings.Search2
import Derived.Shelf.Strings.Cut
import Derived.Shelf.Strings.Shaped
import Derived.Shelf.Strings.Prefix
import Derived.Shelf.Strings.Runes
import Derived.Shelf.Strings.AsciiSet
import Derived.Shelf.Bits.Mul64
import Derived.Shelf.Strings.Repeat
import Derived.Shelf.Unicode.DecodeSlow
import Derived.Shelf.Strings.BuilderCap
import Derived.IntWalk
import Derived.Deep.DeepCutAuto
import Derived.Deep.RegionHeld
import Derived.Lib.ItoaNum
import Derived.Lib.ItoaMem
import Derived.Lib.Repeat
import Derived.Lib.Join
import Derived.Lib.Atoi
import Derived.Lib.SlTrimSet
import Derived.Lib.AppendIntMem
import Derived.Shelf.Strings.SlTrimAscii
import Derived.Lib.IndexMore
import Derived.Lib.SliceRun
import Derived.Deep.RegionLaw
import Derived.Laws.StructEq
import Derived.Test.YtndhgcfajlalhaaGreatDoorCards
import Derived.Test.YtndhgcfajlalhaaGreatDoorTie
import Derived.ProofKit
import Derived.OpenShut
import Derived.Deep.DeepHandedRow
import Derived.Lib.LaidTab
import Derived.Shelf.Vars
import Derived.Deep.Slices
import Derived.SizedLaws
import Derived.ChangeMaps5
import Derived.Test.YtndhgcfajlalhaaGreatDoorBQ7
set_option linter.unusedVariables false
set_option maxHeartbeats 8000000
set_option maxRecDepth 100000
namespace Go.Proofs.YtndhgcfajlalhaaGreatDoor
open Go Go.RowKit Bn
attribute [local go_sem ↓] Go.wp_at_zero Go.wp_at_succ
theorem p_undone (N:Nat->Prop) (B:Nat) (w:World) (f:Nat) (g:bQ) (h:cT N B w f g) (F:g.undone.length<=1000):Calls Tryz.prog 22 #[.pointer (some ⟨f,0,none⟩)] w (Aq w g.undone):=by
 obtain ⟨A,n,c,C,p,d,D,q,e,E,m,u,h⟩:=h;obtain ⟨t,c5,x,c6,i,c7,rfl,rfl,rfl,r,y,o⟩:=h.forms;have c1:=h.core.blk.cell 6;have j:=Qh h.und.1.eds;clear h;go_in;go_wp2_with fail;refine (jI w i g.undone.length c7 g.undone j.out (by omega)).mono ?_;rintro s z ⟨v,rfl,a,b⟩;obtain ⟨k,c2,rfl,l⟩:=a.form;go_wp2;go_ret;exact ⟨k,c2,rfl,a.eds,b⟩
theorem p_do_big (N:Nat->Prop) (B:Nat) (w:World) (a:Nat) (g:bQ) (h:cT N B w a g) (ed:bo) (m:bQ) (z:256<=g.done.length):Calls Tryz.prog 20 #[.pointer (some ⟨a,0,none⟩),.agg #[.int .i64 ed.kind,aa ed.name,aa ed.text]] w (bS N B w a 4 m):=by
 obtain ⟨A,n,c,C,p,d,D,q,e,x,o,y,h⟩:=h;obtain ⟨r,c5,j,c6,u,c7,rfl,rfl,rfl,v,s,t⟩:=h.forms;have l:=(ae w).alloc Qr (.cells #[.int .i64 ed.kind,aa ed.name,aa ed.text] 39);have b:w.cell? ⟨a,5,none⟩=some (.slice j g.done.length c6):=h.core.blk.cell 5;have k:=h.core.blk.lt;have f:¬ a=w.heap.size:=by omega
 have i:((256:Int)<=(g.done.length:Nat))=True:=eq_true (by omega);clear h;go_in;go_wp2;go_ret;exact ⟨rfl,fun _=>l,fun h=>absurd h (by decide)⟩
theorem p_call_1 (N:Nat->Prop) (B:Nat) (w:World) (a:Nat) (s:bX) (hw:s.what=1) (x:Int) (b:bQ) (hB:B<=w.heap.size) (hN:∀ x,N x->x<w.heap.size) (h:Calls Tryz.prog 21 #[.pointer (some ⟨a,0,none⟩)] (w.alloc (.cells #[.int .i64 s.what,.int .i64 s.ed.kind,aa s.ed.name,aa s.ed.text] 41)) (bS N B (w.alloc (.cells #[.int .i64 s.what,.int .i64 s.ed.kind,aa s.ed.name,aa s.ed.text] 41)) a x b)):Calls Tryz.prog 13 #[.pointer (some ⟨a,0,none⟩),.agg #[.int .i64 s.what,.int .i64 s.ed.kind,aa s.ed.name,aa s.ed.text]] w (bS N B w a x b):=by
 have d:=Qh (And.intro hB hN);have H:=Qh h;have j:(s.what=1)=True:=eq_true hw;have k:(s.what==1)=true:=by simpa using hw
 clear h hw;go_in;go_wp2_with fail;refine H.out.mono ?_;rintro e g ⟨rfl,f,c⟩;have i:=Qh (show bS N B (w.alloc (.cells #[.int .i64 s.what,.int .i64 s.ed.kind,aa s.ed.name,aa s.ed.text] 41)) a x b (.returned (aV x)) g from ⟨rfl,f,c⟩);clear f c;go_wp2;go_ret;exact i.out.base ((ae w).alloc Qr _) d.out.1 d.out.2
theorem p_call_2 (N:Nat->Prop) (B:Nat) (w:World) (a:Nat) (s:bX) (hw:s.what=2) (x:Int) (b:bQ) (hB:B<=w.heap.size) (hN:∀ x,N x->x<w.heap.size) (h:Calls Tryz.prog 23 #[.pointer (some ⟨a,0,none⟩)] (w.alloc (.cells #[.int .i64 s.what,.int .i64 s.ed.kind,aa s.ed.name,aa s.ed.text] 41)) (bS N B (w.alloc (.cells #[.int .i64 s.what,.int .i64 s.ed.kind,aa s.ed.name,aa s.ed.text] 41)) a x b)):Calls Tryz.prog 13 #[.pointer (some ⟨a,0,none⟩),.agg #[.int .i64 s.what,.int .i64 s.ed.kind,aa s.ed.name,aa s.ed.text]] w (bS N B w a x b):=by
 have d:=Qh (And.intro hB hN);have H:=Qh h;have k:(s.what=1)=False:=eq_false (by omega);have l:(s.what==1)=false:=by simp;omega
 have m:(s.what=2)=True:=eq_true hw;have j:(s.what==2)=true:=by simpa using hw
 clear h hw;go_in;go_wp2_with fail;refine H.out.mono ?_;rintro e g ⟨rfl,f,c⟩;have i:=Qh (show bS N B (w.alloc (.cells #[.int .i64 s.what,.int .i64 s.ed.kind,aa s.ed.name,aa s.ed.text] 41)) a x b (.returned (aV x)) g from ⟨rfl,f,c⟩);clear f c;go_wp2;go_ret;exact i.out.base ((ae w).alloc Qr _) d.out.1 d.out.2
theorem p_call_0 (N:Nat->Prop) (B:Nat) (w:World) (c:Nat) (s:bX) (a:s.what≠1) (b:s.what≠2) (x:Int) (d:bQ) (hB:B<=w.heap.size) (hN:∀ x,N x->x<w.heap.size) (h:Calls Tryz.prog 20 #[.pointer (some ⟨c,0,none⟩),.agg #[.int .i64 s.ed.kind,aa s.ed.name,aa s.ed.text]] (w.alloc (.cells #[.int .i64 s.what,.int .i64 s.ed.kind,aa s.ed.name,aa s.ed.text] 41)) (bS N B (w.alloc (.cells #[.int .i64 s.what,.int .i64 s.ed.kind,aa s.ed.name,aa s.ed.text] 41)) c x d)):Calls Tryz.prog 13 #[.pointer (some ⟨c,0,none⟩),.agg #[.int .i64 s.what,.int .i64 s.ed.kind,aa s.ed.name,aa s.ed.text]] w (bS N B w c x d):=by
 have g:=Qh (And.intro hB hN);have H:=Qh h;have m:(s.what=1)=False:=eq_false a;have n:(s.what==1)=false:=by simpa using a
 have o:(s.what=2)=False:=eq_false b;have l:(s.what==2)=false:=by simpa using b
 clear h a b;go_in;go_wp2_with fail;refine H.out.mono ?_;rintro e j ⟨rfl,i,f⟩;have k:=Qh (show bS N B (w.alloc (.cells #[.int .i64 s.what,.int .i64 s.ed.kind,aa s.ed.name,aa s.ed.text] 41)) c x d (.returned (aV x)) j from ⟨rfl,i,f⟩);clear i f;go_wp2;go_ret;exact k.out.base ((ae w).alloc Qr _) g.out.1 g.out.2
theorem p_call {N:Nat->Prop}{B:Nat}{w:World}{a:Nat}{g:bQ}{l:ag}{m:Nat}(h:cT N B w a g) (c:cQ l m g) (C:m<=900) (s:bX) (z:oj s.ed) (b:Tab w) (n:Mx w):∃ x g',Calls Tryz.prog 13 #[.pointer (some ⟨a,0,none⟩),.agg #[.int .i64 s.what,.int .i64 s.ed.kind,aa s.ed.name,aa s.ed.text]] w (bS N B w a x g')/\(x=0->cQ l (m+1) g'):=by
 have i:=(ae w).alloc Qr (.cells #[.int .i64 s.what,.int .i64 s.ed.kind,aa s.ed.name,aa s.ed.text] 41);have d:=h.blw i;have A:=c.nl
 have hB:B<=w.heap.size:=by
  obtain ⟨_,_,_,_,_,_,_,_,_,_,_,_,h⟩:=h;have:=h.core.hB;have:=h.core.blk.lt;omega
 have hN:∀ x,N x->x<w.heap.size:=by
  obtain ⟨_,_,_,_,_,_,_,_,_,_,_,_,h⟩:=h;exact h.core.hN
 by_cases h1:s.what=1
 ·rcases Nat.eq_zero_or_pos g.done.length with e | e
  ·exact ⟨11,g,p_call_1 N B w a s h1 11 g hB hN (ni N B _ a g d (List.eq_nil_of_length_eq_zero e) g),fun h=>by cases h⟩
  obtain ⟨k,p⟩:∃ k,g.done.length=k+1:=⟨g.done.length-1,by omega⟩;have u:k<g.before.length:=by have:=c.len;omega
  have f:g.before[k]?=some g.before[k]:=List.getElem?_eq_getElem u;have q:g.done[k]?=some g.done[k]:=List.getElem?_eq_getElem (by omega);exact ⟨0,_,p_call_1 N B w a s h1 0 _ hB hN (qI N B _ a g d k p _ f _ q (by omega) (by omega)),fun _=>(c.cut p f q).more (by omega)⟩
 by_cases h2:s.what=2
 ·rcases Nat.eq_zero_or_pos g.undone.length with e | e
  ·exact ⟨11,g,p_call_2 N B w a s h2 11 g hB hN (nq N B _ a g d (List.eq_nil_of_length_eq_zero e) g),fun h=>by cases h⟩
  obtain ⟨k,p⟩:∃ k,g.undone.length=k+1:=⟨g.undone.length-1,by omega⟩;have q:g.undone[k]?=some g.undone[k]:=List.getElem?_eq_getElem (by omega);have j:oj g.undone[k]:=c.sm _ (List.mem_append_right _ (List.getElem_mem _));obtain ⟨x,t,o,f⟩:=kJ g.now g.undone[k] (by have:=j.2;omega);refine ⟨x,_,p_call_2 N B w a s h2 x _ hB hN (qL N B _ a g d k p _ q x t o (by omega) (by omega) (b.belw i) (n.belw i)),fun v=>?_⟩;subst v;exact c.add o (f rfl) j (fun y r=>c.sm y (List.mem_append_right _ (List.mem_of_mem_take r))) (by rw [List.length_take];omega)
 rcases Nat.lt_or_ge g.done.length 256 with e | e
 ·obtain ⟨x,t,o,f⟩:=kJ g.now s.ed (by have:=z.2;omega)
  refine ⟨x,_,p_call_0 N B w a s h1 h2 x _ hB hN (CA N B _ a g d s.ed x t o e (b.belw i) (n.belw i)),fun v=>?_⟩;subst v;exact c.add o (f rfl) z (fun y r=>by cases r) (by simp;omega)
 exact ⟨4,g,p_call_0 N B w a s h1 h2 4 g hB hN (p_do_big N B _ a g d s.ed g e),fun h=>by cases h⟩
def lnS (l:List bX):Nat:=(l.map fun s=>s.ed.name.length+s.ed.text.length).sum
theorem lnS_step {l:List bX}{i:Nat}{s:bX}(h:l[i]?=some s):lnS (l.take (i+1))=lnS (l.take i)+(s.ed.name.length+s.ed.text.length):=by
 have a:l.take (i+1)=l.take i++[s]:=by rw [List.take_add_one,h];rfl
 unfold lnS;rw [a,List.map_append,List.sum_append];simp
theorem lnS_mem {l:List bX}{s:bX}(h:s∈l):s.ed.name.length+s.ed.text.length<=lnS l:=by
 unfold lnS
 induction l with
 | nil=>cases h
 | cons a r ih =>
  rw [List.map_cons,List.sum_cons];rcases List.mem_cons.1 h with e | e
  ·subst e;omega
  have:=ih e;omega
def lgS (l:List bX):Bool:=decide (40<l.length)||decide (4000<lnS l)
theorem lgS_sm {l:List bX}(h:lgS l=false):l.length<=40/\∀ s∈l,oj s.ed:=by
 unfold lgS at h;simp at h;exact ⟨h.1,fun s a=>by have:=lnS_mem a;exact ⟨by omega,by omega⟩⟩
theorem l57_long (w:World) (A:Option Addr) (n c:Nat) (l:List bX) (h:SlS kK 4 w A n c l) (B:n<=reachBytes) (v:Bool) (z:lgS l=v):Calls Tryz.prog 10 #[.slice A n c] w (ax w (.bool v)):=by
 have D:=gR B;have u:=Qh z;have H:=Qh h;have x:l.length=n:=h.1;clear h z B;go_in;go_wp2_with fail;go_loopw [3,4] (fun J t wr=>∃ (i:Nat) (s:Int),J=.int .i64 s/\t=.int .i64 (i:Nat)/\i<=n/\Hid (n<=40->s=(lnS (l.take i):Nat)/\lnS (l.take i)<=i*281474976710656)/\Below w.heap.size w wr) (fun _ t _=>n-(intOf t).toNat)
 case atStart=>exact ⟨0,0,rfl,rfl,Nat.zero_le _,Qh fun _=>⟨rfl,by simp [lnS]⟩,ae w⟩
 case round =>
  obtain ⟨i,s,rfl,rfl,R,y,d⟩:=hrel;rename World=>wi;rcases Nat.lt_or_ge i n with r | C
  ·have q:((i:Int)<(n:Int))=True:=by simp;omega
   have L:((i:Int)<(n:Int)):=by omega
   obtain ⟨g,o,a,K,N,_,m,hB⟩:=(H.out.st d).at_ r;subst K;obtain ⟨d0,d1,d2,d3,k,p⟩:=hB;have Q:=gR k;have O:=gR p;have F:=Qh m;have P:IntKind.i64.wrap ((a.ed.name.length:Int)+(a.ed.text.length:Int))=(a.ed.name.length:Int)+(a.ed.text.length:Int):=wrap_i64 (by omega) (by omega);have G:(i:Int)<140737488355328:=by omega
   clear m k p;go_wp2_with fail;go_quiet (fail);go_wp2_with fail;go_roundw
   case rel =>
    refine ⟨i+1,wrap64 (s+((a.ed.name.length:Int)+(a.ed.text.length:Int))),rfl,by go_num,by omega,Qh fun j=>?_,af d _⟩;obtain ⟨I,M⟩:=y.out j;rw [lnS_step F.out,I];unfold wrap64;omega
   case measure=>simp [intOf];omega
  have q:((i:Int)<(n:Int))=False:=by simp;omega
  obtain rfl:n=i:=by omega
  by_cases j:40<n
  ·have f1:((40:Int)<(n:Int))=True:=eq_true (by omega)
   have b:v=true:=by rw [<- u.out];unfold lgS;rw [x,decide_eq_true j];rfl
   subst b;go_wp2;go_ret;exact ⟨rfl,d⟩
  have f1:((40:Int)<(n:Int))=False:=eq_false (by omega);obtain ⟨rfl,hb⟩:=y.out (by omega);have E:l.take n=l:=List.take_of_length_le (by omega);rw [E] at hb ⊢;have f:lgS l=decide (4000<lnS l):=by unfold lgS;rw [x,decide_eq_false j];rfl
  by_cases h4:4000<lnS l
  ·have f2:((4000:Int)<((lnS l:Nat):Int))=True:=eq_true (by omega)
   have b:v=true:=by rw [<- u.out,f];exact decide_eq_true h4
   subst b;clear f;go_wp2;go_ret;exact ⟨rfl,d⟩
  have f2:((4000:Int)<((lnS l:Nat):Int))=False:=eq_false (by omega);have b:v=false:=by rw [<- u.out,f];exact decide_eq_false h4
  subst b;clear f;go_wp2;go_ret;exact ⟨rfl,d⟩
abbrev frk (u0 u1 u2 u3 u4 u5 u6 u7 u8 u9 u10 u11 u12 u13 u14 u15 u16 u17 u18 u19 u20 u21 u22 u23 u24 u25 u26 u27 u28 u29 u30 u31 u32 u33 u34 u35 u36 u37 u38 u39 u40 u41 u42 u43 u44 u45 u46 u47 u48 u49 u50 u51 u52:Value) (xf:Nat->Value):Act:=⟨List.toArray (u0::u1::u2::u3::u4::u5::u6::u7::u8::u9::u10::u11::u12::u13::u14::u15::u16::u17::u18::u19::u20::u21::u22::u23::u24::u25::u26::u27::u28::u29::u30::u31::u32::u33::u34::u35::u36::u37::u38::u39::u40::u41::u42::u43::u44::u45::u46::u47::u48::u49::u50::u51::u52::xf 0::xf 1::xf 2::xf 3::xf 4::xf 5::xf 6::xf 7::xf 8::xf 9::xf 10::xf 11::xf 12::xf 13::xf 14::xf 15::xf 16::xf 17::xf 18::[]),[]⟩
theorem om (w:World) (A:Option Addr) (n c:Nat) (C:Option Addr) (p d:Nat) (D:Option Addr) (q e:Nat) (L:ag) (h:LkS reachBytes w A n c C p d D q e L) (SA:Option Addr) (J sc:Nat) (l:List bX) (hs:SlS kK 4 w SA J sc l) (bu:J<=reachBytes) (ad:Tab w) (b8:Mx w):Calls Tryz.prog 6 #[.agg #[aa L.name,.slice A n c,.slice C p d,.slice D q e],.slice SA J sc] w (ax w (.bool true)):=by
 have q0:=(ae w).alloc Qr (.cells #[aa L.name,.slice A n c,.slice C p d,.slice D q e] 26);have x0:Blk (w.alloc (.cells #[aa L.name,.slice A n c,.slice C p d,.slice D q e] 26)) w.heap.size 26 #[aa L.name,.slice A n c,.slice C p d,.slice D q e]:=Blk.new _ _ _;have H:=Qh h;have ac:=Qh hs;have y:=Qh ad;have HM:=Qh b8;have cy:=Qh bu;obtain ⟨v1,bw⟩:∃ v,ol L=v:=⟨_,rfl⟩;obtain ⟨v2,b6⟩:∃ v,lgS l=v:=⟨_,rfl⟩;have ch:=Qh bw;have b9:=Qh b6;clear h hs ad b8 bu bw b6;go_in;go_wp2_with fail;generalize (w.alloc (.cells #[aa L.name,.slice A n c,.slice C p d,.slice D q e] 26))=w0 at q0 x0 ⊢;refine (ci w0 (y.out.belw q0) (HM.out.belw q0)).mono ?_;rintro T w1 ⟨rfl,B⟩;have q1:=q0.trans (B.mono q0.size);have x1:=x0.below B x0.lt;obtain ⟨a0,a1,a2,a3⟩:=x1.c4;clear x0 q0 B;go_wp2_with fail;refine (lu w1 A n c C p d D q e L (H.out.belw q1) v1 ch.out).mono ?_;rintro T w2 ⟨rfl,u⟩;have q2:=q1.trans (u.mono q1.size);have x2:=x1.below u x1.lt;clear a0 a1 a2 a3 x1 q1 u;cases v1;rotate_left
 ·go_wp2_with fail
  refine (ci w2 (y.out.belw q2) (HM.out.belw q2)).mono ?_;rintro T w3 ⟨rfl,r⟩;have q3:=q2.trans (r.mono q2.size);go_wp2;go_ret;exact ⟨rfl,q3⟩
 go_wp2_with fail;refine (l57_long w2 SA J sc l (ac.out.st q2) cy.out v2 b9.out).mono ?_;rintro T w3 ⟨rfl,r⟩;have q3:=q2.trans (r.mono q2.size);have x3:=x2.below r x2.lt;clear x2 q2 r;cases v2;rotate_left
 ·go_wp2_with fail
  refine (ci w3 (y.out.belw q3) (HM.out.belw q3)).mono ?_;rintro T I ⟨rfl,M⟩;have W:=q3.trans (M.mono q3.size);go_wp2;go_ret;exact ⟨rfl,W⟩
 have H3:=Qh (((H.out.belw q3).of40 (qQ ch.out)).upto (by decide:40<=130));obtain ⟨a0,a1,a2,a3⟩:=x3.c4;go_wp2_with fail;refine (qF w3 A n c C p d D q e L 130 H3.out (by decide) (by decide) (aG L) rfl).mono ?_;rintro T I ⟨rfl,M⟩;have W:=q3.trans (M.mono q3.size);have x4:=x3.below M x3.lt;have H4:=Qh (H3.out.belw M);clear a0 a1 a2 a3 x3 q3 M H3;by_cases hL:aG L=0;rotate_left
 ·have u1:(aG L=0)=False:=eq_false hL
  have u2:(aG L==0)=false:=by simpa using hL
  go_wp2_with fail;refine (ci I (y.out.belw W) (HM.out.belw W)).mono ?_;rintro T w5 ⟨rfl,ab⟩;have q5:=W.trans (ab.mono W.size);go_wp2;go_ret;exact ⟨rfl,q5⟩
 rw [hL];obtain ⟨a0,a1,a2,a3⟩:=x4.c4;have bY:=Qh (dJ hL);obtain ⟨bz,bn⟩:=lgS_sm b9.out;have cn:=Qh bn;have c6:J<=40:=by rw [<- ac.out.1];exact bz
 have cz:J<=sc:=ac.out.2.1;clear bn bz;go_wp2_with fail;refine (vM (fun _=>False) I.heap.size I A n c C p d D q e L H4.out hL Qr (fun _ h=>h.elim)).mono ?_;rintro T w5 ⟨V,rfl,t,ab⟩;have cb:=Qh t;have cv:=Qh ab;clear a0 a1 a2 a3 t ab;go_wp2_with fail;go_loopw [7] (fun iv wr=>∃ i:Nat,iv=.int .i64 (i:Nat)/\i<=J/\Hid (∃ g,cT (fun _=>False) I.heap.size wr V g/\cQ L i g)/\Below I.heap.size I wr) (fun iv _=>J-(intOf iv).toNat)
 case atStart=>exact ⟨0,rfl,Nat.zero_le _,Qh ⟨_,cb.out,cQ.new bY.out⟩,cv.out⟩
 case round =>
  obtain ⟨i,rfl,hi,HG,qi⟩:=hrel;rename World=>wi;obtain ⟨g,t,hI⟩:=HG.out;have db:=hI.nl;have a7:=Qh t;have HI:=Qh hI;clear HG t hI;rcases Nat.lt_or_ge i J with cr | dn
  ·have cp:((i:Int)<(J:Int))=True:=by simp;omega
   have di:((i:Int)<(J:Int)):=by omega
   go_wp2_with fail;refine (kB (fun _=>False) I.heap.size wi V g a7.out HI.out.now_).mono ?_;rintro T wj ⟨A1,n1,c1,C1,p1,d1,D1,q1,f1,rfl,b0,B⟩;have a4:=Qh (a7.out.blw B);have b3:=Qh b0;clear b0;go_wp2_with fail;refine (qK (fun _=>False) I.heap.size wj V g a4.out (by omega)).mono ?_;rintro T wk ⟨A2,c2,rfl,hD,u⟩;have Q:=Qh (a4.out.blw u);have ck:=Qh (b3.out.blw u);have bb:=Qh hD;have bk:=B.trans (u.mono B.size);clear hD a4 b3 B u;go_wp2_with fail;refine (p_undone (fun _=>False) I.heap.size wk V g Q.out (by omega)).mono ?_;rintro T wl ⟨A3,c3,rfl,hU,r⟩;have cc:=Qh (Q.out.blw r);have b1:=Qh (ck.out.blw r);have bv:=Qh (bb.out.ed r);have b4:=Qh hU;have bl:=bk.trans (r.mono bk.size);clear hU Q ck bb r bk;have qa:=(ae wl).alloc Qr (.cells #[aa g.now.name,.slice A1 n1 c1,.slice C1 p1 d1,.slice D1 q1 f1] 26);have xa:Blk (wl.alloc (.cells #[aa g.now.name,.slice A1 n1 c1,.slice C1 p1 d1,.slice D1 q1 f1] 26)) wl.heap.size 26 #[aa g.now.name,.slice A1 n1 c1,.slice C1 p1 d1,.slice D1 q1 f1]:=Blk.new _ _ _;have F:=Qh qa;have XA:=Qh xa;clear qa xa;go_upto_region 10 with fail;refine dl ?_;intro wa cm;have ao:wa=wl.alloc (.cells #[aa g.now.name,.slice A1 n1 c1,.slice C1 p1 d1,.slice D1 q1 f1] 26):=cm;rw [<- ao] at F XA;clear cm ao;have qA:=bl.trans (F.out.mono bl.size);have Z:=W.trans ((qi.trans (qA.mono qi.size)).mono W.size);obtain ⟨gs,os,s,es,c7,_,bg,hS⟩:=(ac.out.st Z).at_ cr;subst es;obtain ⟨k0,k1,k2,k3,_,_⟩:=hS;have k1:wa.cell? ⟨gs,os+i*4+1,none⟩=some (.int .i64 s.ed.kind):=k1;have k2:wa.cell? ⟨gs,os+i*4+2,none⟩=some (aa s.ed.name):=k2;have k3:wa.cell? ⟨gs,os+i*4+3,none⟩=some (aa s.ed.text):=k3;have a5:=Qh (cc.out.blw F.out);have br:=Qh (b1.out.blw F.out);have bf:=Qh (bv.out.ed F.out);have b2:=Qh (b4.out.ed F.out);obtain ⟨x,g',O,aC⟩:=p_call a5.out HI.out (by omega) s (cn.out s (List.mem_of_getElem? bg)) (y.out.belw Z) (HM.out.belw Z);have an:=Qh aC;have U:=Qh O;have qB:=Qh (qi.trans (qA.mono qi.size));clear cc b1 bv b4 F qA Z bg bl aC O a7;go_wp2_with fail;refine U.out.mono ?_;rintro T wb ⟨rfl,a6,aT⟩;clear k0 k1 k2 k3;by_cases hx:x=0
   ·subst hx
    obtain ⟨hr,hl⟩:=aT rfl;have b7:=an.out rfl;have cu:=Qh hl;have cx:=Qh b7;have a8:=qB.out.trans hr.bel;rw [aO];clear a6 aT hr hl b7;go_wp2_with fail;go_roundw
    case rel=>exact ⟨i+1,by go_num,by omega,Qh ⟨_,cu.out,cx.out⟩,a8⟩
    case measure=>simp [intOf];omega
   have E:=a6 hx;have X:=Qh (a5.out.blw E);have cs:=Qh (br.out.blw E);have HD:=Qh (bf.out.ed E);have HU:=Qh (b2.out.ed E);have XB:=Qh (XA.out.below E XA.out.lt);have ca:=qB.out.trans (E.mono qB.out.size);rw [eVp hx];clear a6 aT a5 br bf b2 XA hx E an U qB;go_wp2_with fail;change Code.wp _ _ _ (frk _ _ _ _ _ _ _ _ _ _ _ _ _ _ _ _ _ _ _ _ _ _ _ _ _ _ _ _ _ _ _ _ _ _ _ _ _ _ _ _ _ _ _ _ _ _ _ _ _ _ _ _ _ (fun ri=>List.getD (_::_::_::_::_::_::_::_::_::_::_::_::_::_::_::_::_::_::_::[]) ri undef)) _;refine cJ (x0:=_) (R:=fun ri=>List.getD ((PEq (.pointer (some ⟨V,0,none⟩)))::(VLv g.now)::(PEq (.agg #[aa g.now.name,.slice A1 n1 c1,.slice C1 p1 d1,.slice D1 q1 f1]))::(PEq (.bool true))::(PEq (.bool false))::(PEq (.bool false))::(PEq (.pointer (some ⟨V,0,none⟩)))::(fun v w=>∃ A c,v=.slice A g.done.length c/\SlS gh 3 w A g.done.length c g.done)::(PEq (.slice A2 g.done.length c2))::(PEq (.bool true))::(PEq (.bool false))::(PEq (.bool false))::(PEq (.bool false))::(PEq (.pointer (some ⟨V,0,none⟩)))::(fun v w=>∃ A c,v=.slice A g.undone.length c/\SlS gh 3 w A g.undone.length c g.undone)::(PEq (.slice A3 g.undone.length c3))::(PEq (.bool true))::(PEq (.bool false))::(PEq (.bool false))::[]) ri (fun _ _=>True)) (by kernel_rfl) (aq ⟨fun _ _=>rfl,fun _ _=>rfl,fun _ _=>rfl,fun _ _=>rfl,fun _ _=>rfl,fun _ _=>rfl,fun _ _=>rfl,fun _ _=>rfl,fun _ _=>rfl,fun _ _=>rfl,fun _ _=>rfl,fun _ _=>rfl,fun _ _=>rfl,fun _ _=>rfl,fun _ _=>rfl,fun _ _=>rfl,fun _ _=>rfl,fun _ _=>rfl,fun _ _=>rfl,trivial⟩) (aq (be _ 0 (by kernel_rfl))) (dG.get _ ⟨gEq _,(gLv g.now),gEq _,gEq _,gEq _,gEq _,gEq _,(fun _ _ _ ⟨A,c,h0,h1⟩ hb=>⟨A,c,h0,h1.ed hb⟩),gEq _,gEq _,gEq _,gEq _,gEq _,gEq _,(fun _ _ _ ⟨A,c,h0,h1⟩ hb=>⟨A,c,h0,h1.ed hb⟩),gEq _,gEq _,gEq _,gEq _,trivial⟩) (aq ⟨?_,?_,?_,?_,?_,?_,?_,?_,?_,?_,?_,?_,?_,?_,?_,?_,?_,?_,?_,trivial⟩) ?_;intro a j hb hd K m;have b:=trivial;have f:=trivial;rotate_left
   ·intro a j hb hd K m
    have bd:a 0=_:=hd ⟨0,.data⟩ (by simp) rfl;(try dsimp only [frk]);(try simp only [bd]);go_simp;go_at_call 17;refine (kB (fun _=>False) I.heap.size j V g (X.out.blw hb) HI.out.now_).mono ?_;rintro G wr ⟨P,n9,N,C9,p9,d9,D9,q9,f9,rfl,Y,o⟩;have k:=m.out _ _ ⟨P,n9,N,C9,p9,d9,D9,q9,f9,rfl,Y⟩ o;dsimp only [frk] at k;simp only [bd] at k;exact k
   intro a j hb hd K m;obtain ⟨c0,c1,c2,c3⟩:=(XB.out.below hb XB.out.lt).c4;have b:=trivial;have f:=trivial;rotate_left
   ·intro a j hb hd K m
    have a9:a 2=_:=hd ⟨2,.data⟩ (by simp) rfl;obtain ⟨P,n9,N,C9,p9,d9,D9,q9,f9,G,Y⟩:VLv g.now (a 1) j:=hd ⟨1,.data⟩ (by simp) rfl;(try dsimp only [frk]);(try simp only [a9,G]);go_simp;go_at_call 16;obtain ⟨c5,cL,c8⟩:=Y.len;have nb:=HI.out.now_.nb;have nj:=HI.out.now_.nj;have nd:=HI.out.now_.nd;refine (kD j P n9 N C9 p9 d9 D9 q9 f9 g.now (Y.out.upto (by decide)) A1 n1 c1 C1 p1 d1 D1 q1 f1 g.now ((cs.out.blw hb).out.upto (by decide)) HI.out.now_.np (by omega) (by omega) (by omega) true (by simp)).mono ?_;rintro G wr ⟨rfl,o⟩;have k:=m.out _ _ rfl o;dsimp only [frk] at k;simp only [a9,G] at k;exact k
   intro a j hb hd K m;have b:a 3=_:=hd ⟨3,.data⟩ (by simp) rfl;have f:=trivial;rotate_left;intro a j hb hd K m;have b:a 4=_:=hd ⟨4,.data⟩ (by simp) rfl;have f:=trivial;rotate_left;intro a j hb hd K m;have b:a 5=_:=hd ⟨5,.guard⟩ (by simp) rfl;have f:=trivial;rotate_left
   ·intro a j hb hd K m
    have bs:a 6=_:=hd ⟨6,.data⟩ (by simp) rfl;have S:a 5=_:=hd ⟨5,.guard⟩ (by simp) rfl;(try dsimp only [frk]);(try simp only [bs,S]);go_simp;go_at_call 14;refine (qK (fun _=>False) I.heap.size j V g (X.out.blw hb) (by omega)).mono ?_;rintro G wr ⟨P,N,rfl,h9,o⟩;have k:=m.out _ _ ⟨P,N,rfl,h9⟩ o;dsimp only [frk] at k;simp only [bs,S] at k;exact k
   intro a j hb hd K m;have b:a 5=_:=hd ⟨5,.guard⟩ (by simp) rfl;have f:=trivial;rotate_left
   ·intro a j hb hd K m
    have bx:a 8=_:=hd ⟨8,.data⟩ (by simp) rfl;have S:a 5=_:=hd ⟨5,.guard⟩ (by simp) rfl;obtain ⟨P,N,G,h9⟩:∃ A c,a 7=.slice A g.done.length c/\SlS gh 3 j A g.done.length c g.done:=hd ⟨7,.data⟩ (by simp) rfl;(try dsimp only [frk]);(try simp only [bx,S,G]);go_simp;go_at_call 24;refine (nr j P g.done.length N g.done h9 A2 c2 (HD.out.ed hb) (by omega)).mono ?_;rintro G wr ⟨rfl,o⟩;have k:=m.out _ _ rfl o;dsimp only [frk] at k;simp only [bx,S,G] at k;exact k
   intro a j hb hd K m;have b:a 9=_:=hd ⟨9,.data⟩ (by simp) rfl;have f:a 5=_:=hd ⟨5,.guard⟩ (by simp) rfl;rotate_left;intro a j hb hd K m;have b:a 5=_:=hd ⟨5,.data⟩ (by simp) rfl;have f:a 10=_:=hd ⟨10,.data⟩ (by simp) rfl;rotate_left;intro a j hb hd K m;have b:a 11=_:=hd ⟨11,.data⟩ (by simp) rfl;have f:=trivial;rotate_left;intro a j hb hd K m;have b:a 12=_:=hd ⟨12,.guard⟩ (by simp) rfl;have f:=trivial;rotate_left
   ·intro a j hb hd K m
    have al:a 13=_:=hd ⟨13,.data⟩ (by simp) rfl;have z:a 12=_:=hd ⟨12,.guard⟩ (by simp) rfl;(try dsimp only [frk]);(try simp only [al,z]);go_simp;go_at_call 22;refine (p_undone (fun _=>False) I.heap.size j V g (X.out.blw hb) (by omega)).mono ?_;rintro G wr ⟨P,N,rfl,h9,o⟩;have k:=m.out _ _ ⟨P,N,rfl,h9⟩ o;dsimp only [frk] at k;simp only [al,z] at k;exact k
   intro a j hb hd K m;have b:a 12=_:=hd ⟨12,.guard⟩ (by simp) rfl;have f:=trivial;rotate_left
   ·intro a j hb hd K m
    have aS:a 15=_:=hd ⟨15,.data⟩ (by simp) rfl;have z:a 12=_:=hd ⟨12,.guard⟩ (by simp) rfl;obtain ⟨P,N,G,h9⟩:∃ A c,a 14=.slice A g.undone.length c/\SlS gh 3 j A g.undone.length c g.undone:=hd ⟨14,.data⟩ (by simp) rfl;(try dsimp only [frk]);(try simp only [aS,z,G]);go_simp;go_at_call 24;refine (nr j P g.undone.length N g.undone h9 A3 c3 (HU.out.ed hb) (by omega)).mono ?_;rintro G wr ⟨rfl,o⟩;have k:=m.out _ _ rfl o;dsimp only [frk] at k;simp only [aS,z,G] at k;exact k
   intro a j hb hd K m;have b:a 16=_:=hd ⟨16,.data⟩ (by simp) rfl;have f:a 12=_:=hd ⟨12,.guard⟩ (by simp) rfl;rotate_left;intro a j hb hd K m;have b:a 12=_:=hd ⟨12,.data⟩ (by simp) rfl;have f:a 17=_:=hd ⟨17,.data⟩ (by simp) rfl;rotate_left
   ·intro a j hb hr
    have b5:a 18=.bool false:=hr 18 (by decide);have a8:=ca.trans (hb.mono ca.size);have Q:=Qh (X.out.blw hb);dsimp only [frk];simp only [b5];generalize a 0=y0;generalize a 1=y1;generalize a 2=y2;generalize a 3=y3;generalize a 4=y4;generalize a 5=y5;generalize a 6=y6;generalize a 7=y7;generalize a 8=y8;generalize a 9=y9;generalize a 10=y10;generalize a 11=y11;generalize a 12=y12;generalize a 13=y13;generalize a 14=y14;generalize a 15=y15;generalize a 16=y16;generalize a 17=y17;go_wp2_with fail;go_roundw
    case rel=>exact ⟨i+1,by go_num,by omega,Qh ⟨g,Q.out,HI.out.more (Nat.le_succ _)⟩,a8⟩
    case measure=>simp [intOf];omega
   all_goals
    (try dsimp only [frk]);(try simp only [b,f]);go_simp;have k:=m.out _ _ rfl (ae _);dsimp only [frk] at k;(try simp only [b,f] at k);exact k
  have cp:((i:Int)<(J:Int))=False:=by simp;omega
  obtain rfl:J=i:=by omega
  go_wp2;go_ret;exact ⟨rfl,W.trans (qi.mono W.size)⟩
end Go.Proofs.YtndhgcfajlalhaaGreatDoor
