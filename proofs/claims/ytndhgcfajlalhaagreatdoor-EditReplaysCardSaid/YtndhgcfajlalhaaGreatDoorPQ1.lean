import Derived.Below
import Derived.Laws.OwnMore
import Derived.Deep.Draws
import Derived.OneCell
import Derived.Laws.Rows
import Derived.Test.YtndhgcfajlalhaaGreatDoorProg
import Derived.WalkKit
import Derived.WalkSpells
import Derived.WalkLawsBesides
import Derived.BigQuiet
import Derived.Deep.QuietTactic
import Derived.Deep.AppendLies
import Derived.Lib.Hide
import Derived.Deep.RegionHeld3
import Derived.Deep.DrawnRows
import Derived.Shelf.Strings.Builder1
import Derived.Shelf.Strings.Builder2
import Derived.Shelf.Strings.OnBuilder
import Derived.Shelf.Strings.Trim
import Derived.Shelf.Small.Utf8
import Derived.Shelf.Small.Bits
import Derived.Shelf.Small.Strs
import Derived.Shelf.Small.Wraps
import Derived.Shelf.Strings.BuilderF
import Derived.Shelf.Strings.BuilderK
import Derived.Shelf.Strings.Builder2Cap
import Derived.Shelf.Strconv.Atoi
import Derived.Shelf.Strconv.Itoa0
import Derived.Shelf.Strconv.Itoa1
import Derived.Shelf.LaysM
import Derived.Shelf.Strconv.Itoa2
import Derived.Shelf.Strconv.Itoa3
import Derived.Shelf.Strings.Search1
import Derived.Shelf.Strings.Search2
import Derived.Shelf.Strings.Cut
import Derived.Shelf.Strings.Shaped
import Derived.Shelf.Strings.Prefix
import Derived.Shelf.Strings.Runes
import Derived.Shelf.Strings.AsciiSet
import Derived.Shelf.Bits.Mul64
import Derived.Shelf.Strings.Repeat
import Derived.Shelf.Unicode.DecodeSlow
import Derived.Shelf.Strings.BuilderCap
import Derived.IntWalk
import Derived.Deep.DeepCutAuto
import Derived.Deep.RegionHeld
import Derived.Lib.ItoaNum
import Derived.Lib.ItoaMem
import Derived.Lib.Repeat
import Derived.Lib.Join
import Derived.Lib.Atoi
import Derived.Lib.SlTrimSet
import Derived.Lib.AppendIntMem
import Derived.Shelf.Strings.SlTrimAscii
import Derived.Lib.IndexMore
import Derived.Lib.SliceRun
import Derived.Deep.RegionLaw
import Derived.Laws.StructEq
import Derived.Test.YtndhgcfajlalhaaGreatDoorCards
import Derived.Test.YtndhgcfajlalhaaGreatDoorTie
import Derived.ProofKit
import Derived.OpenShut
import Derived.Deep.DeepHandedRow
import Derived.Lib.LaidTab
import Derived.Shelf.Vars
import Derived.Deep.Slices
import Derived.SizedLaws
import Derived.ChangeMaps5
import Derived.Test.YtndhgcfajlalhaaGreatDoorBQ7
set_option linter.unusedVariables false
set_option maxHeartbeats 8000000
set_option maxRecDepth 100000
namespace Go.Proofs.YtndhgcfajlalhaaGreatDoor
open Go Go.RowKit Bn
attribute [local go_sem ↓] Go.wp_at_zero Go.wp_at_succ
theorem p_do_big (N:Nat->Prop) (B:Nat) (w:World) (a:Nat) (g:bQ) (h:cT N B w a g) (ed:bo) (m:bQ) (z:256<=g.done.length):Calls Tryz.prog 20 #[.pointer (some ⟨a,0,none⟩),.agg #[.int .i64 ed.kind,aa ed.name,aa ed.text]] w (bS N B w a 4 m):=by
 obtain ⟨A,n,c,C,p,d,D,q,e,x,o,y,h⟩:=h;obtain ⟨r,c5,j,c6,u,c7,rfl,rfl,rfl,v,s,t⟩:=h.forms;have l:=(ae w).alloc Qr (.cells #[.int .i64 ed.kind,aa ed.name,aa ed.text] 39);have b:w.cell? ⟨a,5,none⟩=some (.slice j g.done.length c6):=h.core.blk.cell 5;have k:=h.core.blk.lt;have f:¬ a=w.heap.size:=by omega
 have i:((256:Int)<=(g.done.length:Nat))=True:=eq_true (by omega);clear h;go_in;go_wp2;go_ret;exact ⟨rfl,fun _=>l,fun h=>absurd h (by decide)⟩
theorem p_call_1 (N:Nat->Prop) (B:Nat) (w:World) (a:Nat) (s:bX) (hw:s.what=1) (x:Int) (b:bQ) (hB:B<=w.heap.size) (hN:∀ x,N x->x<w.heap.size) (h:Calls Tryz.prog 21 #[.pointer (some ⟨a,0,none⟩)] (w.alloc (.cells #[.int .i64 s.what,.int .i64 s.ed.kind,aa s.ed.name,aa s.ed.text] 41)) (bS N B (w.alloc (.cells #[.int .i64 s.what,.int .i64 s.ed.kind,aa s.ed.name,aa s.ed.text] 41)) a x b)):Calls Tryz.prog 13 #[.pointer (some ⟨a,0,none⟩),.agg #[.int .i64 s.what,.int .i64 s.ed.kind,aa s.ed.name,aa s.ed.text]] w (bS N B w a x b):=by
 have d:=Qh (And.intro hB hN);have H:=Qh h;have j:(s.what=1)=True:=eq_true hw;have k:(s.what==1)=true:=by simpa using hw
 clear h hw;go_in;go_wp2_with fail;refine H.out.mono ?_;rintro e g ⟨rfl,f,c⟩;have i:=Qh (show bS N B (w.alloc (.cells #[.int .i64 s.what,.int .i64 s.ed.kind,aa s.ed.name,aa s.ed.text] 41)) a x b (.returned (aV x)) g from ⟨rfl,f,c⟩);clear f c;go_wp2;go_ret;exact i.out.base ((ae w).alloc Qr _) d.out.1 d.out.2
theorem p_call_2 (N:Nat->Prop) (B:Nat) (w:World) (a:Nat) (s:bX) (hw:s.what=2) (x:Int) (b:bQ) (hB:B<=w.heap.size) (hN:∀ x,N x->x<w.heap.size) (h:Calls Tryz.prog 23 #[.pointer (some ⟨a,0,none⟩)] (w.alloc (.cells #[.int .i64 s.what,.int .i64 s.ed.kind,aa s.ed.name,aa s.ed.text] 41)) (bS N B (w.alloc (.cells #[.int .i64 s.what,.int .i64 s.ed.kind,aa s.ed.name,aa s.ed.text] 41)) a x b)):Calls Tryz.prog 13 #[.pointer (some ⟨a,0,none⟩),.agg #[.int .i64 s.what,.int .i64 s.ed.kind,aa s.ed.name,aa s.ed.text]] w (bS N B w a x b):=by
 have d:=Qh (And.intro hB hN);have H:=Qh h;have k:(s.what=1)=False:=eq_false (by omega);have l:(s.what==1)=false:=by simp;omega
 have m:(s.what=2)=True:=eq_true hw;have j:(s.what==2)=true:=by simpa using hw
 clear h hw;go_in;go_wp2_with fail;refine H.out.mono ?_;rintro e g ⟨rfl,f,c⟩;have i:=Qh (show bS N B (w.alloc (.cells #[.int .i64 s.what,.int .i64 s.ed.kind,aa s.ed.name,aa s.ed.text] 41)) a x b (.returned (aV x)) g from ⟨rfl,f,c⟩);clear f c;go_wp2;go_ret;exact i.out.base ((ae w).alloc Qr _) d.out.1 d.out.2
theorem p_call_0 (N:Nat->Prop) (B:Nat) (w:World) (c:Nat) (s:bX) (a:s.what≠1) (b:s.what≠2) (x:Int) (d:bQ) (hB:B<=w.heap.size) (hN:∀ x,N x->x<w.heap.size) (h:Calls Tryz.prog 20 #[.pointer (some ⟨c,0,none⟩),.agg #[.int .i64 s.ed.kind,aa s.ed.name,aa s.ed.text]] (w.alloc (.cells #[.int .i64 s.what,.int .i64 s.ed.kind,aa s.ed.name,aa s.ed.text] 41)) (bS N B (w.alloc (.cells #[.int .i64 s.what,.int .i64 s.ed.kind,aa s.ed.name,aa s.ed.text] 41)) c x d)):Calls Tryz.prog 13 #[.pointer (some ⟨c,0,none⟩),.agg #[.int .i64 s.what,.int .i64 s.ed.kind,aa s.ed.name,aa s.ed.text]] w (bS N B w c x d):=by
 have g:=Qh (And.intro hB hN);have H:=Qh h;have m:(s.what=1)=False:=eq_false a;have n:(s.what==1)=false:=by simpa using a
 have o:(s.what=2)=False:=eq_false b;have l:(s.what==2)=false:=by simpa using b
 clear h a b;go_in;go_wp2_with fail;refine H.out.mono ?_;rintro e j ⟨rfl,i,f⟩;have k:=Qh (show bS N B (w.alloc (.cells #[.int .i64 s.what,.int .i64 s.ed.kind,aa s.ed.name,aa s.ed.text] 41)) c x d (.returned (aV x)) j from ⟨rfl,i,f⟩);clear i f;go_wp2;go_ret;exact k.out.base ((ae w).alloc Qr _) g.out.1 g.out.2
theorem p_call {N:Nat->Prop}{B:Nat}{w:World}{a:Nat}{g:bQ}{l:ag}{m:Nat}(h:cT N B w a g) (c:cQ l m g) (C:m<=900) (s:bX) (z:oj s.ed) (b:Tab w) (n:Mx w):∃ x g',Calls Tryz.prog 13 #[.pointer (some ⟨a,0,none⟩),.agg #[.int .i64 s.what,.int .i64 s.ed.kind,aa s.ed.name,aa s.ed.text]] w (bS N B w a x g')/\(x=0->cQ l (m+1) g'):=by
 have i:=(ae w).alloc Qr (.cells #[.int .i64 s.what,.int .i64 s.ed.kind,aa s.ed.name,aa s.ed.text] 41);have d:=h.blw i;have A:=c.nl
 have hB:B<=w.heap.size:=by
  obtain ⟨_,_,_,_,_,_,_,_,_,_,_,_,h⟩:=h;have:=h.core.hB;have:=h.core.blk.lt;omega
 have hN:∀ x,N x->x<w.heap.size:=by
  obtain ⟨_,_,_,_,_,_,_,_,_,_,_,_,h⟩:=h;exact h.core.hN
 by_cases h1:s.what=1
 ·rcases Nat.eq_zero_or_pos g.done.length with e | e
  ·exact ⟨11,g,p_call_1 N B w a s h1 11 g hB hN (ni N B _ a g d (List.eq_nil_of_length_eq_zero e) g),fun h=>by cases h⟩
  obtain ⟨k,p⟩:∃ k,g.done.length=k+1:=⟨g.done.length-1,by omega⟩;have u:k<g.before.length:=by have:=c.len;omega
  have f:g.before[k]?=some g.before[k]:=List.getElem?_eq_getElem u;have q:g.done[k]?=some g.done[k]:=List.getElem?_eq_getElem (by omega);exact ⟨0,_,p_call_1 N B w a s h1 0 _ hB hN (qI N B _ a g d k p _ f _ q (by omega) (by omega)),fun _=>(c.cut p f q).more (by omega)⟩
 by_cases h2:s.what=2
 ·rcases Nat.eq_zero_or_pos g.undone.length with e | e
  ·exact ⟨11,g,p_call_2 N B w a s h2 11 g hB hN (nq N B _ a g d (List.eq_nil_of_length_eq_zero e) g),fun h=>by cases h⟩
  obtain ⟨k,p⟩:∃ k,g.undone.length=k+1:=⟨g.undone.length-1,by omega⟩;have q:g.undone[k]?=some g.undone[k]:=List.getElem?_eq_getElem (by omega);have j:oj g.undone[k]:=c.sm _ (List.mem_append_right _ (List.getElem_mem _));obtain ⟨x,t,o,f⟩:=kJ g.now g.undone[k] (by have:=j.2;omega);refine ⟨x,_,p_call_2 N B w a s h2 x _ hB hN (qL N B _ a g d k p _ q x t o (by omega) (by omega) (b.belw i) (n.belw i)),fun v=>?_⟩;subst v;exact c.add o (f rfl) j (fun y r=>c.sm y (List.mem_append_right _ (List.mem_of_mem_take r))) (by rw [List.length_take];omega)
 rcases Nat.lt_or_ge g.done.length 256 with e | e
 ·obtain ⟨x,t,o,f⟩:=kJ g.now s.ed (by have:=z.2;omega)
  refine ⟨x,_,p_call_0 N B w a s h1 h2 x _ hB hN (CA N B _ a g d s.ed x t o e (b.belw i) (n.belw i)),fun v=>?_⟩;subst v;exact c.add o (f rfl) z (fun y r=>by cases r) (by simp;omega)
 exact ⟨4,g,p_call_0 N B w a s h1 h2 4 g hB hN (p_do_big N B _ a g d s.ed g e),fun h=>by cases h⟩
def lnS (l:List bX):Nat:=(l.map fun s=>s.ed.name.length+s.ed.text.length).sum
theorem lnS_step {l:List bX}{i:Nat}{s:bX}(h:l[i]?=some s):lnS (l.take (i+1))=lnS (l.take i)+(s.ed.name.length+s.ed.text.length):=by
 have a:l.take (i+1)=l.take i++[s]:=by rw [List.take_add_one,h];rfl
 unfold lnS;rw [a,List.map_append,List.sum_append];simp
theorem lnS_mem {l:List bX}{s:bX}(h:s∈l):s.ed.name.length+s.ed.text.length<=lnS l:=by
 unfold lnS
 induction l with
 | nil=>cases h
 | cons a r ih =>
  rw [List.map_cons,List.sum_cons];rcases List.mem_cons.1 h with e | e
  ·subst e;omega
  have:=ih e;omega
def lgS (l:List bX):Bool:=decide (40<l.length)||decide (4000<lnS l)
theorem lgS_sm {l:List bX}(h:lgS l=false):l.length<=40/\∀ s∈l,oj s.ed:=by
 unfold lgS at h;simp at h;exact ⟨h.1,fun s a=>by have:=lnS_mem a;exact ⟨by omega,by omega⟩⟩
theorem l57_long (w:World) (A:Option Addr) (n c:Nat) (l:List bX) (h:SlS kK 4 w A n c l) (B:n<=reachBytes) (v:Bool) (z:lgS l=v):Calls Tryz.prog 10 #[.slice A n c] w (ax w (.bool v)):=by
 have D:=gR B;have u:=Qh z;have H:=Qh h;have x:l.length=n:=h.1;clear h z B;go_in;go_wp2_with fail;go_loopw [3,4] (fun J t wr=>∃ (i:Nat) (s:Int),J=.int .i64 s/\t=.int .i64 (i:Nat)/\i<=n/\Hid (n<=40->s=(lnS (l.take i):Nat)/\lnS (l.take i)<=i*281474976710656)/\Below w.heap.size w wr) (fun _ t _=>n-(intOf t).toNat)
 case atStart=>exact ⟨0,0,rfl,rfl,Nat.zero_le _,Qh fun _=>⟨rfl,by simp [lnS]⟩,ae w⟩
 case round =>
  obtain ⟨i,s,rfl,rfl,R,y,d⟩:=hrel;rename World=>wi;rcases Nat.lt_or_ge i n with r | C
  ·have q:((i:Int)<(n:Int))=True:=by simp;omega
   have L:((i:Int)<(n:Int)):=by omega
   obtain ⟨g,o,a,K,N,_,m,hB⟩:=(H.out.st d).at_ r;subst K;obtain ⟨d0,d1,d2,d3,k,p⟩:=hB;have Q:=gR k;have O:=gR p;have F:=Qh m;have P:IntKind.i64.wrap ((a.ed.name.length:Int)+(a.ed.text.length:Int))=(a.ed.name.length:Int)+(a.ed.text.length:Int):=wrap_i64 (by omega) (by omega);have G:(i:Int)<140737488355328:=by omega
   clear m k p;go_wp2_with fail;go_quiet (fail);go_wp2_with fail;go_roundw
   case rel =>
    refine ⟨i+1,wrap64 (s+((a.ed.name.length:Int)+(a.ed.text.length:Int))),rfl,by go_num,by omega,Qh fun j=>?_,af d _⟩;obtain ⟨I,M⟩:=y.out j;rw [lnS_step F.out,I];unfold wrap64;omega
   case measure=>simp [intOf];omega
  have q:((i:Int)<(n:Int))=False:=by simp;omega
  obtain rfl:n=i:=by omega
  by_cases j:40<n
  ·have f1:((40:Int)<(n:Int))=True:=eq_true (by omega)
   have b:v=true:=by rw [<- u.out];unfold lgS;rw [x,decide_eq_true j];rfl
   subst b;go_wp2;go_ret;exact ⟨rfl,d⟩
  have f1:((40:Int)<(n:Int))=False:=eq_false (by omega);obtain ⟨rfl,hb⟩:=y.out (by omega);have E:l.take n=l:=List.take_of_length_le (by omega);rw [E] at hb ⊢;have f:lgS l=decide (4000<lnS l):=by unfold lgS;rw [x,decide_eq_false j];rfl
  by_cases h4:4000<lnS l
  ·have f2:((4000:Int)<((lnS l:Nat):Int))=True:=eq_true (by omega)
   have b:v=true:=by rw [<- u.out,f];exact decide_eq_true h4
   subst b;clear f;go_wp2;go_ret;exact ⟨rfl,d⟩
  have f2:((4000:Int)<((lnS l:Nat):Int))=False:=eq_false (by omega);have b:v=false:=by rw [<- u.out,f];exact decide_eq_false h4
  subst b;clear f;go_wp2;go_ret;exact ⟨rfl,d⟩
theorem ApC.goS {L f:ag}{ed:bo}{x:Int}(h:ApC L ed x f) (w:World) (A:Option Addr) (n c:Nat) (C:Option Addr) (p d:Nat) (D:Option Addr) (q e:Nat) (a:Tab w) (b:Mx w) (g:LkS 130 w A n c C p d D q e L):Calls Tryz.prog 15 #[.agg #[aa L.name,.slice A n c,.slice C p d,.slice D q e],.agg #[.int .i64 ed.kind,aa ed.name,aa ed.text]] w (gG w (aV x) f):=h w A n c C p d D q e a b g
theorem cT.far {N:Nat->Prop}{B:Nat}{w b:World}{i f:Nat}{g:bQ}(h:cT N B w i g) (hN:N f) (k:w.grownBy b (some f)) (t:Tch (aW 26) w b):cT N B b i g:=by
 obtain ⟨A,n,c,C,p,d,D,q,e,r,j,m,h⟩:=h;have a:∀ {v:Value},(∀ x,v.ownBlock=some x->¬ N x)->∀ x,v.ownBlock=some x->(some f:Option Nat)≠some x:=fun o x l e=>by injection e with e;exact o x l (e ▸ hN)
 exact ⟨A,n,c,C,p,d,D,q,e,r,j,m,⟨h.core.grw k (fun e=>h.core.n0 (by injection e with e;exact e ▸ hN)),h.now.tch t (by decide) (by decide) (by decide) (by decide),⟨h.bef.1.gr k (a h.bef.2) (fun _ _ x=>x.tch t (by decide) (by decide) (by decide) (by decide)),h.bef.2⟩,⟨h.don.1.gr k (a h.don.2) (fun _ _ x=>x),h.don.2⟩,⟨h.und.1.gr k (a h.und.2) (fun _ _ x=>x),h.und.2⟩,h.dis⟩⟩
abbrev frp (u0 u1 u2 u3 u4 u5 u6 u7 u10 u11 u12 u13 u14 u15 u16 u17 u18 u19 u20 u21 u22 u23 u24 u25 u26 u27 u28 u29 u30 u31 u32 u33 u34 u35 u36 u37 u38 u39 u40 u41 u42 u43 u44 u45 u49 u50 u51 u52 u53 u54 u55 u56 u57 u58 u59 u60 u61 u62 u63 u64 u65 u66 u67 u68 u69:Value) (xf:Nat->Value):Act:=⟨List.toArray (u0::u1::u2::u3::u4::u5::u6::u7::xf 3::xf 5::u10::u11::u12::u13::u14::u15::u16::u17::u18::u19::u20::u21::u22::u23::u24::u25::u26::u27::u28::u29::u30::u31::u32::u33::u34::u35::u36::u37::u38::u39::u40::u41::u42::u43::u44::u45::xf 0::xf 1::xf 2::u49::u50::u51::u52::u53::u54::u55::u56::u57::u58::u59::u60::u61::u62::u63::u64::u65::u66::u67::u68::u69::[]),[]⟩
abbrev frq (u0 u1 u2 u3 u4 u5 u7 u8 u9 u10 u11 u12 u13 u14 u15 u16 u17 u18 u19 u20 u21 u22 u23 u24 u25 u26 u27 u28 u29 u30 u31 u32 u33 u34 u35 u36 u37 u38 u39 u40 u41 u42 u43 u44 u45 u46 u47 u48 u49 u50 u51 u52 u53 u54 u64 u65 u66 u67 u68 u69:Value) (xf:Nat->Value):Act:=⟨List.toArray (u0::u1::u2::u3::u4::u5::xf 10::u7::u8::u9::u10::u11::u12::u13::u14::u15::u16::u17::u18::u19::u20::u21::u22::u23::u24::u25::u26::u27::u28::u29::u30::u31::u32::u33::u34::u35::u36::u37::u38::u39::u40::u41::u42::u43::u44::u45::u46::u47::u48::u49::u50::u51::u52::u53::u54::xf 6::xf 0::xf 1::xf 2::xf 3::xf 4::xf 5::xf 7::xf 8::u64::u65::u66::u67::u68::u69::[]),[]⟩
abbrev frr (u0 u1 u2 u3 u5 u6 u7 u8 u9 u10 u11 u12 u13 u14 u15 u16 u17 u18 u19 u20 u21 u22 u23 u24 u25 u26 u27 u28 u29 u30 u31 u32 u33 u34 u35 u36 u37 u38 u39 u40 u41 u42 u43 u44 u45 u46 u47 u48 u49 u50 u51 u52 u53 u54 u55 u56 u57 u58 u59 u60 u61 u62 u63 u64 u65:Value) (xf:Nat->Value):Act:=⟨List.toArray (u0::u1::u2::u3::xf 4::u5::u6::u7::u8::u9::u10::u11::u12::u13::u14::u15::u16::u17::u18::u19::u20::u21::u22::u23::u24::u25::u26::u27::u28::u29::u30::u31::u32::u33::u34::u35::u36::u37::u38::u39::u40::u41::u42::u43::u44::u45::u46::u47::u48::u49::u50::u51::u52::u53::u54::u55::u56::u57::u58::u59::u60::u61::u62::u63::u64::u65::xf 0::xf 1::xf 2::xf 3::[]),[]⟩
theorem oq (w:World) (A:Option Addr) (n c:Nat) (C:Option Addr) (p d:Nat) (D:Option Addr) (q e:Nat) (L:ag) (h:LkS reachBytes w A n c C p d D q e L) (SA:Option Addr) (W sc:Nat) (l:List bX) (hs:SlS kK 4 w SA W sc l) (bw:W<=reachBytes) (a9:Tab w) (bY:Mx w):Calls Tryz.prog 3 #[.agg #[aa L.name,.slice A n c,.slice C p d,.slice D q e],.slice SA W sc] w (ax w (.bool true)):=by
 have q0:=(ae w).alloc Qr (.cells #[aa L.name,.slice A n c,.slice C p d,.slice D q e] 26);have x0:Blk (w.alloc (.cells #[aa L.name,.slice A n c,.slice C p d,.slice D q e] 26)) w.heap.size 26 #[aa L.name,.slice A n c,.slice C p d,.slice D q e]:=Blk.new _ _ _;have H:=Qh h;have a7:=Qh hs;have F:=Qh a9;have HM:=Qh bY;have d7:=Qh bw;obtain ⟨v1,b6⟩:∃ v,ol L=v:=⟨_,rfl⟩;obtain ⟨v2,bz⟩:∃ v,lgS l=v:=⟨_,rfl⟩;have cb:=Qh b6;have b0:=Qh bz;clear h hs a9 bY bw b6 bz;go_in;go_wp2_with fail;generalize (w.alloc (.cells #[aa L.name,.slice A n c,.slice C p d,.slice D q e] 26))=w0 at q0 x0 ⊢;refine (ci w0 (F.out.belw q0) (HM.out.belw q0)).mono ?_;rintro e' w1 ⟨rfl,br⟩;have q1:=q0.trans (br.mono q0.size);have x1:=x0.below br x0.lt;obtain ⟨a0,a1,a2,a3⟩:=x1.c4;clear x0 q0 br;go_wp2_with fail;refine (lu w1 A n c C p d D q e L (H.out.belw q1) v1 cb.out).mono ?_;rintro e' w2 ⟨rfl,bk⟩;have q2:=q1.trans (bk.mono q1.size);have x2:=x1.below bk x1.lt;clear a0 a1 a2 a3 x1 q1 bk;cases v1;rotate_left
 ·go_wp2_with fail
  refine (ci w2 (F.out.belw q2) (HM.out.belw q2)).mono ?_;rintro e' w3 ⟨rfl,ad⟩;have q3:=q2.trans (ad.mono q2.size);go_wp2;go_ret;exact ⟨rfl,q3⟩
 go_wp2_with fail;refine (l57_long w2 SA W sc l (a7.out.st q2) d7.out v2 b0.out).mono ?_;rintro e' w3 ⟨rfl,ad⟩;have q3:=q2.trans (ad.mono q2.size);have x3:=x2.below ad x2.lt;clear x2 q2 ad;cases v2;rotate_left
 ·go_wp2_with fail
  refine (ci w3 (F.out.belw q3) (HM.out.belw q3)).mono ?_;rintro e' z ⟨rfl,S⟩;have X:=q3.trans (S.mono q3.size);go_wp2;go_ret;exact ⟨rfl,X⟩
 have H3:=Qh (((H.out.belw q3).of40 (qQ cb.out)).upto (by decide:40<=130));obtain ⟨a0,a1,a2,a3⟩:=x3.c4;go_wp2_with fail;refine (qF w3 A n c C p d D q e L 130 H3.out (by decide) (by decide) (aG L) rfl).mono ?_;rintro e' z ⟨rfl,S⟩;have X:=q3.trans (S.mono q3.size);have x4:=x3.below S x3.lt;have H4:=Qh (H3.out.belw S);clear a0 a1 a2 a3 x3 q3 S H3;by_cases hL:aG L=0;rotate_left
 ·have u1:(aG L=0)=False:=eq_false hL
  have u2:(aG L==0)=false:=by simpa using hL
  go_wp2_with fail;refine (ci z (F.out.belw X) (HM.out.belw X)).mono ?_;rintro e' w5 ⟨rfl,r⟩;have q5:=X.trans (r.mono X.size);go_wp2;go_ret;exact ⟨rfl,q5⟩
 rw [hL];obtain ⟨a0,a1,a2,a3⟩:=x4.c4;have b9:=Qh (dJ hL);obtain ⟨b8,bv⟩:=lgS_sm b0.out;have dq:=Qh bv;have ek:W<=40:=by rw [<- a7.out.1];exact b8
 have ec:W<=sc:=a7.out.2.1;clear bv b8;go_wp2_with fail;refine (vM (fun _=>False) z.heap.size z A n c C p d D q e L H4.out hL Qr (fun _ h=>h.elim)).mono ?_;rintro e' w5 ⟨gl,rfl,N,r⟩;have ca:=Qh N;have c7:=Qh r;clear a0 a1 a2 a3 N r;go_wp2_with fail;go_loopw [7] (fun iv wr=>∃ i:Nat,iv=.int .i64 (i:Nat)/\i<=W/\Hid (∃ g,cT (fun _=>False) z.heap.size wr gl g/\cQ L i g)/\Below z.heap.size z wr) (fun iv _=>W-(intOf iv).toNat)
 case atStart=>exact ⟨0,rfl,Nat.zero_le _,Qh ⟨_,ca.out,cQ.new b9.out⟩,c7.out⟩
 case round =>
  obtain ⟨i,rfl,hi,HG,qi⟩:=hrel;rename World=>wi;obtain ⟨g,N,hI⟩:=HG.out;have ei:=hI.nl;have ao:=Qh N;have HI:=Qh hI;have bx:=qi.size;clear HG N hI;rcases Nat.lt_or_ge i W with bg | d5
  ·have bf:((i:Int)<(W:Int))=True:=by simp;omega
   have en:((i:Int)<(W:Int)):=by omega
   have a6:=X.trans (qi.mono X.size);obtain ⟨gs,os,s,es,em,_,bu,hS⟩:=(a7.out.st a6).at_ bg;subst es;obtain ⟨k0,k1,k2,k3,_,_⟩:=hS;have k1:wi.cell? ⟨gs,os+i*4+1,none⟩=some (.int .i64 s.ed.kind):=k1;have k2:wi.cell? ⟨gs,os+i*4+2,none⟩=some (aa s.ed.name):=k2;have k3:wi.cell? ⟨gs,os+i*4+3,none⟩=some (aa s.ed.text):=k3;obtain ⟨x,g',ab,bb⟩:=p_call ao.out HI.out (by omega) s (dq.out s (List.mem_of_getElem? bu)) (F.out.belw a6) (HM.out.belw a6);have a8:=Qh bb;have an:=Qh ab;clear a6 bu bb ab;go_wp2_with fail;refine an.out.mono ?_;rintro e' wb ⟨rfl,bn,b3⟩;clear k0 k1 k2 k3
   have bd:Hid (∃ g,cT (fun _=>False) z.heap.size wb gl g/\cQ L (i+1) g)/\Below z.heap.size z wb:=by
    by_cases hx:x=0
    ·subst hx
     obtain ⟨hr,hl⟩:=b3 rfl;exact ⟨Qh ⟨_,hl,a8.out rfl⟩,qi.trans hr.bel⟩
    exact ⟨Qh ⟨_,ao.out.blw (bn hx),HI.out.more (Nat.le_succ _)⟩,qi.trans ((bn hx).mono qi.size)⟩
   clear bn b3 a8 an;go_wp2_with fail;go_roundw
   case rel=>exact ⟨i+1,by go_num,by omega,bd⟩
   case measure=>simp [intOf];omega
  have bf:((i:Int)<(W:Int))=False:=by simp;omega
  obtain rfl:W=i:=by omega
  have XI:=Qh (x4.below qi x4.lt);go_wp2_with fail;change Code.wp _ _ _ (frp _ _ _ _ _ _ _ _ _ _ _ _ _ _ _ _ _ _ _ _ _ _ _ _ _ _ _ _ _ _ _ _ _ _ _ _ _ _ _ _ _ _ _ _ _ _ _ _ _ _ _ _ _ _ _ _ _ _ _ _ _ _ _ _ _ (fun ri=>List.getD (_::_::_::_::undef::_::[]) ri undef)) _;refine co (x0:=_) [4] [5] (R:=R2 ((gW ((PEq (.agg #[aa L.name,.slice A n c,.slice C p d,.slice D q e]))::(PEq (.pointer (some ⟨gl,0,none⟩)))::(fun v w=>∃ A c,v=.slice A g.done.length c/\ap 39 EdC 3 w z.heap.size (.slice A g.done.length c) g.done.length g.done)::(fun v w=>∃ x,v=.pointer (some ⟨x,0,none⟩)/\wi.heap.size<=x/\Blk w x 26 #[.string ⟨#[]⟩,.slice none 0 0,.slice none 0 0,.slice none 0 0])::ff::(fun v w=>∃ A c,v=.slice A g.done.length c/\ap 39 EdC 3 w z.heap.size (.slice A g.done.length c) g.done.length g.done)::[]))::(ce ((2,(fun v w=>∃ A c,v=.slice A g.done.length c/\ap 39 EdC 3 w z.heap.size (.slice A g.done.length c) g.done.length g.done))::(3,(fun v w=>∃ x,v=.pointer (some ⟨x,0,none⟩)/\wi.heap.size<=x/\Blk w x 26 #[aa L.name,.slice A n c,.slice C p d,.slice D q e]))::(5,(fun v w=>∃ A c,v=.slice A g.done.length c/\ap 39 EdC 3 w z.heap.size (.slice A g.done.length c) g.done.length g.done))::[]))::[])) (T:=T2 ((fun w=>Below wi.heap.size wi w)::(fun w=>Below wi.heap.size wi w)::[])) (by kernel_rfl) ?_ ?_ (by decide) (iI (by decide)) (eC (by kernel_rfl)) (eE (by kernel_rfl)) (R2.grw ⟨gW.grw ⟨gEq _,gEq _,(fun _ _ _ ⟨A,c,P,V⟩ hb=>⟨A,c,P,V.blw hb⟩),(fun _ _ _ ⟨x,P,V,h2⟩ hb=>⟨x,P,V,h2.below hb h2.lt⟩),kX,(fun _ _ _ ⟨A,c,P,V⟩ hb=>⟨A,c,P,V.blw hb⟩),trivial⟩,ce.grw ⟨(fun _ _ _ ⟨A,c,P,V⟩ hb=>⟨A,c,P,V.blw hb⟩),(fun _ _ _ ⟨x,P,V,h2⟩ hb=>⟨x,P,V,h2.below hb h2.lt⟩),(fun _ _ _ ⟨A,c,P,V⟩ hb=>⟨A,c,P,V.blw hb⟩),trivial⟩,trivial⟩) (T2.grw ⟨fun _ _ h hb=>h.trans (hb.mono h.size),fun _ _ h hb=>h.trans (hb.mono h.size),trivial⟩) ?_ ?_ ?_ ?_
  ·exact aq ⟨(fun _ _=>rfl),(fun _ _=>rfl),(fun _ _=>rfl),(fun _ _=>rfl),(fun _ _=>rfl),(fun _ _=>rfl),trivial⟩
  ·exact aq (be _ 0 (by kernel_rfl))
  ·exact (ae _).drew
  ·refine aq ⟨?_,?_,?_,?_,(fun h=>absurd (by decide) h),?_,trivial⟩
   intro _ k _ m;obtain rfl:=m (by decide);intro a f b hd K t;have b:Below wi.heap.size wi f:=b;obtain ⟨c0,c1,c2,c3⟩:=(XI.out.below b XI.out.lt).c4;rotate_left;intro _ k _ m;obtain rfl:=m (by decide);intro a f b hd K t;rotate_left
   ·intro _ k _ m
    obtain rfl:=m (by decide);intro a f b hd K t;have b:Below wi.heap.size wi f:=b;have al:a 1=_:=hd ⟨1,.data⟩ (by simp) rfl;(try dsimp only [frp]);(try simp only [al]);go_simp;go_at_call 14;refine (vB (fun _=>False) z.heap.size f gl g (ao.out.blw b) (by omega)).mono ?_;rintro U wr ⟨E,B,rfl,h9,O⟩;have j:=t.out _ _ ⟨E,B,rfl,h9.base (Nat.le_trans bx b.size)⟩ O;dsimp only [frp] at j;simp only [al] at j;exact j
   ·intro _ k _ m
    obtain rfl:=m (by decide);intro a f b hd K t;have b:Below wi.heap.size wi f:=b;(try dsimp only [frp]);go_simp;have j:=t.out (.pointer (some ⟨f.heap.size,0,none⟩)) (f.alloc (.cells #[.string ⟨#[]⟩,.slice none 0 0,.slice none 0 0,.slice none 0 0] 26)) ⟨f.heap.size,rfl,b.size,Blk.new _ _ _⟩ ((ae f).alloc Qr _);dsimp only [frp] at j;exact j
   ·intro _ k m _
    (obtain rfl | rfl:=(show k=0\/k=1 by have m:k<=1:=m;omega)) <;> (intro a f b hd K t;obtain ⟨E,B,U,h9⟩:∃ A c,a 2=.slice A g.done.length c/\ap 39 EdC 3 f z.heap.size (.slice A g.done.length c) g.done.length g.done:=hd ⟨2,.data⟩ (by simp) rfl;(try dsimp only [frp]);(try simp only [U]);go_simp;have j:=t.out _ _ ⟨E,B,rfl,h9⟩ (ae _);dsimp only [frp] at j;simp only [U] at j;exact j)
   all_goals
    (try dsimp only [frp]);go_simp;have j:=t.out _ _ rfl (ae _);dsimp only [frp] at j;exact j
  ·intro k i o m ho
   obtain rfl:=(show k=0 by have:=gF m;have:k<1:=this;omega)
   ·injection m with m
    subst m;injection ho with ho;subst ho;intro a f DD hn b hD hd K t;have b:Below wi.heap.size wi f:=b;have M:a 0=.agg #[aa L.name,.slice A n c,.slice C p d,.slice D q e]:=hd 0 (hD ⟨0,.data⟩ (by simp) rfl);obtain ⟨Q,U,aC,r⟩:∃ x,a 3=.pointer (some ⟨x,0,none⟩)/\wi.heap.size<=x/\Blk f x 26 #[.string ⟨#[]⟩,.slice none 0 0,.slice none 0 0,.slice none 0 0]:=hd 3 (hD ⟨3,.data⟩ (by simp) rfl);obtain ⟨cn,d4,ck,db⟩:=r.c4;obtain ⟨cy,ea,dn,cr⟩:=r.f4;(try dsimp only [frp]);(try simp only [M,U]);go_simp;have t1:=lp r ⟨rfl,rfl,rfl,rfl⟩ (aa L.name) (.slice A n c) (.slice C p d) (.slice D q e)
    have j:=t.out undef _ (show Below wi.heap.size wi _ from dd b aC (aa L.name) (.slice A n c) (.slice C p d) (.slice D q e)) trivial (ce.all ⟨fun h=>by
     obtain ⟨E,B,e7,h9⟩:∃ A c,a 2=.slice A g.done.length c/\ap 39 EdC 3 f z.heap.size (.slice A g.done.length c) g.done.length g.done:=hd 2 h
     exact ⟨E,B,e7,h9.tch t1 (by decide) (fun _ _ y=>y)⟩,fun _=>⟨Q,U,aC,r.s4 _ _ _ _⟩,fun h=>by
     obtain ⟨E,B,e7,h9⟩:∃ A c,a 5=.slice A g.done.length c/\ap 39 EdC 3 f z.heap.size (.slice A g.done.length c) g.done.length g.done:=hd 5 h
     exact ⟨E,B,e7,h9.tch t1 (by decide) (fun _ _ y=>y)⟩,trivial⟩)
    dsimp only [frp] at j;simp only [M,U] at j;exact j
  intro a w9 b hr;obtain ⟨E,B,e5,cc⟩:∃ A c,a 5=.slice A g.done.length c/\ap 39 EdC 3 w9 z.heap.size (.slice A g.done.length c) g.done.length g.done:=hr 5 (by decide);obtain ⟨Q,e3,aC,r⟩:∃ x,a 3=.pointer (some ⟨x,0,none⟩)/\wi.heap.size<=x/\Blk w9 x 26 #[aa L.name,.slice A n c,.slice C p d,.slice D q e]:=hr 3 (by decide);have b:Below wi.heap.size wi w9:=b;have d0:=Qh (ao.out.more (N':=fun x=>x=Q) b (fun x hx=>by rw [hx];exact r.lt) (fun x hx=>.inr (by rw [hx];exact aC)));have cz:=Qh cc;have cm:=Qh r;have qJ:=qi.trans (b.mono qi.size);have d3:=Qh ((H4.out.belw qJ));have dv:=Qh HI.out.st;have el:g.done.length<=1000:=by omega
  clear hr b r cc ao;dsimp only [frp];rw [e3,e5];generalize a 0=z0;generalize a 1=z1;generalize a 2=z2;generalize a 4=z4;clear e3 e5;go_wp2_with fail;go_loopw [10] (fun iv wr=>∃ i:Nat,iv=.int .i64 (i:Nat)/\i<=g.done.length/\∃ Li A1 n1 c1 C1 p1 d1 D1 q1 f1,(g.before++[g.now])[i]?=some Li/\Hid (Blk wr Q 26 #[aa Li.name,.slice A1 n1 c1,.slice C1 p1 d1,.slice D1 q1 f1])/\Hid (LkS 130 wr A1 n1 c1 C1 p1 d1 D1 q1 f1 Li)/\Hid (cT (fun x=>x=Q) z.heap.size wr gl g)/\Hid (ap 39 EdC 3 wr z.heap.size (.slice E g.done.length B) g.done.length g.done)/\Below z.heap.size z wr) (fun iv _=>g.done.length-(intOf iv).toNat)
  case atStart=>exact ⟨0,rfl,Nat.zero_le _,L,A,n,c,C,p,d,D,q,e,dv.out,cm,d3,d0,cz,qJ⟩
  case round =>
   obtain ⟨i,rfl,hi,Li,A1,n1,c1,C1,p1,d1,D1,q1,f1,hS,XM,b2,b5,b7,qj⟩:=hrel;rename World=>wj;rcases Nat.lt_or_ge i g.done.length with bg | d5
   ·have bf:((i:Int)<(g.done.length:Int))=True:=by simp;omega
    have hs:g.done[i]?=some g.done[i]:=List.getElem?_eq_getElem bg;obtain ⟨ge,cs,rfl,a5,I⟩:=b7.out.at_ hs;have cx:i+1<(g.before++[g.now]).length:=by have:=HI.out.len;simp;omega
    obtain ⟨G,hj⟩:∃ G,(g.before++[g.now])[i+1]?=some G:=⟨_,List.getElem?_eq_getElem cx⟩;have HA:=Qh (HI.out.ch i Li G _ hS hj hs);generalize g.done[i]=s at a5 HA;have a5:cs=[.int .i64 s.kind,aa s.name,aa s.text]:=a5;subst a5;have HE:=Qh (show wj.cell? ⟨ge,i*3,none⟩=some (.int .i64 s.kind)/\wj.cell? ⟨ge,i*3+1,none⟩=some (aa s.name)/\wj.cell? ⟨ge,i*3+2,none⟩=some (aa s.text) from ⟨I 0 _ rfl,I 1 _ rfl,I 2 _ rfl⟩);have dO:=Qh hj;have qw:=X.trans (qj.mono X.size);have d6:=Qh (F.out.belw qw);have cv:=Qh (HM.out.belw qw);clear I hj hs hS qw;go_wp2_with fail;change Code.wp _ _ _ (frq _ _ _ _ _ _ _ _ _ _ _ _ _ _ _ _ _ _ _ _ _ _ _ _ _ _ _ _ _ _ _ _ _ _ _ _ _ _ _ _ _ _ _ _ _ _ _ _ _ _ _ _ _ _ _ _ _ _ _ _ (fun ri=>List.getD (_::_::_::_::_::_::_::_::_::undef::_::[]) ri undef)) _;refine co (x0:=_) [9] [8,10] (R:=R2 ((gW ((PEq (.agg #[aa Li.name,.slice A1 n1 c1,.slice C1 p1 d1,.slice D1 q1 f1]))::(PEq (.slice (some ⟨ge,0,none⟩) g.done.length B))::(PEq (.int .i64 (i:Nat)))::(PEq (.pointer (some ⟨ge,i*3,none⟩)))::(PEq (.agg #[.int .i64 s.kind,aa s.name,aa s.text]))::(VAp 0 G)::(VAp 0 G)::(VLv G)::(PEq (aV 0))::ff::(PEq (aV 0))::[]))::(ce ((6,(VAp 0 G))::(8,(PEq (aV 0)))::(10,(PEq (aV 0)))::[]))::[])) (T:=T2 ((fun w=>Below wj.heap.size wj w)::(fun w=>∃ A n c C p d D q e,Blk w Q 26 #[aa G.name,.slice A n c,.slice C p d,.slice D q e]/\LkY 130 w A n c C p d D q e G/\wj.grownBy w (some Q)/\Tch (aW 26) wj w)::[])) (by kernel_rfl) ?_ ?_ (by decide) (iI (by decide)) (eC (by kernel_rfl)) (eE (by kernel_rfl)) (R2.grw ⟨gW.grw ⟨gEq _,gEq _,gEq _,gEq _,gEq _,gAp _ _,gAp _ _,gLv _,gEq _,kX,gEq _,trivial⟩,ce.grw ⟨gAp _ _,gEq _,gEq _,trivial⟩,trivial⟩) (T2.grw ⟨fun _ _ h hb=>h.trans (hb.mono h.size),fun _ _ ⟨A,n,c,C,p,d,D,q,e,P,V,h2,h3⟩ hb=>⟨A,n,c,C,p,d,D,q,e,P.below hb P.lt,V.blw hb,l8 h2 hb,h3.more hb⟩,trivial⟩) ?_ ?_ ?_ ?_
    ·exact aq ⟨(fun _ _=>rfl),(fun _ _=>rfl),(fun _ _=>rfl),(fun _ _=>rfl),(fun _ _=>rfl),(fun _ _=>rfl),(fun _ _=>rfl),(fun _ _=>rfl),(fun _ _=>rfl),(fun _ _=>rfl),(fun _ _=>rfl),trivial⟩
    ·exact aq (be _ 0 (by kernel_rfl))
    ·exact (ae _).drew
    ·refine aq ⟨?_,?_,?_,?_,?_,?_,?_,?_,?_,(fun h=>absurd (by decide) h),?_,trivial⟩
     intro _ k _ m;obtain rfl:=m (by decide);intro a f b hd K t;have b:Below wj.heap.size wj f:=b;obtain ⟨c0,c1,c2,c3⟩:=(XM.out.below b XM.out.lt).c4;have u:=trivial;have J:=trivial;rotate_left;intro _ k _ m;obtain rfl:=m (by decide);intro a f b hd K t;have u:=trivial;have J:=trivial;rotate_left;intro _ k _ m;obtain rfl:=m (by decide);intro a f b hd K t;have u:=trivial;have J:=trivial;rotate_left;intro _ k _ m;obtain rfl:=m (by decide);intro a f b hd K t;have u:a 1=_:=hd ⟨1,.data⟩ (by simp) rfl;have J:a 2=_:=hd ⟨2,.data⟩ (by simp) rfl;have eh:((i:Int)<(g.done.length:Int)):=by omega
     rotate_left;intro _ k _ m;obtain rfl:=m (by decide);intro a f b hd K t;have u:a 3=_:=hd ⟨3,.data⟩ (by simp) rfl;have b:Below wj.heap.size wj f:=b;have k0:=am HE.out.1 b;have k1:=am HE.out.2.1 b;have k2:=am HE.out.2.2 b;have J:=trivial;rotate_left
     ·intro _ k _ m
      obtain rfl:=m (by decide);intro a f b hd K t;have b:Below wj.heap.size wj f:=b;have M:a 0=_:=hd ⟨0,.data⟩ (by simp) rfl;have aT:a 4=_:=hd ⟨4,.data⟩ (by simp) rfl;(try dsimp only [frq]);(try simp only [M,aT]);go_simp;go_at_call 15;refine (HA.out.goS f A1 n1 c1 C1 p1 d1 D1 q1 f1 (d6.out.belw b) (cv.out.belw b) (b2.out.belw b)).mono ?_;rintro U wr ⟨E,n9,B,B9,m9,d9,Y,k9,Z,rfl,hY,O⟩;have j:=t.out _ _ ⟨E,n9,B,B9,m9,d9,Y,k9,Z,rfl,hY⟩ O;dsimp only [frq] at j;simp only [M,aT] at j;exact j
     ·intro _ k _ m
      obtain rfl:=m (by decide);intro a f b hd K t;obtain ⟨E,n9,B,B9,m9,d9,Y,k9,Z,e5,hY⟩:VAp 0 G (a 5) f:=hd ⟨5,.data⟩ (by simp) rfl;(try dsimp only [frq]);(try simp only [e5]);go_simp;have j:=t.out _ _ ⟨E,n9,B,B9,m9,d9,Y,k9,Z,rfl,hY⟩ (ae _);dsimp only [frq] at j;simp only [e5] at j;exact j
     ·intro _ k _ m
      obtain rfl:=m (by decide);intro a f b hd K t;obtain ⟨E,n9,B,B9,m9,d9,Y,k9,Z,e6,hY⟩:VAp 0 G (a 6) f:=hd ⟨6,.data⟩ (by simp) rfl;(try dsimp only [frq]);(try simp only [e6]);go_simp;have j:=t.out _ _ ⟨E,n9,B,B9,m9,d9,Y,k9,Z,rfl,hY⟩ (ae _);dsimp only [frq] at j;simp only [e6] at j;exact j
     intro _ k m _
     (obtain rfl | rfl:=(show k=0\/k=1 by have m:k<=1:=m;omega)) <;> (intro a f b hd K t;obtain ⟨E,n9,B,B9,m9,d9,Y,k9,Z,e6,hY⟩:VAp 0 G (a 6) f:=hd ⟨6,.data⟩ (by simp) rfl;have u:=e6;have J:=trivial)
     rotate_left 2;intro _ k m _
     (obtain rfl | rfl:=(show k=0\/k=1 by have m:k<=1:=m;omega)) <;> (intro a f b hd K t;have u:a 8=_:=hd ⟨8,.data⟩ (by simp) rfl;have J:=trivial)
     rotate_left 2
     all_goals
      (try dsimp only [frq]);(try simp only [u,J]);go_simp;have j:=t.out _ _ rfl (ae _);dsimp only [frq] at j;(try simp only [u,J] at j);exact j
    ·intro k i o m ho
     obtain rfl:=(show k=0 by have:=gF m;have:k<1:=this;omega)
     ·injection m with m
      subst m;injection ho with ho;subst ho;intro a f DD hn b hD hd K t;have b:Below wj.heap.size wj f:=b;obtain ⟨E,n9,B,B9,m9,d9,Y,k9,Z,e7,hY⟩:VLv G (a 7) f:=hd 7 (hD ⟨7,.data⟩ (by simp) rfl);have r:=XM.out.below b XM.out.lt;obtain ⟨cn,d4,ck,db⟩:=r.c4;obtain ⟨cy,ea,dn,cr⟩:=r.f4;(try dsimp only [frq]);(try simp only [e7]);go_simp;have t1:=lp r ⟨rfl,rfl,rfl,rfl⟩ (aa G.name) (.slice E n9 B) (.slice B9 m9 d9) (.slice Y k9 Z);have j:=t.out undef _ (show ∃ A n c C p d D q e,Blk _ Q 26 #[aa G.name,.slice A n c,.slice C p d,.slice D q e]/\LkY 130 _ A n c C p d D q e G/\wj.grownBy _ (some Q)/\Tch (aW 26) wj _ from ⟨_,_,_,_,_,_,_,_,_,r.s4 _ _ _ _,hY.tch t1 (by decide) (by decide) (by decide) (by decide),gb_set (gb_set (gb_set (gb_set (vy b (vO f (some Q))) _ _) _ _) _ _) _ _,(Tch.below b).trans t1⟩) trivial (ce.all ⟨fun h=>(hd 6 h:VAp 0 G (a 6) f).tch1 t1,fun h=>hd 8 h,fun h=>hd 10 h,trivial⟩);dsimp only [frq] at j;simp only [e7] at j;exact j
    intro a w9 b hr;obtain ⟨A8,n8,c8,B8,m8,d8,C8,k8,f8,b4,b1,bs,bl⟩:∃ A n c C p d D q e,Blk w9 Q 26 #[aa G.name,.slice A n c,.slice C p d,.slice D q e]/\LkY 130 w9 A n c C p d D q e G/\wj.grownBy w9 (some Q)/\Tch (aW 26) wj w9:=b;have cL:a 10=aV 0:=hr 10 (by decide);have c5:=Qh b4;have d2:=Qh b1;have c6:=Qh (b5.out.far rfl bs bl);have dr:=Qh (b7.out.tch bl (by decide) (fun _ _ y=>y));have cp:=qj.grown bs (Nat.le_trans (Nat.le_trans bx aC) (Nat.le_of_lt XM.out.lt)) (fun y hy=>by injection hy with hy;omega);clear b4 b1 bs bl;dsimp only [frq];rw [cL,aO];clear hr;generalize a 0=z0;generalize a 1=z1;generalize a 2=z2;generalize a 3=z3;generalize a 4=z4;generalize a 5=z5;generalize a 6=z6;generalize a 7=z7;generalize a 8=z8;generalize a 9=z9;go_wp2_with fail;go_roundw
    case rel=>exact ⟨i+1,by go_num,by omega,G,A8,n8,c8,B8,m8,d8,C8,k8,f8,dO.out,c5,Qh d2.out.out,c6,dr,cp⟩
    case measure=>simp [intOf];omega
   have bf:((i:Int)<(g.done.length:Int))=False:=by simp;omega
   obtain rfl:i=g.done.length:=by omega
   have ac:=Qh (show Li=g.now from by
    rw [<- HI.out.len,List.getElem?_append_right Qr] at hS;simp at hS
    exact hS.symm)
   clear hS;go_wp2_with fail;change Code.wp _ _ _ (frr _ _ _ _ _ _ _ _ _ _ _ _ _ _ _ _ _ _ _ _ _ _ _ _ _ _ _ _ _ _ _ _ _ _ _ _ _ _ _ _ _ _ _ _ _ _ _ _ _ _ _ _ _ _ _ _ _ _ _ _ _ _ _ _ _ (fun ri=>List.getD (_::_::_::_::_::[]) ri undef)) _;refine cJ (x0:=_) (R:=fun ri=>List.getD ((PEq (.agg #[aa Li.name,.slice A1 n1 c1,.slice C1 p1 d1,.slice D1 q1 f1]))::(PEq (.pointer (some ⟨gl,0,none⟩)))::(VLv g.now)::(PEq (.bool true))::(PEq (.bool true))::[]) ri (fun _ _=>True)) (by kernel_rfl) (aq ⟨fun _ _=>rfl,fun _ _=>rfl,fun _ _=>rfl,fun _ _=>rfl,fun _ _=>rfl,trivial⟩) (aq (be _ 0 (by kernel_rfl))) (dG.get _ ⟨gEq _,gEq _,(gLv g.now),gEq _,gEq _,trivial⟩) (aq ⟨?_,?_,?_,?_,?_,trivial⟩) ?_;intro a f hb hd K t;obtain ⟨c0,c1,c2,c3⟩:=(XM.out.below hb XM.out.lt).c4;have u:=trivial;rotate_left;intro a f hb hd K t;have u:=trivial;rotate_left
   ·intro a f hb hd K t
    have al:a 1=_:=hd ⟨1,.data⟩ (by simp) rfl;(try dsimp only [frr]);(try simp only [al]);go_simp;go_at_call 17;refine (kB (fun x=>x=Q) z.heap.size f gl g (b5.out.blw hb) HI.out.now_).mono ?_;rintro U wr ⟨E,n9,B,Y,p9,d9,D9,q9,Z,rfl,a4,O⟩;have j:=t.out _ _ ⟨E,n9,B,Y,p9,d9,D9,q9,Z,rfl,a4⟩ O;dsimp only [frr] at j;simp only [al] at j;exact j
   ·intro a f hb hd K t
    have M:a 0=_:=hd ⟨0,.data⟩ (by simp) rfl;obtain ⟨E,n9,B,Y,p9,d9,D9,q9,Z,U,a4⟩:VLv g.now (a 2) f:=hd ⟨2,.data⟩ (by simp) rfl;(try dsimp only [frr]);(try simp only [M,U]);go_simp;obtain ⟨ee,ej,eg⟩:=a4.len;have nb:=HI.out.now_.nb;have nj:=HI.out.now_.nj;have nd:=HI.out.now_.nd;have aS:=b2.out.belw hb;have ds:=aS.bodies.1;have di:=aS.joints.1;have cu:=aS.drivers.1;go_at_call 16;refine (kD f A1 n1 c1 C1 p1 d1 D1 q1 f1 Li (aS.upto (by decide)) E n9 B Y p9 d9 D9 q9 Z g.now (a4.out.upto (by decide)) (by rw [ac.out];exact HI.out.now_.np) (by rw [ac.out] at ds;omega) (by rw [ac.out] at di;omega) (by rw [ac.out] at cu;omega) true (by simp [ac.out])).mono ?_;rintro U wr ⟨rfl,O⟩;have j:=t.out _ _ rfl O;dsimp only [frr] at j;simp only [M,U] at j;exact j
   intro a f hb hd K t;have u:a 3=_:=hd ⟨3,.data⟩ (by simp) rfl;rotate_left
   ·intro a f hb hr
    have aT:a 4=.bool true:=hr 4 (by decide);have eb:=X.trans ((qj.trans (hb.mono qj.size)).mono X.size);dsimp only [frr];simp only [aT];go_wp2;go_ret;exact ⟨rfl,eb⟩
   all_goals
    (try dsimp only [frr]);(try simp only [u]);go_simp;have j:=t.out _ _ rfl (ae _);dsimp only [frr] at j;(try simp only [u] at j);exact j
end Go.Proofs.YtndhgcfajlalhaaGreatDoor
