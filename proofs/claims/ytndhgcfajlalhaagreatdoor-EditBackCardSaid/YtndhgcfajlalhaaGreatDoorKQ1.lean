import Derived.Below
import Derived.Laws.OwnMore
import Derived.Deep.Draws
import Derived.OneCell
import Derived.Laws.Rows
import Derived.Test.YtndhgcfajlalhaaGreatDoorProg
import Derived.WalkKit
import Derived.WalkSpells
import Derived.WalkLawsBesides
import Derived.BigQuiet
import Derived.Deep.QuietTactic
import Derived.Deep.AppendLies
import Derived.Lib.Hide
import Derived.Deep.RegionHeld3
import Derived.Deep.DrawnRows
import Derived.Shelf.Strings.Builder1
import Derived.Shelf.Strings.Builder2
import Derived.Shelf.Strings.OnBuilder
import Derived.Shelf.Strings.Trim
import Derived.Shelf.Small.Utf8
import Derived.Shelf.Small.Bits
import Derived.Shelf.Small.Strs
import Derived.Shelf.Small.Wraps
import Derived.Shelf.Strings.BuilderF
import Derived.Shelf.Strings.BuilderK
import Derived.Shelf.Strings.Builder2Cap
import Derived.Shelf.Strconv.Atoi
import Derived.Shelf.Strconv.Itoa0
import Derived.Shelf.Strconv.Itoa1
import Derived.Shelf.LaysM
import Derived.Shelf.Strconv.Itoa2
import Derived.Shelf.Strconv.Itoa3
import Derived.Shelf.Strings.Search1
import Derived.Shelf.Strings.Search2
import Derived.Shelf.Strings.Cut
import Derived.Shelf.Strings.Shaped
import Derived.Shelf.Strings.Prefix
import Derived.Shelf.Strings.Runes
import Derived.Shelf.Strings.AsciiSet
import Derived.Shelf.Bits.Mul64
import Derived.Shelf.Strings.Repeat
import Derived.Shelf.Unicode.DecodeSlow
import Derived.Shelf.Strings.BuilderCap
import Derived.IntWalk
import Derived.Deep.DeepCutAuto
import Derived.Deep.RegionHeld
import Derived.Lib.ItoaNum
import Derived.Lib.ItoaMem
import Derived.Lib.Repeat
import Derived.Lib.Join
import Derived.Lib.Atoi
import Derived.Lib.SlTrimSet
import Derived.Lib.AppendIntMem
import Derived.Shelf.Strings.SlTrimAscii
import Derived.Lib.IndexMore
import Derived.Lib.SliceRun
import Derived.Deep.RegionLaw
import Derived.Laws.StructEq
import Derived.Test.YtndhgcfajlalhaaGreatDoorCards
import Derived.Test.YtndhgcfajlalhaaGreatDoorTie
import Derived.ProofKit
import Derived.OpenShut
import Derived.Deep.DeepHandedRow
import Derived.Lib.LaidTab
import Derived.Shelf.Vars
import Derived.Deep.Slices
import Derived.SizedLaws
import Derived.ChangeMaps5
import Derived.Test.YtndhgcfajlalhaaGreatDoorBQ7
set_option linter.unusedVariables false
set_option maxHeartbeats 8000000
set_option maxRecDepth 100000
namespace Go.Proofs.YtndhgcfajlalhaaGreatDoor
open Go Go.RowKit Bn
attribute [local go_sem ↓] Go.wp_at_zero Go.wp_at_succ

theorem uy (x:Int) (w:World):(Instr.typeAssert (.iface 58 (.int .i64 x)) 34 58 true).run Tryz.prog w=.ok (.tuple #[.int .i64 x,.bool true]) w:=by
 simp [Instr.typeAssert,run_underlying Tryz.underlying58]
theorem xX (w:World) (x:Int):Calls Tryz.prog 46 #[.iface 58 (.int .i64 x)] w (ax w (.int .i64 x)):=by
 go_in;have a:=uy x;go_wp2;go_ret;exact ⟨rfl,ae w⟩

theorem FQ (w:World) (x:Int):Calls Tryz.prog 18 #[.iface 58 (.int .i64 x),.int .i64 x] w (ax w (.bool true)):=by
 go_in;go_wp2_with (go_at_call 46;refine (xX _ x).mono ?_;rintro e b ⟨rfl,a⟩);go_ret;exact ⟨rfl,a⟩
theorem p_undone (N:Nat->Prop) (B:Nat) (w:World) (f:Nat) (g:bQ) (h:cT N B w f g) (F:g.undone.length<=1000):Calls Tryz.prog 22 #[.pointer (some ⟨f,0,none⟩)] w (Aq w g.undone):=by
 obtain ⟨A,n,c,C,p,d,D,q,e,E,m,u,h⟩:=h;obtain ⟨t,c5,x,c6,i,c7,rfl,rfl,rfl,r,y,o⟩:=h.forms;have c1:=h.core.blk.cell 6;have j:=Qh h.und.1.eds;clear h;go_in;go_wp2_with fail;refine (jI w i g.undone.length c7 g.undone j.out (by omega)).mono ?_;rintro s z ⟨v,rfl,a,b⟩;obtain ⟨k,c2,rfl,l⟩:=a.form;go_wp2;go_ret;exact ⟨k,c2,rfl,a.eds,b⟩
end Go.Proofs.YtndhgcfajlalhaaGreatDoor

namespace Go.Proofs.YtndhgcfajlalhaaGreatDoor
open Go Go.RowKit Bn Go.ChangeShapes Go.WideShapes Go.ChangeAt
attribute [local go_sem ↓] Go.wp_at_zero Go.wp_at_succ
variable {H:Type}{enc:TypeId × Value->H}{W:World}
variable {base:Nat}
def py (w:World) (g o:Nat) (e:bo):Prop:=gh w g o e/\e.name.length<=reachBytes/\e.text.length<=reachBytes
theorem Bg (fuel:Nat) (cs:List Value) (y:DataW H × List MemPlace) (g o:Nat) (f:cs.length=3) (c:∀ i,i<3->W.cell? ⟨g,o+i,none⟩=cs[i]?) (h:DataW.trod enc Tryz.prog W 0 (fun _=>true) true fuel 39 cs=some y) (l:Szd 39 y.1):∃ a,py W g o a:=by
 match cs,f with
 | [v0,v1,v2],_ =>
  obtain ⟨d,nm,j,rfl,rfl,rfl,k,b⟩:=nM h l;exact ⟨⟨d,nm,j⟩,⟨c 0 (by omega),c 1 (by omega),c 2 (by omega)⟩,k,b⟩
theorem uz {base:Nat}{v:Value}{d:DataW H}{p:List MemPlace}(f:Value.okWide Tryz.prog W .any base 42 v) (h:DataW.Trod enc Tryz.prog W 0 (fun _=>true) true 42 v d p) (g:Szd 42 d) :
 ∃ A n c l,v=.slice A n c/\SlS py 3 W A n c l/\n<=reachBytes:=by
 have a:=f;unfold Value.okWide at a;rw [Tryz.underlying42] at a;obtain ⟨fuel,h⟩:=h
 have b:v.cells.toList=[v]:=by
  unfold Cell.okWide at a;rw [Tryz.underlying42] at a;cases v <;> first | rfl | (unfold Cell.ok at a;rw [Tryz.underlying42] at a;exact a.elim)
 rw [b] at h;obtain ⟨A,n,c,l,rfl,i⟩:=fu py 3 Tryz.underlying42 (by kernel_rfl) (by decide) Bg h g;exact ⟨A,n,c,l,rfl,i,qR Tryz.underlying42 (by decide) h g⟩
end Go.Proofs.YtndhgcfajlalhaaGreatDoor
namespace Go.Proofs.YtndhgcfajlalhaaGreatDoor
open Go Go.RowKit Bn
attribute [local go_sem ↓] Go.wp_at_zero Go.wp_at_succ
def reG (g:bQ) (j:Nat):bQ:=⟨((g.before++[g.now])[j]?).getD L0,(g.before++[g.now]).take j,g.done.take j,(g.done.drop j).reverse⟩
section
variable {l:ag}{m:Nat}{g:bQ}
theorem cQ.sl (h:cQ l m g):(g.before++[g.now]).length=g.done.length+1:=by simp [h.len]
theorem jw (h:cQ l m g) {j:Nat}(b:j<=g.done.length):(g.before++[g.now])[j]?=some (reG g j).now:=by
 have a:=h.sl;have e:(g.before++[g.now])[j]?=some (g.before++[g.now])[j]:=List.getElem?_eq_getElem (by omega);unfold reG;simp only;rw [e];rfl
theorem mg (h:cQ l m g) {j:Nat}(a:j<=g.done.length):gH (reG g j).now:=h.inv _ (List.mem_of_getElem? (jw h a))
theorem qW (h:cQ l m g) (c:g.undone=[]):reG g g.done.length=g:=by
 have b:=h.len;have a:=jw h (Nat.le_refl g.done.length);rw [<- b,List.getElem?_append_right Qr] at a;simp at a;obtain ⟨now,before,done,undone⟩:=g;simp only at c b a;subst c;unfold reG at a ⊢;simp only [bQ.mk.injEq];refine ⟨?_,?_,by simp,by simp⟩
 ·rw [b] at a;exact a.symm
 rw [<- b];simp
theorem tb (h:cQ l m g):(reG g 0).now=l/\(reG g 0).done=[]:=by
 have:=jw h (Nat.zero_le _);rw [h.st] at this;exact ⟨(Option.some.inj this).symm,rfl⟩
theorem Bh (h:cQ l m g) {j:Nat}(a:j<g.done.length):(reG g (j+1)).done.length=j+1/\(reG g (j+1)).before[j]?=some (reG g j).now/\∃ e1,(reG g (j+1)).done[j]?=some e1/\(⟨(reG g j).now,(reG g (j+1)).before.take j,(reG g (j+1)).done.take j,(reG g (j+1)).undone++[e1]⟩:bQ)=reG g j:=by
 have hd:g.done.drop j=g.done[j]::g.done.drop (j+1):=List.drop_eq_getElem_cons a;refine ⟨by show (g.done.take (j+1)).length=_;rw [List.length_take];omega,?_,g.done[j],?_,?_⟩
 ·show ((g.before++[g.now]).take (j+1))[j]?=_
  rw [List.getElem?_take,if_pos (Nat.lt_succ_self j)];exact jw h (Nat.le_of_lt a)
 ·show (g.done.take (j+1))[j]?=_
  rw [List.getElem?_take,if_pos (Nat.lt_succ_self j)];exact List.getElem?_eq_getElem a
 show bQ.mk _ (((g.before++[g.now]).take (j+1)).take j) ((g.done.take (j+1)).take j) ((g.done.drop (j+1)).reverse++[g.done[j]])=bQ.mk _ _ _ (g.done.drop j).reverse;rw [List.take_take,List.take_take,Nat.min_eq_left (Nat.le_succ j),hd,List.reverse_cons];rfl
theorem Bi (h:cQ l m g) {j:Nat}(a:j<g.done.length):∃ ed,(reG g j).undone.length=(g.done.length-j-1)+1/\(reG g j).undone[g.done.length-j-1]?=some ed/\ApC (reG g j).now ed 0 (reG g (j+1)).now/\(⟨(reG g (j+1)).now,(reG g j).before++[(reG g j).now],(reG g j).done++[ed],(reG g j).undone.take (g.done.length-j-1)⟩:bQ)=reG g (j+1):=by
 have hd:g.done.drop j=g.done[j]::g.done.drop (j+1):=List.drop_eq_getElem_cons a
 have c:(reG g j).undone=(g.done.drop (j+1)).reverse++[g.done[j]]:=by
  show (g.done.drop j).reverse=_;rw [hd,List.reverse_cons]
 have b:(g.done.drop (j+1)).reverse.length=g.done.length-j-1:=by rw [List.length_reverse,List.length_drop];omega
 have d:=jw h (Nat.le_of_lt a);have k:=jw h (show j+1<=g.done.length from a);refine ⟨g.done[j],by rw [c,List.length_append,b];rfl,by rw [c,List.getElem?_append_right (by omega),b];simp,h.ch j _ _ _ d k (List.getElem?_eq_getElem a),?_⟩;have i:(g.before++[g.now]).take (j+1)=(g.before++[g.now]).take j++[(reG g j).now]:=by rw [List.take_add_one,d];rfl
 have f:g.done.take (j+1)=g.done.take j++[g.done[j]]:=by rw [List.take_add_one,List.getElem?_eq_getElem a];rfl
 rw [c];show bQ.mk _ ((g.before++[g.now]).take j++[(reG g j).now]) (g.done.take j++[g.done[j]]) (List.take (g.done.length-j-1) ((g.done.drop (j+1)).reverse++[g.done[j]]))=bQ.mk _ ((g.before++[g.now]).take (j+1)) (g.done.take (j+1)) (g.done.drop (j+1)).reverse;rw [i,f,List.take_left' b];rfl
theorem qX (h:cQ l m g) {j:Nat}(a:j<=g.done.length):(reG g j).undone.length=g.done.length-j/\(reG g j).done.length=j:=by
 refine ⟨by show (g.done.drop j).reverse.length=_;rw [List.length_reverse,List.length_drop],by show (g.done.take j).length=_;rw [List.length_take];omega⟩
end
def lnE (l:List bo):Nat:=(l.map fun s=>s.name.length+s.text.length).sum
theorem Bk {l:List bo}{i:Nat}{s:bo}(h:l[i]?=some s):lnE (l.take (i+1))=lnE (l.take i)+(s.name.length+s.text.length):=by
 have a:l.take (i+1)=l.take i++[s]:=by rw [List.take_add_one,h];rfl
 unfold lnE;rw [a,List.map_append,List.sum_append];simp
theorem CK {l:List bo}{s:bo}(h:s∈l):s.name.length+s.text.length<=lnE l:=by
 unfold lnE
 induction l with
 | nil=>cases h
 | cons a r ih =>
  rw [List.map_cons,List.sum_cons];rcases List.mem_cons.1 h with e | e
  ·subst e;omega
  have:=ih e;omega
theorem SlS.edR {w a:World}{A:Option Addr}{n c:Nat}{l:List bo}(h:SlS py 3 w A n c l) (hb:Below w.heap.size w a):SlS py 3 a A n c l:=h.belw (fun _ _ _ h=>⟨h.1.belw hb,h.2⟩) hb
abbrev frv (u0 u1 u2 u3 u4 u5 u6 u7 u8 u9 u10 u11 u12 u13 u14 u15 u16 u17 u18 u19 u20 u21 u22 u23 u24 u25 u26 u27 u28 u29 u30 u31 u32 u33 u34 u35 u36 u37 u38 u39 u40 u41 u42 u43 u44 u45 u46 u47 u48 u49 u50 u51 u52 u53 u54 u55 u56 u57 u58 u59 u60 u61 u62 u63 u64 u65 u66 u67 u68 u69 u70 u71 u72 u73 u74 u75 u76 u77 u78 u79 u80 u81 u82 u83 u84 u85 u86 u87 u88 u89 u108 u109 u110 u111 u112 u113 u114 u115 u116 u117 u118 u119 u120 u121 u122 u123 u124:Value) (xf:Nat->Value):Act:=⟨List.toArray (u0::u1::u2::u3::u4::u5::u6::u7::u8::u9::u10::u11::u12::u13::u14::u15::u16::u17::u18::u19::u20::u21::u22::u23::u24::u25::u26::u27::u28::u29::u30::u31::u32::u33::u34::u35::u36::u37::u38::u39::u40::u41::u42::u43::u44::u45::u46::u47::u48::u49::u50::u51::u52::u53::u54::u55::u56::u57::u58::u59::u60::u61::u62::u63::u64::u65::u66::u67::u68::u69::u70::u71::u72::u73::u74::u75::u76::u77::u78::u79::u80::u81::u82::u83::u84::u85::u86::u87::u88::u89::xf 0::xf 1::xf 2::xf 3::xf 4::xf 5::xf 6::xf 7::xf 8::xf 9::xf 10::xf 11::xf 12::xf 13::xf 14::xf 15::xf 16::xf 17::u108::u109::u110::u111::u112::u113::u114::u115::u116::u117::u118::u119::u120::u121::u122::u123::u124::[]),[]⟩
abbrev frw (u0 u1 u2 u3 u5 u6 u7 u8 u9 u10 u11 u12 u13 u14 u15 u16 u17 u18 u19 u20 u21 u22 u23 u24 u25 u26 u27 u28 u29 u30 u31 u32 u33 u34 u35 u36 u37 u38 u39 u40 u41 u42 u43 u44 u45 u46 u47 u48 u49 u50 u51 u52 u53 u54 u55 u56 u57 u58 u59 u60 u61 u62 u63 u64 u65 u66 u67 u68 u69 u70 u71 u72 u73 u74 u75 u76 u77 u78 u79 u80 u81 u82 u83 u84 u85 u86 u87 u88 u89 u90 u91 u92 u93 u94 u95 u96 u97 u98 u99 u100 u101 u102 u103 u104 u105 u106 u107 u108 u109 u110 u111 u112 u113 u114 u115:Value) (xf:Nat->Value):Act:=⟨List.toArray (u0::u1::u2::u3::xf 9::u5::u6::u7::u8::u9::u10::u11::u12::u13::u14::u15::u16::u17::u18::u19::u20::u21::u22::u23::u24::u25::u26::u27::u28::u29::u30::u31::u32::u33::u34::u35::u36::u37::u38::u39::u40::u41::u42::u43::u44::u45::u46::u47::u48::u49::u50::u51::u52::u53::u54::u55::u56::u57::u58::u59::u60::u61::u62::u63::u64::u65::u66::u67::u68::u69::u70::u71::u72::u73::u74::u75::u76::u77::u78::u79::u80::u81::u82::u83::u84::u85::u86::u87::u88::u89::u90::u91::u92::u93::u94::u95::u96::u97::u98::u99::u100::u101::u102::u103::u104::u105::u106::u107::u108::u109::u110::u111::u112::u113::u114::u115::xf 0::xf 1::xf 2::xf 3::xf 4::xf 5::xf 6::xf 7::xf 8::[]),[]⟩
theorem uB (w:World) (A:Option Addr) (n c:Nat) (C:Option Addr) (p d:Nat) (D:Option Addr) (q e:Nat) (L:ag) (h:LkS reachBytes w A n c C p d D q e L) (SA:Option Addr) (G sc:Nat) (l:List bo) (hs:SlS py 3 w SA G sc l) (dv:G<=reachBytes) (bd:Tab w) (cm:Mx w):Calls Tryz.prog 5 #[.agg #[aa L.name,.slice A n c,.slice C p d,.slice D q e],.slice SA G sc] w (ax w (.bool true)):=by
 have q0:=(ae w).alloc Qr (.cells #[aa L.name,.slice A n c,.slice C p d,.slice D q e] 26);have x0:Blk (w.alloc (.cells #[aa L.name,.slice A n c,.slice C p d,.slice D q e] 26)) w.heap.size 26 #[aa L.name,.slice A n c,.slice C p d,.slice D q e]:=Blk.new _ _ _;have H:=Qh h;have bb:=Qh hs;have I:=Qh bd;have HM:=Qh cm;obtain ⟨v1,b8⟩:∃ v,ol L=v:=⟨_,rfl⟩;have cp:=Qh b8;clear h hs bd cm b8;go_in;go_wp2_with fail;generalize (w.alloc (.cells #[aa L.name,.slice A n c,.slice C p d,.slice D q e] 26))=w0 at q0 x0 ⊢;refine (ci w0 (I.out.belw q0) (HM.out.belw q0)).mono ?_;rintro e' w1 ⟨rfl,W⟩;have q1:=q0.trans (W.mono q0.size);have x1:=x0.below W x0.lt;obtain ⟨a0,a1,a2,a3⟩:=x1.c4;clear x0 q0 W;go_wp2_with fail;refine (lu w1 A n c C p d D q e L (H.out.belw q1) v1 cp.out).mono ?_;rintro e' w2 ⟨rfl,ab⟩;have q2:=q1.trans (ab.mono q1.size);have x2:=x1.below ab x1.lt;clear a0 a1 a2 a3 x1 q1 ab;cases v1;rotate_left
 ·go_wp2_with fail
  refine (ci w2 (I.out.belw q2) (HM.out.belw q2)).mono ?_;rintro e' w3 ⟨rfl,Q⟩;have q3:=q2.trans (Q.mono q2.size);go_wp2;go_ret;exact ⟨rfl,q3⟩
 by_cases h20:20<G
 ·have u1:((20:Int)<(G:Int))=True:=eq_true (by omega)
  go_wp2_with fail;refine (ci w2 (I.out.belw q2) (HM.out.belw q2)).mono ?_;rintro e' w3 ⟨rfl,Q⟩;have q3:=q2.trans (Q.mono q2.size);go_wp2;go_ret;exact ⟨rfl,q3⟩
 have u1:((20:Int)<(G:Int))=False:=eq_false (by omega);have H2:=Qh (((H.out.belw q2).of40 (qQ cp.out)).upto (by decide:40<=130));obtain ⟨a0,a1,a2,a3⟩:=x2.c4;go_wp2_with fail;refine (qF w2 A n c C p d D q e L 130 H2.out (by decide) (by decide) (aG L) rfl).mono ?_;rintro e' w3 ⟨rfl,Q⟩;have q3:=q2.trans (Q.mono q2.size);have x3:=x2.below Q x2.lt;have H3:=Qh (H2.out.belw Q);clear a0 a1 a2 a3 x2 q2 Q H2;by_cases hL:aG L=0;rotate_left
 ·have u2:(aG L=0)=False:=eq_false hL
  have u3:(aG L==0)=false:=by simpa using hL
  go_wp2_with fail;refine (ci w3 (I.out.belw q3) (HM.out.belw q3)).mono ?_;rintro e' w5 ⟨rfl,a9⟩;have q5:=q3.trans (a9.mono q3.size);go_wp2;go_ret;exact ⟨rfl,q5⟩
 rw [hL];have b9:=Qh (dJ hL);have ds:G<=sc:=bb.out.2.1;have dO:l.length=G:=bb.out.1;clear u1;go_wp2_with fail;go_loopw [5,6] (fun sv Y wr=>∃ i:Nat,sv=.int .i64 ((lnE (l.take i):Nat):Int)/\Y=.int .i64 (i:Nat)/\i<=G/\lnE (l.take i)<=i*281474976710656/\Below w3.heap.size w3 wr) (fun _ Y _=>G-(intOf Y).toNat)
 case atStart=>exact ⟨0,rfl,rfl,Nat.zero_le _,Nat.zero_le _,ae w3⟩
 case round =>
 obtain ⟨i,rfl,rfl,hi,a5,a4⟩:=hrel;rename World=>w4;have q4:=q3.trans (a4.mono q3.size);rcases Nat.lt_or_ge i G with ac | bz
 ·have Z:((i:Int)<(G:Int))=True:=by simp;omega
  have dq:((i:Int)<(G:Int)):=by omega
  obtain ⟨ge,oe,a,e1,hg,_,aC,⟨⟨d0,d1,d2⟩,b1,cv⟩⟩:=(bb.out.edR q4).at_ ac;subst e1;have s1:=gR b1;have s2:=gR cv;have HB:=Qh aC;have HS:=Qh a5;have u1:IntKind.i64.wrap ((a.name.length:Int)+(a.text.length:Int))=(a.name.length:Int)+(a.text.length:Int):=wrap_i64 (by omega) (by omega);have u2:IntKind.i64.wrap (((lnE (l.take i):Nat):Int)+((a.name.length:Int)+(a.text.length:Int)))=((lnE (l.take i):Nat):Int)+((a.name.length:Int)+(a.text.length:Int)):=wrap_i64 (by omega) (by omega);clear aC b1 cv a5;go_wp2_with fail;go_quiet (fail);go_wp2_with fail;go_roundw
  case rel =>
   have h9:=Bk HB.out;have h8:=HS.out;exact ⟨i+1,by rw [h9];congr 1,by go_num,by omega,by rw [h9];omega,af a4 _⟩
  case measure=>simp [intOf];omega
 have Z:((i:Int)<(G:Int))=False:=by simp;omega
 obtain rfl:G=i:=by omega
 have cr:l.take G=l:=List.take_of_length_le (by omega);rw [cr] at a5 ⊢;have x4:=x3.below a4 x3.lt;have H4:=Qh (H3.out.belw a4);clear x3 q3 a4 H3 cr;obtain ⟨a0,a1,a2,a3⟩:=x4.c4;go_wp2_with fail;refine (vM (fun _=>False) w4.heap.size w4 A n c C p d D q e L H4.out hL Qr (fun _ h=>h.elim)).mono ?_;rintro e' w5 ⟨M,rfl,O,a9⟩;have cn:=Qh O;have cs:=Qh a9;clear a0 a1 a2 a3 O a9;by_cases h4:4000<lnE l
 ·have u1:((4000:Int)<((lnE l:Nat):Int))=True:=eq_true (by omega)
  go_wp2;go_ret;exact ⟨rfl,q4.trans (cs.out.mono q4.size)⟩
 have u1:((4000:Int)<((lnE l:Nat):Int))=False:=eq_false (by omega);have cL:=Qh (show ∀ s∈l,oj s from fun s hs=>by have:=CK hs;exact ⟨by omega,by omega⟩);go_wp2_with fail;clear u1;go_loopw [9] (fun Y wr=>∃ i:Nat,Y=.int .i64 (i:Nat)/\i<=G/\Hid (∃ g,cT (fun _=>False) w4.heap.size wr M g/\cQ L i g/\g.undone=[])/\Below w4.heap.size w4 wr) (fun Y _=>G-(intOf Y).toNat)
 case atStart=>exact ⟨0,rfl,Nat.zero_le _,Qh ⟨_,cn.out,cQ.new b9.out,rfl⟩,cs.out⟩
 case round =>
 obtain ⟨i,rfl,hi,HG,qi⟩:=hrel;rename World=>wi;obtain ⟨g,O,hI,hU⟩:=HG.out;have d3:=hI.nl;have al:=Qh O;have S:=Qh hI;have HU:=Qh hU;clear HG O hI hU;rcases Nat.lt_or_ge i G with ac | bz
 ·have Z:((i:Int)<(G:Int))=True:=by simp;omega
  have dq:((i:Int)<(G:Int)):=by omega
  have a8:=q4.trans (qi.mono q4.size);obtain ⟨ge,oe,a,e1,hg,_,aC,⟨⟨d0,d1,d2⟩,_,_⟩⟩:=(bb.out.edR a8).at_ ac;subst e1;have bw:=cL.out a (List.mem_of_getElem? aC);obtain ⟨x,L',hA,ck⟩:=kJ g.now a (by have:=bw.2;omega);have z:=Qh (CA (fun _=>False) w4.heap.size wi M g al.out a x L' hA (by omega) (I.out.belw a8) (HM.out.belw a8));have bf:=Qh (show x=0->cQ L (i+1) ⟨L',g.before++[g.now],g.done++[a],[]⟩ from fun hx=>by subst hx;exact S.out.add hA (ck rfl) bw (fun y hy=>by cases hy) (by simp;omega));clear a8 aC bw hA ck;go_wp2_with fail;refine z.out.mono ?_;rintro e' wb ⟨rfl,b0,N⟩;clear d0 d1 d2
  have bs:Hid (∃ g,cT (fun _=>False) w4.heap.size wb M g/\cQ L (i+1) g/\g.undone=[])/\Below w4.heap.size w4 wb:=by
   by_cases hx:x=0
   ·obtain ⟨X,hl⟩:=N hx
    exact ⟨Qh ⟨_,hl,bf.out hx,rfl⟩,qi.trans X.bel⟩
   exact ⟨Qh ⟨_,al.out.blw (b0 hx),S.out.more (Nat.le_succ _),HU.out⟩,qi.trans ((b0 hx).mono qi.size)⟩
  clear b0 N bf z;go_wp2_with fail;go_roundw
  case rel=>exact ⟨i+1,by go_num,by omega,bs⟩
  case measure=>simp [intOf];omega
 have Z:((i:Int)<(G:Int))=False:=by simp;omega
 obtain rfl:G=i:=by omega
 go_wp2_with fail;refine (kB (fun _=>False) w4.heap.size wi M g al.out S.out.now_).mono ?_;rintro e' wj ⟨A1,n1,c1,C1,p1,d1,D1,q1,f1,rfl,ca,W⟩;have cc:=Qh (al.out.blw W);have ch:=Qh ca;clear ca;go_wp2_with fail;refine (qK (fun _=>False) w4.heap.size wj M g cc.out (by omega)).mono ?_;rintro e' wk ⟨A2,c2,rfl,_,ab⟩;have bk:=W.trans (ab.mono W.size);have cz:=Qh (al.out.blw bk);have cb:=Qh (ch.out.blw ab);have qa:=(ae wk).alloc Qr (.cells #[aa g.now.name,.slice A1 n1 c1,.slice C1 p1 d1,.slice D1 q1 f1] 26);have xa:Blk (wk.alloc (.cells #[aa g.now.name,.slice A1 n1 c1,.slice C1 p1 d1,.slice D1 q1 f1] 26)) wk.heap.size 26 #[aa g.now.name,.slice A1 n1 c1,.slice C1 p1 d1,.slice D1 q1 f1]:=Blk.new _ _ _;have aT:=Qh qa;have XA:=Qh xa;clear cc ch W ab al qa xa;go_upto_region 16 with fail;refine dl ?_;intro wa cu;have bg:wa=wk.alloc (.cells #[aa g.now.name,.slice A1 n1 c1,.slice C1 p1 d1,.slice D1 q1 f1] 26):=cu;rw [<- bg] at aT XA;clear cu bg;obtain ⟨xe,b7⟩:∃ x,wk.heap.size=x:=⟨_,rfl⟩;have bx:=Qh (cz.out.more (N':=fun x=>x=wk.heap.size) aT.out (fun x hx=>by rw [hx];exact XA.out.lt) (fun x hx=>.inr (by rw [hx];exact Qr)));have b5:=Qh (cb.out.blw aT.out);have qA:=qi.trans ((bk.trans (aT.out.mono bk.size)).mono qi.size);rw [b7] at bx XA ⊢;have c6:=Qh (qW S.out HU.out);clear cz cb aT bk qi b7;go_wp2_with fail;go_loopw [12] (fun Y wr=>∃ k:Nat,Y=.int .i64 (k:Nat)/\k<=g.done.length/\Hid (cT (fun x=>x=xe) w4.heap.size wr M (reG g (g.done.length-k)))/\Hid (Blk wr xe 26 #[aa g.now.name,.slice A1 n1 c1,.slice C1 p1 d1,.slice D1 q1 f1])/\Hid (LkY 130 wr A1 n1 c1 C1 p1 d1 D1 q1 f1 g.now)/\Below w4.heap.size w4 wr) (fun Y _=>g.done.length-(intOf Y).toNat)
 case atStart=>exact ⟨0,rfl,Nat.zero_le _,by rw [Nat.sub_zero,c6.out];exact bx,XA,b5,qA⟩
 case round =>
 clear bx XA b5 qA;obtain ⟨k,rfl,hk,F,U,ad,qj⟩:=hrel;rename World=>wj;rcases Nat.lt_or_ge k g.done.length with ac | bz
 ·have Z:((k:Int)<(g.done.length:Int))=True:=by simp;omega
  obtain ⟨j,hj⟩:∃ j,g.done.length-k=j+1:=⟨g.done.length-k-1,by omega⟩;rw [hj] at F;obtain ⟨hm,hb,e1,he,a6⟩:=Bh S.out (show j<g.done.length by omega);have bY:=(qX S.out (show j+1<=g.done.length by omega)).1;have B:=qI (fun x=>x=xe) w4.heap.size wj M _ F.out j hm _ hb e1 he (by omega) (by omega);rw [a6,show j=g.done.length-(k+1) by omega] at B;have z:=Qh B;clear hm hb he a6 bY B hj;go_wp2_with fail;refine z.out.mono ?_;rintro e' wb ⟨rfl,_,N⟩;obtain ⟨X,hl⟩:=N rfl;have bv:=Qh hl;have br:=Qh ((X.kp xe rfl).trans U.out);have bu:=Qh (ad.out.lg X);have q6:=qj.trans X.bel;rw [aO];clear N X hl z;go_wp2_with fail;go_roundw
  case rel=>exact ⟨k+1,by go_num,by omega,bv,br,bu,q6⟩
  case measure=>simp [intOf];omega
 have Z:((k:Int)<(g.done.length:Int))=False:=by simp;omega
 obtain rfl:k=g.done.length:=by omega
 rw [Nat.sub_self] at F;have XL:=Qh (x4.below qj x4.lt);have b2:=Qh (H4.out.belw qj);go_wp2_with fail;change Code.wp _ _ _ (frv _ _ _ _ _ _ _ _ _ _ _ _ _ _ _ _ _ _ _ _ _ _ _ _ _ _ _ _ _ _ _ _ _ _ _ _ _ _ _ _ _ _ _ _ _ _ _ _ _ _ _ _ _ _ _ _ _ _ _ _ _ _ _ _ _ _ _ _ _ _ _ _ _ _ _ _ _ _ _ _ _ _ _ _ _ _ _ _ _ _ _ _ _ _ _ _ _ _ _ _ _ _ _ _ _ _ _ (fun ri=>List.getD (_::_::_::_::_::_::_::_::_::_::_::_::_::_::_::_::_::_::[]) ri undef)) _;refine cJ (x0:=_) (R:=fun ri=>List.getD ((PEq (.pointer (some ⟨M,0,none⟩)))::(VLv (reG g 0).now)::(PEq (.agg #[aa L.name,.slice A n c,.slice C p d,.slice D q e]))::(PEq (.bool true))::(PEq (.bool false))::(PEq (.bool false))::(PEq (.pointer (some ⟨M,0,none⟩)))::(PEq (.iface 58 (.int .i64 11)))::(PEq (.bool true))::(PEq (.bool false))::(PEq (.bool false))::(PEq (.bool false))::(PEq (.pointer (some ⟨M,0,none⟩)))::(fun v w=>∃ A c,v=.slice A g.done.length c)::(PEq (.int .i64 (g.done.length:Nat)))::(PEq (.int .i64 (g.done.length:Nat)))::(PEq (.bool false))::(PEq (.bool false))::[]) ri (fun _ _=>True)) (by kernel_rfl) (aq ⟨fun _ _=>rfl,fun _ _=>rfl,fun _ _=>rfl,fun _ _=>rfl,fun _ _=>rfl,fun _ _=>rfl,fun _ _=>rfl,fun _ _=>rfl,fun _ _=>rfl,fun _ _=>rfl,fun _ _=>rfl,fun _ _=>rfl,fun _ _=>rfl,fun _ _=>rfl,fun _ _=>rfl,fun _ _=>rfl,fun _ _=>rfl,fun _ _=>rfl,trivial⟩) (aq (be _ 0 (by kernel_rfl))) (dG.get _ ⟨gEq _,(gLv _),gEq _,gEq _,gEq _,gEq _,gEq _,gEq _,gEq _,gEq _,gEq _,gEq _,gEq _,(fun _ _ _ h _=>h),gEq _,gEq _,gEq _,gEq _,trivial⟩) (aq ⟨?_,?_,?_,?_,?_,?_,?_,?_,?_,?_,?_,?_,?_,?_,?_,?_,?_,?_,trivial⟩) ?_;intro b t hb hd K u;have m:=trivial;have r:=trivial;have E:=trivial;rotate_left
 ·intro b t hb hd K u
  have ao:b 0=_:=hd ⟨0,.data⟩ (by simp) rfl;(try dsimp only [frv]);(try simp only [ao]);go_simp;go_at_call 17;refine (kB (fun x=>x=xe) w4.heap.size t M _ (F.out.blw hb) (mg S.out (Nat.zero_le _))).mono ?_;rintro T wr ⟨A9,n9,c9,C9,p9,d9,D9,q9,f9,rfl,J,o⟩;have f:=u.out _ _ ⟨A9,n9,c9,C9,p9,d9,D9,q9,f9,rfl,J⟩ o;dsimp only [frv] at f;simp only [ao] at f;exact f
 intro b t hb hd K u;obtain ⟨c0,c1,c2,c3⟩:=(XL.out.below hb XL.out.lt).c4;have m:=trivial;have r:=trivial;have E:=trivial;rotate_left
 ·intro b t hb hd K u
  have an:b 2=_:=hd ⟨2,.data⟩ (by simp) rfl;obtain ⟨A9,n9,c9,C9,p9,d9,D9,q9,f9,T,J⟩:VLv (reG g 0).now (b 1) t:=hd ⟨1,.data⟩ (by simp) rfl;(try dsimp only [frv]);(try simp only [an,T]);go_simp;obtain ⟨c7,c5,db⟩:=J.len;have hv:=mg S.out (Nat.zero_le _);have nb:=hv.nb;have nj:=hv.nj;have nd:=hv.nd;go_at_call 16;refine (kD t A9 n9 c9 C9 p9 d9 D9 q9 f9 _ (J.out.upto (by decide)) A n c C p d D q e L ((b2.out.belw hb).upto (by decide)) hv.np (by omega) (by omega) (by omega) true (by simp [(tb S.out).1])).mono ?_;rintro T wr ⟨rfl,o⟩;have f:=u.out _ _ rfl o;dsimp only [frv] at f;simp only [an,T] at f;exact f
 intro b t hb hd K u;have m:b 3=_:=hd ⟨3,.data⟩ (by simp) rfl;have r:=trivial;have E:=trivial;rotate_left;intro b t hb hd K u;have m:b 4=_:=hd ⟨4,.data⟩ (by simp) rfl;have r:=trivial;have E:=trivial;rotate_left;intro b t hb hd K u;have m:b 5=_:=hd ⟨5,.guard⟩ (by simp) rfl;have r:=trivial;have E:=trivial;rotate_left
 ·intro b t hb hd K u
  have aS:b 6=_:=hd ⟨6,.data⟩ (by simp) rfl;have V:b 5=_:=hd ⟨5,.guard⟩ (by simp) rfl;(try dsimp only [frv]);(try simp only [aS,V]);go_simp;go_at_call 21;refine (ni (fun x=>x=xe) w4.heap.size t M _ (F.out.blw hb) (tb S.out).2 g).mono ?_;rintro T wr ⟨rfl,o,_⟩;have o:=o (by decide);rw [eVp (show (11:Int)≠0 by decide)];have f:=u.out _ _ rfl o;dsimp only [frv] at f;simp only [aS,V] at f;exact f
 ·intro b t hb hd K u
  have cy:b 7=_:=hd ⟨7,.data⟩ (by simp) rfl;have V:b 5=_:=hd ⟨5,.guard⟩ (by simp) rfl;(try dsimp only [frv]);(try simp only [cy,V]);go_simp;go_at_call 18;refine (FQ t 11).mono ?_;rintro T wr ⟨rfl,o⟩;have f:=u.out _ _ rfl o;dsimp only [frv] at f;simp only [cy,V] at f;exact f
 intro b t hb hd K u;have m:b 8=_:=hd ⟨8,.data⟩ (by simp) rfl;have r:b 5=_:=hd ⟨5,.guard⟩ (by simp) rfl;have E:=trivial;rotate_left;intro b t hb hd K u;have m:b 5=_:=hd ⟨5,.data⟩ (by simp) rfl;have r:b 9=_:=hd ⟨9,.data⟩ (by simp) rfl;have E:=trivial;rotate_left;intro b t hb hd K u;have m:b 10=_:=hd ⟨10,.data⟩ (by simp) rfl;have r:=trivial;have E:=trivial;rotate_left;intro b t hb hd K u;have m:b 11=_:=hd ⟨11,.guard⟩ (by simp) rfl;have r:=trivial;have E:=trivial;rotate_left
 ·intro b t hb hd K u
  have bn:b 12=_:=hd ⟨12,.data⟩ (by simp) rfl;have P:b 11=_:=hd ⟨11,.guard⟩ (by simp) rfl;(try dsimp only [frv]);(try simp only [bn,P]);go_simp;go_at_call 22;have di:=(qX S.out (Nat.zero_le _)).1;refine (p_undone (fun x=>x=xe) w4.heap.size t M _ (F.out.blw hb) (by omega)).mono ?_;rintro T wr ⟨A9,c9,rfl,_,o⟩;rw [di,Nat.sub_zero];have f:=u.out _ _ ⟨A9,c9,rfl⟩ o;dsimp only [frv] at f;simp only [bn,P] at f;exact f
 ·intro b t hb hd K u
  have P:b 11=_:=hd ⟨11,.guard⟩ (by simp) rfl;obtain ⟨A9,c9,T⟩:∃ A c,b 13=.slice A g.done.length c:=hd ⟨13,.data⟩ (by simp) rfl;(try dsimp only [frv]);(try simp only [P,T]);go_simp;have f:=u.out _ _ rfl (ae _);dsimp only [frv] at f;simp only [P,T] at f;exact f
 intro b t hb hd K u;have m:b 11=_:=hd ⟨11,.guard⟩ (by simp) rfl;have r:=trivial;have E:=trivial;rotate_left;intro b t hb hd K u;have m:b 14=_:=hd ⟨14,.data⟩ (by simp) rfl;have r:b 15=_:=hd ⟨15,.data⟩ (by simp) rfl;have E:b 11=_:=hd ⟨11,.guard⟩ (by simp) rfl;rotate_left;intro b t hb hd K u;have m:b 11=_:=hd ⟨11,.data⟩ (by simp) rfl;have r:b 16=_:=hd ⟨16,.data⟩ (by simp) rfl;have E:=trivial;rotate_left
 ·intro b t hb X
  have bl:b 17=.bool false:=X 17 (by decide);have b4:=Qh (F.out.blw hb);have cx:=Qh (U.out.below hb U.out.lt);have b6:=Qh (ad.out.blw hb);have b3:=qj.trans (hb.mono qj.size);clear X F U ad XL b2 qj;dsimp only [frv];simp only [bl];generalize b 0=z0;generalize b 1=z1;generalize b 2=z2;generalize b 3=z3;generalize b 4=z4;generalize b 5=z5;generalize b 6=z6;generalize b 7=z7;generalize b 8=z8;generalize b 9=z9;generalize b 10=z10;generalize b 11=z11;generalize b 12=z12;generalize b 13=z13;generalize b 14=z14;generalize b 15=z15;generalize b 16=z16;clear bl hb;go_wp2_with fail;go_loopw [13] (fun Y wr=>∃ j:Nat,Y=.int .i64 (j:Nat)/\j<=g.done.length/\Hid (cT (fun x=>x=xe) w4.heap.size wr M (reG g (j)))/\Hid (Blk wr xe 26 #[aa g.now.name,.slice A1 n1 c1,.slice C1 p1 d1,.slice D1 q1 f1])/\Hid (LkY 130 wr A1 n1 c1 C1 p1 d1 D1 q1 f1 g.now)/\Below w4.heap.size w4 wr) (fun Y _=>g.done.length-(intOf Y).toNat)
  case atStart=>exact ⟨0,rfl,Nat.zero_le _,b4,cx,b6,b3⟩
  case round =>
   clear b4 cx b6 b3;obtain ⟨j,rfl,hj,F,U,ad,qj⟩:=hrel;rename World=>wj;rcases Nat.lt_or_ge j g.done.length with ac | bz
   ·have Z:((j:Int)<(g.done.length:Int))=True:=by simp;omega
    have qw:=q4.trans (qj.mono q4.size);obtain ⟨ed,hm,he,hA,a6⟩:=Bi S.out ac;obtain ⟨bY,c8⟩:=qX S.out hj;have B:=qL (fun x=>x=xe) w4.heap.size wj M _ F.out (g.done.length-j-1) hm ed he 0 _ hA (by omega) (by omega) (I.out.belw qw) (HM.out.belw qw);rw [a6] at B;have z:=Qh B;clear hm he hA a6 bY c8 qw B;go_wp2_with fail;refine z.out.mono ?_;rintro e' wb ⟨rfl,_,N⟩;obtain ⟨X,hl⟩:=N rfl;have bv:=Qh hl;have br:=Qh ((X.kp xe rfl).trans U.out);have bu:=Qh (ad.out.lg X);have q6:=qj.trans X.bel;rw [aO];clear N X hl z;go_wp2_with fail;go_roundw
    case rel=>exact ⟨j+1,by go_num,by omega,bv,br,bu,q6⟩
    case measure=>simp [intOf];omega
   have Z:((j:Int)<(g.done.length:Int))=False:=by simp;omega
   obtain rfl:j=g.done.length:=by omega
   go_wp2_with fail;change Code.wp _ _ _ (frw _ _ _ _ _ _ _ _ _ _ _ _ _ _ _ _ _ _ _ _ _ _ _ _ _ _ _ _ _ _ _ _ _ _ _ _ _ _ _ _ _ _ _ _ _ _ _ _ _ _ _ _ _ _ _ _ _ _ _ _ _ _ _ _ _ _ _ _ _ _ _ _ _ _ _ _ _ _ _ _ _ _ _ _ _ _ _ _ _ _ _ _ _ _ _ _ _ _ _ _ _ _ _ _ _ _ _ _ _ _ _ _ _ _ _ (fun ri=>List.getD (_::_::_::_::_::_::_::_::_::_::[]) ri undef)) _;refine cJ (x0:=_) (R:=fun ri=>List.getD ((PEq (.pointer (some ⟨M,0,none⟩)))::(VLv (reG g g.done.length).now)::(PEq (.agg #[aa g.now.name,.slice A1 n1 c1,.slice C1 p1 d1,.slice D1 q1 f1]))::(PEq (.bool true))::(PEq (.bool true))::(PEq (.pointer (some ⟨M,0,none⟩)))::(PEq (.iface 58 (.int .i64 11)))::(PEq (.bool true))::(PEq (.bool true))::(PEq (.bool true))::[]) ri (fun _ _=>True)) (by kernel_rfl) (aq ⟨fun _ _=>rfl,fun _ _=>rfl,fun _ _=>rfl,fun _ _=>rfl,fun _ _=>rfl,fun _ _=>rfl,fun _ _=>rfl,fun _ _=>rfl,fun _ _=>rfl,fun _ _=>rfl,trivial⟩) (aq (be _ 0 (by kernel_rfl))) (dG.get _ ⟨gEq _,(gLv _),gEq _,gEq _,gEq _,gEq _,gEq _,gEq _,gEq _,gEq _,trivial⟩) (aq ⟨?_,?_,?_,?_,?_,?_,?_,?_,?_,?_,trivial⟩) ?_;intro b t hb hd K u;have m:=trivial;have r:=trivial;rotate_left
   ·intro b t hb hd K u
    have ao:b 0=_:=hd ⟨0,.data⟩ (by simp) rfl;(try dsimp only [frw]);(try simp only [ao]);go_simp;go_at_call 17;refine (kB (fun x=>x=xe) w4.heap.size t M _ (F.out.blw hb) (mg S.out Qr)).mono ?_;rintro T wr ⟨A9,n9,c9,C9,p9,d9,D9,q9,f9,rfl,J,o⟩;have f:=u.out _ _ ⟨A9,n9,c9,C9,p9,d9,D9,q9,f9,rfl,J⟩ o;dsimp only [frw] at f;simp only [ao] at f;exact f
   intro b t hb hd K u;obtain ⟨c0,c1,c2,c3⟩:=(U.out.below hb U.out.lt).c4;have m:=trivial;have r:=trivial;rotate_left
   ·intro b t hb hd K u
    have an:b 2=_:=hd ⟨2,.data⟩ (by simp) rfl;obtain ⟨A9,n9,c9,C9,p9,d9,D9,q9,f9,T,J⟩:VLv (reG g g.done.length).now (b 1) t:=hd ⟨1,.data⟩ (by simp) rfl;(try dsimp only [frw]);(try simp only [an,T]);go_simp;obtain ⟨c7,c5,db⟩:=J.len;have hv:=mg S.out Qr;have nb:=hv.nb;have nj:=hv.nj;have nd:=hv.nd;go_at_call 16;refine (kD t A9 n9 c9 C9 p9 d9 D9 q9 f9 _ (J.out.upto (by decide)) A1 n1 c1 C1 p1 d1 D1 q1 f1 g.now ((ad.out.blw hb).out.upto (by decide)) hv.np (by omega) (by omega) (by omega) true (by simp [qW S.out HU.out])).mono ?_;rintro T wr ⟨rfl,o⟩;have f:=u.out _ _ rfl o;dsimp only [frw] at f;simp only [an,T] at f;exact f
   intro b t hb hd K u;have m:b 3=_:=hd ⟨3,.data⟩ (by simp) rfl;have r:=trivial;rotate_left;intro b t hb hd K u;have m:b 4=_:=hd ⟨4,.guard⟩ (by simp) rfl;have r:=trivial;rotate_left
   ·intro b t hb hd K u
    have V:b 5=_:=hd ⟨5,.data⟩ (by simp) rfl;have a7:b 4=_:=hd ⟨4,.guard⟩ (by simp) rfl;(try dsimp only [frw]);(try simp only [V,a7]);go_simp;go_at_call 23;refine (nq (fun x=>x=xe) w4.heap.size t M _ (F.out.blw hb) (by rw [qW S.out HU.out];exact HU.out) g).mono ?_;rintro T wr ⟨rfl,o,_⟩;have o:=o (by decide);rw [eVp (show (11:Int)≠0 by decide)];have f:=u.out _ _ rfl o;dsimp only [frw] at f;simp only [V,a7] at f;exact f
   ·intro b t hb hd K u
    have aS:b 6=_:=hd ⟨6,.data⟩ (by simp) rfl;have a7:b 4=_:=hd ⟨4,.guard⟩ (by simp) rfl;(try dsimp only [frw]);(try simp only [aS,a7]);go_simp;go_at_call 18;refine (FQ t 11).mono ?_;rintro T wr ⟨rfl,o⟩;have f:=u.out _ _ rfl o;dsimp only [frw] at f;simp only [aS,a7] at f;exact f
   intro b t hb hd K u;have m:b 4=_:=hd ⟨4,.data⟩ (by simp) rfl;have r:b 7=_:=hd ⟨7,.data⟩ (by simp) rfl;rotate_left;intro b t hb hd K u;have m:b 8=_:=hd ⟨8,.data⟩ (by simp) rfl;have r:=trivial;rotate_left
   ·intro b t hb X
    have dn:b 9=.bool true:=X 9 (by decide);have dr:=q4.trans ((qj.trans (hb.mono qj.size)).mono q4.size);dsimp only [frw];simp only [dn];go_wp2;go_ret;exact ⟨rfl,dr⟩
   all_goals
    (try dsimp only [frw]);(try simp only [m,r]);go_simp;have f:=u.out _ _ rfl (ae _);dsimp only [frw] at f;(try simp only [m,r] at f);exact f
 all_goals
  (try dsimp only [frv]);(try simp only [m,r,E]);go_simp;have f:=u.out _ _ rfl (ae _);dsimp only [frv] at f;(try simp only [m,r,E] at f);exact f
end Go.Proofs.YtndhgcfajlalhaaGreatDoor
