/- Part EN5: lemmas and walks that the claim rests on. No claim is made here. -/
import Derived.Deep.RegionHeld3
import Derived.BigQuiet
import Derived.Lib.SliceRun
import Derived.Test.YtndhgcfajlalhaaGreatDoorEN4
set_option linter.unusedVariables false
set_option maxHeartbeats 8000000
set_option maxRecDepth 100000
/- Walks: the reader: item. -/
namespace Go.Proofs.YtndhgcfajlalhaaGreatDoor
open Go Go.RowKit Bn
attribute [local go_sem ↓] Go.wp_at_zero Go.wp_at_succ
structure RdL (B:Nat) (w:World) (gr:Nat) (s:PS) (A:Option Addr) (n c:Nat) (A':Option Addr) (n' c':Nat) (A'':Option Addr) (n'' c'':Nat):Prop where
  rd:RdP B w gr (ae s.L.name) (.slice A n c) (.slice A' n' c') (.slice A'' n'' c'') s
  bd:ay 51 (BdC 130) 2 w B (.slice A n c) n s.L.bodies
  jt:ay 81 JtC 7 w B (.slice A' n' c') n' s.L.joints
  dr:ay 86 DrC 2 w B (.slice A'' n'' c'') n'' s.L.drivers
  nm:NmL s.L.name
  cnt:n+n'+n''+s.toks.length≤70000
  pts:∀ b∈s.L.bodies,b.pts.length≤70000
def mo (B:Nat) (w:World) (gr:Nat) (s:PS) (e:Ending) (w':World):Prop:=e=.returned (.tuple #[])∧(∃ A n c A' n' c' A'' n'' c'',RdL B w' gr s A n c A' n' c' A'' n'' c'')∧Below B w w'
section
variable {B:Nat}{w w':World}{gr:Nat}{c1 c2 c3 c4:Value}{s:PS}
theorem RdP.other {T:TypeId→Bool}(h:RdP B w gr c1 c2 c3 c4 s) (ht:Tch T w w') (hT:T 118=false) (hb:Below B w w'):RdP B w' gr c1 c2 c3 c4 s:=by
 obtain ⟨A,n,c,h1,h2⟩:=h.blk;exact ⟨⟨A,n,c,ht.2 gr _ _ _ h1 (.inl hT),h2.belB hb⟩,h.mx.belB hb,h.hB,h.len,h.txt,h.hw⟩
theorem RdP.put2 (h:RdP B w gr c1 c2 c3 c4 s) (v:Value) (hv:noW v=true) {s2:PS}(e1:s2.toks=s.toks) (e2:s2.x=s.x):RdP B (w.setCell ⟨gr,2,none⟩ v) gr c1 v c3 c4 s2:=by
 obtain ⟨A,n,c,h1,h2⟩:=h.blk;have hb:Below B w (w.setCell ⟨gr,2,none⟩ v):=(Below.refl B w).setCell (p:=⟨gr,2,none⟩) h.hB v;exact ⟨⟨A,n,c,by rw [e2];exact h1.s62 v,by rw [e1];exact h2.belB hb⟩,h.mx.belB hb,h.hB,by rw [e1];exact h.len,by rw [e1];exact h.txt,h.hw.1,hv,h.hw.2.2⟩
theorem RdP.put3 (h:RdP B w gr c1 c2 c3 c4 s) (v:Value) (hv:noW v=true) {s2:PS}(e1:s2.toks=s.toks) (e2:s2.x=s.x):RdP B (w.setCell ⟨gr,3,none⟩ v) gr c1 c2 v c4 s2:=by
 obtain ⟨A,n,c,h1,h2⟩:=h.blk;have hb:Below B w (w.setCell ⟨gr,3,none⟩ v):=(Below.refl B w).setCell (p:=⟨gr,3,none⟩) h.hB v;exact ⟨⟨A,n,c,by rw [e2];exact h1.s63 v,by rw [e1];exact h2.belB hb⟩,h.mx.belB hb,h.hB,by rw [e1];exact h.len,by rw [e1];exact h.txt,h.hw.1,h.hw.2.1,hv,h.hw.2.2.2⟩
theorem RdP.put4 (h:RdP B w gr c1 c2 c3 c4 s) (v:Value) (hv:noW v=true) {s2:PS}(e1:s2.toks=s.toks) (e2:s2.x=s.x):RdP B (w.setCell ⟨gr,4,none⟩ v) gr c1 c2 c3 v s2:=by
 obtain ⟨A,n,c,h1,h2⟩:=h.blk;have hb:Below B w (w.setCell ⟨gr,4,none⟩ v):=(Below.refl B w).setCell (p:=⟨gr,4,none⟩) h.hB v;exact ⟨⟨A,n,c,by rw [e2];exact h1.s64 v,by rw [e1];exact h2.belB hb⟩,h.mx.belB hb,h.hB,by rw [e1];exact h.len,by rw [e1];exact h.txt,h.hw.1,h.hw.2.1,h.hw.2.2.1,hv⟩
theorem RdP.put1 (h:RdP B w gr c1 c2 c3 c4 s) (v:Value) (hv:noW v=true) {s2:PS}(e1:s2.toks=s.toks) (e2:s2.x=s.x):RdP B (w.setCell ⟨gr,1,none⟩ v) gr v c2 c3 c4 s2:=by
 obtain ⟨A,n,c,h1,h2⟩:=h.blk;have hb:Below B w (w.setCell ⟨gr,1,none⟩ v):=(Below.refl B w).setCell (p:=⟨gr,1,none⟩) h.hB v;exact ⟨⟨A,n,c,by rw [e2];exact h1.s61 v,by rw [e1];exact h2.belB hb⟩,h.mx.belB hb,h.hB,by rw [e1];exact h.len,by rw [e1];exact h.txt,hv,h.hw.2⟩
theorem RdP.drew (h:RdP B w gr c1 c2 c3 c4 s):RdP B w.drew gr c1 c2 c3 c4 s:=⟨h.blk,h.mx,h.hB,h.len,h.txt,h.hw⟩
theorem RdP.cells (h:RdP B w gr c1 c2 c3 c4 s):w.cell? ⟨gr,1,none⟩=some c1∧w.cell? ⟨gr,2,none⟩=some c2∧w.cell? ⟨gr,3,none⟩=some c3∧w.cell? ⟨gr,4,none⟩=some c4∧w.frozen? ⟨gr,1,none⟩=false∧w.frozen? ⟨gr,2,none⟩=false∧w.frozen? ⟨gr,3,none⟩=false∧w.frozen? ⟨gr,4,none⟩=false:=by
 obtain ⟨A,n,c,hb,_⟩:=h.blk;obtain ⟨_,a1,a2,a3,a4,_⟩:=hb.c6;exact ⟨a1,a2,a3,a4,hb.frozen 1,hb.frozen 2,hb.frozen 3,hb.frozen 4⟩
def bQ (t:TypeId):TypeId→Bool:=fun u=>u == t
theorem RdP.tchR (h:RdP B w gr c1 c2 c3 c4 s) (k:w.grownBy w' (some gr)):Tch (bQ 118) w w':=h.tch k (by simp [bQ])
end
theorem jm {α:Type}{T0:TypeId}{Pc:World→List Value→α→Prop}{sz B n:Nat}{w w5:World}{v v5:Value}{l:List α}{xs cs:List Value}{a:α}{o:Obj}(hl:l.length=n) (hown:OwJ noW w B T0 sz v n xs) (hrow:cl Pc sz w l xs)
 (hm:Pc w cs a) (hcs:cs.length=sz) (hown5:OwJ noW w5 B T0 sz v5 (n+1) (xs ++ cs)) (hgrow:(w.alloc o).grownBy w5 v.ownBlock) (hB:B≤w.heap.size) (hPc:∀ w' cs a,Tch (bQ T0) w w'→Pc w cs a→Pc w' cs a) :
 ay T0 Pc sz w5 B v5 (n+1) (l ++ [a])∧Tch (bQ T0) w w5∧Below B w w5:=by
 have hownA:OwJ noW (w.alloc o) B T0 sz v n xs:=hown.belw ((Below.refl _ _).alloc Qr o);have ht:Tch (bQ T0) w w5:=(Tch.below ((Below.refl _ _).alloc Qr o)).trans (Tch.grown (fun _ hu=>hu) (by simp [bQ]) hownA hgrow);exact ⟨⟨by simp [hl],xs ++ cs,hown5,(hrow.map_ fun cs a x=>hPc _ _ _ ht x).snoc (hPc _ _ _ ht hm) hcs⟩,ht,((Below.refl B w).alloc hB o).grown hgrow (by simp;omega) (fun k hk=>(hown.at_ hk).1)⟩
def yZ (B gr:Nat) (w:World) (c1 c2 c3 c4:Value) (s:PS) (b:aj) (v:Value) (wq:World):Prop :=
  ∃ A n c,v=.agg #[ae b.name,.slice A n c]∧lA 130 wq A n c b.pts∧NmL b.name∧RdP B wq gr c1 c2 c3 c4 s∧w.grownBy wq (some gr)
def TB (B gr:Nat) (w:World) (c1 c2 c3 c4:Value) (s:PS) (b:aj) (n:Nat) (l:List aj):Nat→Value→Value→Value→World→Prop
  | 0,_,_,_,wq=>wq=w.drew
  | 1,v7,_,_,wq=>yZ B gr w c1 c2 c3 c4 s b v7 wq
  | 2,_,v8,_,wq=>∃ w2 A n' c',yZ B gr w c1 c2 c3 c4 s b (.agg #[ae b.name,.slice A n' c']) w2∧v8=.slice (some ⟨w2.heap.size,0,none⟩) 1 1∧wq=w2.alloc (.cells #[ae b.name,.slice A n' c'] 51)
  | 3,_,_,v9,wq=>∃ w2 v A5 c5,yZ B gr w c1 c2 c3 c4 s b v w2∧v9=.slice A5 (n+1) c5∧ay 51 (BdC 130) 2 wq B v9 (n+1) (l ++ [b])∧Tch (bQ 51) w2 wq∧Below B w2 wq
  | _,_,_,_,_=>False
theorem TB.rd {B gr:Nat}{w:World}{c1 c2 c3 c4:Value}{s0 s:PS}{b:aj}{n:Nat}{l:List aj}(h0:RdP B w gr c1 c2 c3 c4 s0):∀ {k:Nat}{v7 v8 v9:Value}{wq:World},TB B gr w c1 c2 c3 c4 s b n l k v7 v8 v9 wq→∃ s',RdP B wq gr c1 c2 c3 c4 s'
 | 0,_,_,_,_,h=>by
  have h:_=_:=h;rw [h];exact ⟨s0,⟨h0.blk,h0.mx,h0.hB,h0.len,h0.txt,h0.hw⟩⟩
 | 1,_,_,_,_,⟨_,_,_,_,_,_,h,_⟩=>⟨s,h⟩
 | 2,_,_,_,_,⟨w2,_,_,_,⟨_,_,_,_,_,_,h,_⟩,_,e⟩=>⟨s,by rw [e];exact h.alloc _⟩
 | 3,_,_,_,_,⟨w2,_,_,_,⟨_,_,_,_,_,_,h,_⟩,_,_,ht,hb⟩=>⟨s,h.other ht (by decide) hb⟩
 | _+4,_,_,_,_,h=>False.elim h
def TJ_ {α:Type}(T0:TypeId) (Pc:World→List Value→α→Prop) (sz:Nat) (B gj:Nat) (w:World) (cs:List Value) (a:α) (n:Nat) (l:List α):Nat→Value→Value→World→Prop
  | 0,_,_,wq=>wq=w.drew
  | 1,v7,_,wq=>v7=.slice (some ⟨w.heap.size,0,none⟩) 1 1∧wq=w.drew.alloc (.cells cs.toArray T0)
  | 2,_,v8,wq=>∃ A5 c5,v8=.slice A5 (n+1) c5∧ay T0 Pc sz wq B v8 (n+1) (l ++ [a])∧Blk wq gj T0 cs.toArray∧Tch (bQ T0) w wq∧Below B w wq
  | _,_,_,_=>False
theorem TJ_.rd {α:Type}{T0:TypeId}{Pc:World→List Value→α→Prop}{sz B gj gr n:Nat}{w:World}{cs:List Value}{a:α}{l:List α}{c1 c2 c3 c4:Value}{s:PS}(hT:bQ T0 118=false) (h0:RdP B w gr c1 c2 c3 c4 s):∀ {k:Nat}{v7 v8:Value}{wq:World},TJ_ T0 Pc sz B gj w cs a n l k v7 v8 wq→RdP B wq gr c1 c2 c3 c4 s
 | 0,_,_,_,h=>by
  have h:_=_:=h;rw [h];exact ⟨h0.blk,h0.mx,h0.hB,h0.len,h0.txt,h0.hw⟩
 | 1,_,_,_,⟨_,e⟩=>by
  rw [e];exact h0.drew.alloc _
 | 2,_,_,_,⟨_,_,_,_,_,ht,hb⟩=>h0.other ht hT hb
 | _+3,_,_,_,h=>False.elim h
theorem TJ_.blk {α:Type}{T0:TypeId}{Pc:World→List Value→α→Prop}{sz B gj n:Nat}{w:World}{cs:List Value}{a:α}{l:List α}(hb:Blk w gj T0 cs.toArray):∀ {k:Nat}{v7 v8:Value}{wq:World},TJ_ T0 Pc sz B gj w cs a n l k v7 v8 wq→Blk wq gj T0 cs.toArray
 | 0,_,_,_,h=>by
  have h:_=_:=h;rw [h];exact hb.drew
 | 1,_,_,_,⟨_,e⟩=>by rw [e];exact hb.drew.alloc _
 | 2,_,_,_,⟨_,_,_,_,h,_⟩=>h
 | _+3,_,_,_,h=>False.elim h
abbrev fr4 (u0 u1 u2 u3 u4 u5 u6 u7 u8 u9 u10 u11 u12 u26 u27 u28 u29 u30 u31 u32 u33 u34 u35 u36 u37 u38 u39 u40 u41 u42 u43 u44 u45 u46 u47 u48 u49 u50 u51 u52 u53 u54 u55 u56 u57 u58 u59 u60 u61 u62 u63 u64 u65 u66 u67 u68 u69 u70 u71 u72 u73 u74 u75 u76 u77 u78 u79 u80 u81 u82 u83 u84 u85 u86 u87 u88 u89 u90 u91 u92:Value) (xf:Nat→Value):Act:=⟨List.toArray (u0 :: u1 :: u2 :: u3 :: u4 :: u5 :: u6 :: u7 :: u8 :: u9 :: u10 :: u11 :: u12 :: xf 0 :: xf 1 :: xf 2 :: xf 3 :: xf 4 :: xf 5 :: xf 6 :: xf 7 :: xf 8 :: xf 9 :: xf 10 :: xf 11 :: xf 12 :: u26 :: u27 :: u28 :: u29 :: u30 :: u31 :: u32 :: u33 :: u34 :: u35 :: u36 :: u37 :: u38 :: u39 :: u40 :: u41 :: u42 :: u43 :: u44 :: u45 :: u46 :: u47 :: u48 :: u49 :: u50 :: u51 :: u52 :: u53 :: u54 :: u55 :: u56 :: u57 :: u58 :: u59 :: u60 :: u61 :: u62 :: u63 :: u64 :: u65 :: u66 :: u67 :: u68 :: u69 :: u70 :: u71 :: u72 :: u73 :: u74 :: u75 :: u76 :: u77 :: u78 :: u79 :: u80 :: u81 :: u82 :: u83 :: u84 :: u85 :: u86 :: u87 :: u88 :: u89 :: u90 :: u91 :: u92 :: []),[]⟩
abbrev bR (u0 u1 u2 u3 u4 u5 u6 u7 u8 u9 u10 u11 u12 u13 u14 u15 u16 u17 u18 u19 u20 u21 u22 u23 u24 u25 u26 u27 u28 u29 u30 u31 u32 u33 u34 u35 u36 u37 u38 u39 u40 u41 u42 u43 u44 u45 u46 u47 u48 u49 u50 u51 u52 u53 u54 u55 u56 u57 u58 u71 u72 u73 u74 u75 u76 u77 u78 u79 u80 u81 u82 u83 u84 u85 u86 u87 u88 u89 u90 u91 u92:Value) (xf:Nat→Value):Act:=⟨List.toArray (u0 :: u1 :: u2 :: u3 :: u4 :: u5 :: u6 :: u7 :: u8 :: u9 :: u10 :: u11 :: u12 :: u13 :: u14 :: u15 :: u16 :: u17 :: u18 :: u19 :: u20 :: u21 :: u22 :: u23 :: u24 :: u25 :: u26 :: u27 :: u28 :: u29 :: u30 :: u31 :: u32 :: u33 :: u34 :: u35 :: u36 :: u37 :: u38 :: u39 :: u40 :: u41 :: u42 :: u43 :: u44 :: u45 :: u46 :: u47 :: u48 :: u49 :: u50 :: u51 :: u52 :: u53 :: u54 :: u55 :: u56 :: u57 :: u58 :: xf 0 :: xf 1 :: xf 2 :: xf 3 :: xf 4 :: xf 5 :: xf 6 :: xf 7 :: xf 8 :: xf 9 :: xf 10 :: xf 11 :: u71 :: u72 :: u73 :: u74 :: u75 :: u76 :: u77 :: u78 :: u79 :: u80 :: u81 :: u82 :: u83 :: u84 :: u85 :: u86 :: u87 :: u88 :: u89 :: u90 :: u91 :: u92 :: []),[]⟩
abbrev eN (u0 u1 u2 u3 u4 u5 u6 u7 u8 u9 u10 u11 u12 u13 u14 u15 u16 u17 u18 u19 u20 u21 u22 u23 u24 u25 u26 u27 u28 u29 u30 u31 u32 u33 u34 u35 u36 u37 u38 u39 u40 u41 u42 u43 u44 u45 u46 u47 u48 u49 u50 u51 u52 u53 u54 u55 u56 u57 u58 u59 u60 u61 u62 u63 u64 u65 u66 u67 u68 u69 u70 u71 u72 u73 u74 u75 u76 u77 u78 u79 u80:Value) (xf:Nat→Value):Act:=⟨List.toArray (u0 :: u1 :: u2 :: u3 :: u4 :: u5 :: u6 :: u7 :: u8 :: u9 :: u10 :: u11 :: u12 :: u13 :: u14 :: u15 :: u16 :: u17 :: u18 :: u19 :: u20 :: u21 :: u22 :: u23 :: u24 :: u25 :: u26 :: u27 :: u28 :: u29 :: u30 :: u31 :: u32 :: u33 :: u34 :: u35 :: u36 :: u37 :: u38 :: u39 :: u40 :: u41 :: u42 :: u43 :: u44 :: u45 :: u46 :: u47 :: u48 :: u49 :: u50 :: u51 :: u52 :: u53 :: u54 :: u55 :: u56 :: u57 :: u58 :: u59 :: u60 :: u61 :: u62 :: u63 :: u64 :: u65 :: u66 :: u67 :: u68 :: u69 :: u70 :: u71 :: u72 :: u73 :: u74 :: u75 :: u76 :: u77 :: u78 :: u79 :: u80 :: xf 0 :: xf 1 :: xf 2 :: xf 3 :: xf 4 :: xf 5 :: xf 6 :: xf 7 :: xf 8 :: xf 9 :: xf 10 :: xf 11 :: []),[]⟩
theorem qp {α:Type}{T0:TypeId}{Pc:World→List Value→α→Prop}{sz base n g:Nat}{w:World}{v:Value}{l:List α}(h:ay T0 Pc sz w base v n l) (hg:w.heap.size≤g):some g≠v.ownBlock:=by
 intro e;obtain ⟨_,xs,hown,_⟩:=h;obtain ⟨_,cur,h2,_⟩:=hown.at_ e.symm;have:=lt_of_block h2;omega
theorem dB {B g:Nat}(w:World) (hB:B≤g) (i j:Nat) (u0 u1:Value):Below B w ((w.setCell ⟨g,i,none⟩ u0).setCell ⟨g,j,none⟩ u1) :=
 ((Below.refl B w).setCell (p:=⟨g,i,none⟩) hB u0).setCell (p:=⟨g,j,none⟩) hB u1
theorem mZ (B:Nat) (w:World) (gr:Nat) (s:PS) (A:Option Addr) (n c:Nat) (A':Option Addr) (n' c':Nat) (A'':Option Addr) (n'' c'':Nat) (h:RdL B w gr s A n c A' n' c' A'' n'' c'') (hw1:s.word.1=kP):Calls Tryz.prog 73 #[.pointer (some ⟨gr,0,none⟩)] w (mo B w gr s.item):=by
 have HW1:=Qh hw1;have hb0:(s.word.1 == [98,111,100,121])=true:=by rw [hw1];decide
 clear hw1;obtain ⟨i0,hi0,hz0,hz1,hz2⟩:=info_parts gN;obtain ⟨ij,hj0,hj1,hj2,hj3⟩:=info_parts gP;obtain ⟨id,hd0,hd1,hd2,hd3⟩:=info_parts gQ;have HI:=Qh (And.intro hi0 (And.intro hz0 (And.intro hz1 hz2)));have HIJ:=Qh (And.intro hj0 (And.intro hj1 (And.intro hj2 hj3)));have HID:=Qh (And.intro hd0 (And.intro hd1 (And.intro hd2 hd3)));clear hi0 hz0 hz1 hz2 hj0 hj1 hj2 hj3 hd0 hd1 hd2 hd3;have HL1:=Qh (aw s).2.2.2;have HL2:=Qh ((aw s).trans (aw s.word.2)).2.2.2;have HP:=Qh h;obtain ⟨W,hW⟩:∃ W,s.item=W:=⟨_,rfl⟩;rw [hW];have HW:=Qh hW;clear h hW;go_in;go_wp2_with fail;(with_reducible refine (ct B _ gr (ae s.L.name) (.slice A n c) (.slice A' n' c') (.slice A'' n'' c'') s HP.out.rd).mono ?_);rintro e w1 ⟨rfl,h1,hg1⟩;have H1:=Qh h1;have hgl:=h1.lt;have BW1:=Qh (d8 hg1 (B:=B) (by have:=HP.out.rd.lt;have:=HP.out.rd.hB;omega) HP.out.rd.hB);have t0:=HP.out.rd.tchR hg1;have BD1:=Qh (HP.out.bd.tch t0 (by decide) (fun _ _ x=>x.tch t0 (by decide)));have JT1:=Qh (HP.out.jt.tch t0 (by decide) (fun _ _ x=>x));have DR1:=Qh (HP.out.dr.tch t0 (by decide) (fun _ _ x=>x));obtain ⟨Ak,nk,ck,hbk,_⟩:=h1.blk;have HBk:=Qh hbk;clear h1 hg1 t0 hbk;have hn:=aV s.word.1;go_wp2_with fail;change Code.wp _ _ _ (fr4 _ _ _ _ _ _ _ _ _ _ _ _ _ _ _ _ _ _ _ _ _ _ _ _ _ _ _ _ _ _ _ _ _ _ _ _ _ _ _ _ _ _ _ _ _ _ _ _ _ _ _ _ _ _ _ _ _ _ _ _ _ _ _ _ _ _ _ _ _ _ _ _ _ _ _ _ _ _ _ _ (fun _=>undef)) _;refine dq (n:=13) (a:=7) (K:=3) (x0:=fun _=>undef) (R:=fun ri=>List.getD ((VE (.pointer (some ⟨gr,0,none⟩))) :: (VE (.pointer (some ⟨gr,0,none⟩))) :: (VE (.pointer (some ⟨gr,0,none⟩))) :: (VE (.pointer (some ⟨gr,1,none⟩))) :: (VE (.pointer (some ⟨gr,2,none⟩))) :: (VE (.slice A n c)) :: (VE (.pointer (some ⟨gr,0,none⟩))) :: VA :: VA :: VA :: (VE (.pointer (some ⟨gr,0,none⟩))) :: (VE (.pointer (some ⟨gr,1,none⟩))) :: (VE (.pointer (some ⟨gr,2,none⟩))) :: []) ri VA) (T:=fun k x wq=>TB B gr w1 (ae s.L.name) (.slice A n c) (.slice A' n' c') (.slice A'' n'' c'') s.word.2.body.2 s.word.2.body.1 n s.L.bodies k (x 7) (x 8) (x 9) wq) (by kernel_rfl) rfl ?_ ?_ ?_ (by decide) ?_ ?_ rfl ?_ ?_ ?_
 ·exact aH ⟨(fun _ _ _=>rfl),(fun _ _ _=>rfl),(fun _ _ _=>rfl),(fun _ _ _=>rfl),(fun _ _ _=>rfl),(fun _ _ _=>rfl),(fun _ _ _=>rfl),(fun _ _ _=>rfl),(fun _ _ _=>rfl),(fun _ _ _=>rfl),(fun _ _ _=>rfl),(fun _ _ _=>rfl),(fun _ _ _=>rfl),(fun h=>absurd h (by decide)),trivial⟩
 ·exact aH (bT _ 0 (by kernel_rfl))
 ·exact (fun j hj=>jl (by kernel_rfl) hj)
 ·intro j o hj ho
  obtain rfl | rfl:j=0∨j=1:=by omega
  ·injection ho with ho
   subst ho;exact ⟨⟨7,.data⟩,by simp,rfl,rfl⟩
  injection ho with ho;subst ho;exact ⟨⟨8,.data⟩,by simp,rfl,rfl⟩
 ·intro k x i v w hi h
  have e7:upd x i v 7=x 7:=bm _ _ (by omega);have e8:upd x i v 8=x 8:=bm _ _ (by omega);have e9:upd x i v 9=x 9:=bm _ _ (by omega);simp only [e7,e8,e9];exact h
 ·refine aH ⟨?_,?_,?_,?_,?_,?_,?_,(fun _ h=>absurd h (by decide)),(fun _ h=>absurd h (by decide)),(fun _ h=>absurd h (by decide)),?_,?_,?_,(fun h=>absurd h (by decide)),trivial⟩
  ·intro _ _ k xf wq hT hd K hK
   (try dsimp only [fr4]);go_simp;have hz:=hK.out _ rfl;exact hz
  ·intro _ _ k xf wq hT hd K hK
   (try dsimp only [fr4]);go_simp;have hz:=hK.out _ rfl;exact hz
  ·intro _ _ k xf wq hT hd K hK
   have dq1:xf 1=.pointer (some ⟨gr,0,none⟩):=hd ⟨1,.data⟩ (by simp) rfl;(try dsimp only [fr4]);(try simp only [dq1]);go_simp;have hz:=hK.out _ rfl;dsimp only [fr4] at hz;simp only [dq1] at hz;exact hz
  ·intro _ _ k xf wq hT hd K hK
   have dq2:xf 2=.pointer (some ⟨gr,0,none⟩):=hd ⟨2,.data⟩ (by simp) rfl;(try dsimp only [fr4]);(try simp only [dq2]);go_simp;have hz:=hK.out _ rfl;dsimp only [fr4] at hz;simp only [dq2] at hz;exact hz
  ·intro _ _ k xf wq hT hd K hK
   have dq3:xf 3=.pointer (some ⟨gr,1,none⟩):=hd ⟨3,.data⟩ (by simp) rfl;(try dsimp only [fr4]);(try simp only [dq3]);go_simp;have hz:=hK.out _ rfl;dsimp only [fr4] at hz;simp only [dq3] at hz;exact hz
  ·intro _ _ k xf wq hT hd K hK
   have dq4:xf 4=.pointer (some ⟨gr,2,none⟩):=hd ⟨4,.data⟩ (by simp) rfl;obtain ⟨sz,hRz⟩:=TB.rd H1.out hT;obtain ⟨_,hc2,_⟩:=hRz.cells;(try dsimp only [fr4]);(try simp only [dq4]);go_simp;have hz:=hK.out _ rfl;dsimp only [fr4] at hz;simp only [dq4] at hz;exact hz
  ·intro _ _ k xf wq hT hd K hK
   (try dsimp only [fr4]);go_simp;have hz:=hK.out _ rfl;exact hz
  ·intro _ _ k xf wq hT hd K hK
   have dq0:xf 0=.pointer (some ⟨gr,0,none⟩):=hd ⟨0,.data⟩ (by simp) rfl;(try dsimp only [fr4]);(try simp only [dq0]);go_simp;have hz:=hK.out _ rfl;dsimp only [fr4] at hz;simp only [dq0] at hz;exact hz
  ·intro _ _ k xf wq hT hd K hK
   have dq10:xf 10=.pointer (some ⟨gr,0,none⟩):=hd ⟨10,.data⟩ (by simp) rfl;(try dsimp only [fr4]);(try simp only [dq10]);go_simp;have hz:=hK.out _ rfl;dsimp only [fr4] at hz;simp only [dq10] at hz;exact hz
  intro _ _ k xf wq hT hd K hK;have dq11:xf 11=.pointer (some ⟨gr,1,none⟩):=hd ⟨11,.data⟩ (by simp) rfl;(try dsimp only [fr4]);(try simp only [dq11]);go_simp;have hz:=hK.out _ rfl;dsimp only [fr4] at hz;simp only [dq11] at hz;exact hz
 ·intro k o hk ho
  obtain rfl | rfl | rfl:=(show k=0∨k=1∨k=2 by omega)
  ·injection ho with ho
   subst ho;intro xf wq hT hd K hK;have dq6:xf 6=.pointer (some ⟨gr,0,none⟩):=hd ⟨6,.data⟩ (by simp) rfl;have hT:wq=w1.drew:=hT;subst hT;(try dsimp only [fr4]);(try simp only [dq6]);go_simp;go_at_call 106;(with_reducible refine (xE B _ gr (ae s.L.name) (.slice A n c) (.slice A' n' c') (.slice A'' n'' c'') s.word.2 H1.out.drew).mono ?_);rintro e wr ⟨A3,n3,c3,rfl,hm,hnm,hr,hg⟩;have hz:=hK.out _ _ trivial ⟨A3,n3,c3,rfl,hm,hnm,hr,aA (xC (rg_refl gr w1)) hg⟩;dsimp only [fr4] at hz;simp only [dq6] at hz;exact hz
  ·injection ho with ho
   subst ho;intro xf wq hT hd K hK;obtain ⟨A3,n3,c3,e7,hm,hnm,hr,hg⟩:TB B gr w1 (ae s.L.name) (.slice A n c) (.slice A' n' c') (.slice A'' n'' c'') s.word.2.body.2 s.word.2.body.1 n s.L.bodies 1 (xf 7) (xf 8) (xf 9) wq:=hT;(try dsimp only [fr4]);(try simp only [e7]);go_simp;have hz:=hK.out (.slice (some ⟨wq.heap.size,0,none⟩) 1 1) (wq.alloc (.cells #[ae s.word.2.body.1.name,.slice A3 n3 c3] 51)) trivial ⟨wq,A3,n3,c3,⟨A3,n3,c3,rfl,hm,hnm,hr,hg⟩,rfl,rfl⟩;dsimp only [fr4] at hz;simp only [e7] at hz;exact hz
  injection ho with ho;subst ho;intro xf wq hT hd K hK;obtain ⟨w2,A3,n3,c3,⟨A4,n4,c4,e4,hm,hnm,hr,hg⟩,e8,ew⟩:TB B gr w1 (ae s.L.name) (.slice A n c) (.slice A' n' c') (.slice A'' n'' c'') s.word.2.body.2 s.word.2.body.1 n s.L.bodies 2 (xf 7) (xf 8) (xf 9) wq:=hT;subst ew;cases e4;have dq5:xf 5=.slice A n c:=hd ⟨5,.data⟩ (by simp) rfl;obtain ⟨hl,xs,hown,hrow⟩:=BD1.out.rgt HBk.out (by decide) hg (fun _ _ x=>x.tch (H1.out.tchR hg) (by decide));have hlt:=hr.lt;have hBg:=hr.hB;rw [if_pos (show Region.wanted _ _=true from rfl)];refine cd _ noW _ _ _ rfl B 51 i0 (.agg #[.string ⟨#[]⟩,.slice none 0 0]) 2 40 Tryz.underlying22 HI.out.1 HI.out.2.1 HI.out.2.2.1 HI.out.2.2.2 rfl (by omega) rfl (.slice A n c) n xs dq5 (hown.belw ((Below.refl _ _).alloc Qr _)) ⟨w2.heap.size,0,none⟩ 1 1 [ae s.word.2.body.1.name,.slice A3 n3 c3] e8 rfl (World.news_of_block (heap_alloc_new w2 _)) (by simp [Value.oneCell']) rfl (by omega) (by have:=HP.out.cnt;unfold maxLen;omega) (by have:=HP.out.cnt;omega) (by simp;omega) ?_;intro g5 cap w5 hown5 hgrow _;have hp:=jm hl hown hrow (a:=s.word.2.body.1) (cs:=[ae s.word.2.body.1.name,.slice A3 n3 c3]) ⟨A3,n3,c3,rfl,hm,hnm⟩ rfl hown5 hgrow (by omega) (fun _ _ _ ht x=>x.tch ht (by decide));exact hK.out _ _ trivial ⟨w2,_,some ⟨g5,0,none⟩,cap,⟨A3,n3,c3,rfl,hm,hnm,hr,hg⟩,rfl,hp.1,hp.2.1,hp.2.2⟩
 intro o ho xf wq hT hr K hK;injection ho with ho;subst ho;obtain ⟨w2,v,A5,c5,⟨A4,n4,c4,e4,hm,hnm,hrd,hg⟩,e9,hrow,ht,hb⟩:TB B gr w1 (ae s.L.name) (.slice A n c) (.slice A' n' c') (.slice A'' n'' c'') s.word.2.body.2 s.word.2.body.1 n s.L.bodies 3 (xf 7) (xf 8) (xf 9) wq:=hT;have dq12:xf 12=.pointer (some ⟨gr,2,none⟩):=hr 12 (by decide);have RQ:=hrd.other ht (by decide) hb;obtain ⟨_,hc2,_,_,_,hf2,_⟩:=RQ.cells;rw [e9] at hrow;have RQ':=Qh RQ;have HROW:=Qh hrow;clear RQ hrow hrd hm hnm hr;(try dsimp only [fr4]);(try simp only [dq12,e9]);go_simp;refine hK.out _ _ ?_;go_wp2_with fail;go_end0;have t1:=H1.out.tchR hg;have t3:=RQ'.out.tchR (dZ (rg_refl gr wq) 2 (.slice A5 (n+1) c5));have hst:=oV s.word.2;have hL:s.word.2.body.2.L=s.L:=((aw s).trans hst).2.2.2;have htk:=gJ (s:=s) (by rw [HW1.out];decide);have eW:W=s.word.2.body.2.addB s.word.2.body.1:=by rw [← HW.out];unfold PS.item;rw [if_pos HW1.out]
 subst eW;refine ⟨rfl,⟨A5,n+1,c5,A',n',c',A'',n'',c'',⟨?_,?_,?_,?_,?_,?_,?_⟩⟩,?_⟩
 ·show RdP B _ gr (ae s.word.2.body.2.L.name) _ _ _ _
  rw [hL];exact RQ'.out.put2 _ rfl rfl rfl
 ·show ay _ _ _ _ _ _ _ (s.word.2.body.2.L.bodies ++ [s.word.2.body.1])
  rw [hL];exact HROW.out.tch t3 (by decide) (fun _ _ x=>x.tch t3 (by decide))
 ·show ay _ _ _ _ _ _ _ s.word.2.body.2.L.joints
  rw [hL];exact ((JT1.out.tch t1 (by decide) (fun _ _ x=>x)).tch ht (by decide) (fun _ _ x=>x)).tch t3 (by decide) (fun _ _ x=>x)
 ·show ay _ _ _ _ _ _ _ s.word.2.body.2.L.drivers
  rw [hL];exact ((DR1.out.tch t1 (by decide) (fun _ _ x=>x)).tch ht (by decide) (fun _ _ x=>x)).tch t3 (by decide) (fun _ _ x=>x)
 ·show NmL s.word.2.body.2.L.name
  rw [hL];exact HP.out.nm
 ·show n+1+n'+n''+s.word.2.body.2.toks.length≤_
  have h1:=HP.out.cnt;have h2:=hst.1;omega
 ·intro b hbm
  have hbm:b∈s.word.2.body.2.L.bodies ++ [s.word.2.body.1]:=hbm;rw [hL] at hbm;rcases List.mem_append.1 hbm with hbm | hbm
  ·exact HP.out.pts b hbm
  simp at hbm;subst hbm;have h1:=vf s.word.2;have h2:=H1.out.len;omega
 exact ((BW1.out.trans (d8 hg (by have:=H1.out.lt;have:=H1.out.hB;omega) H1.out.hB)).trans hb).setCell (p:=⟨gr,2,none⟩) H1.out.hB _
theorem pd (B:Nat) (w:World) (gr:Nat) (s:PS) (A:Option Addr) (n c:Nat) (A':Option Addr) (n' c':Nat) (A'':Option Addr) (n'' c'':Nat) (h:RdL B w gr s A n c A' n' c' A'' n'' c'') (hw1:s.word.1=sN):Calls Tryz.prog 73 #[.pointer (some ⟨gr,0,none⟩)] w (mo B w gr s.item):=by
 have HW1:=Qh hw1;have hb0:(s.word.1 == [98,111,100,121])=false:=by rw [hw1];decide
 have hb1:(s.word.1 == [112,105,110])=true:=by rw [hw1];decide
 have hb2:(s.word.1 == [115,108,105,100,101])=false:=by rw [hw1];decide
 clear hw1;obtain ⟨i0,hi0,hz0,hz1,hz2⟩:=info_parts gN;obtain ⟨ij,hj0,hj1,hj2,hj3⟩:=info_parts gP;obtain ⟨id,hd0,hd1,hd2,hd3⟩:=info_parts gQ;have HI:=Qh (And.intro hi0 (And.intro hz0 (And.intro hz1 hz2)));have HIJ:=Qh (And.intro hj0 (And.intro hj1 (And.intro hj2 hj3)));have HID:=Qh (And.intro hd0 (And.intro hd1 (And.intro hd2 hd3)));clear hi0 hz0 hz1 hz2 hj0 hj1 hj2 hj3 hd0 hd1 hd2 hd3;have HL1:=Qh (aw s).2.2.2;have HL2:=Qh ((aw s).trans (aw s.word.2)).2.2.2;have HP:=Qh h;obtain ⟨W,hW⟩:∃ W,s.item=W:=⟨_,rfl⟩;rw [hW];have HW:=Qh hW;clear h hW;go_in;go_wp2_with fail;(with_reducible refine (ct B _ gr (ae s.L.name) (.slice A n c) (.slice A' n' c') (.slice A'' n'' c'') s HP.out.rd).mono ?_);rintro e w1 ⟨rfl,h1,hg1⟩;have H1:=Qh h1;have hgl:=h1.lt;have BW1:=Qh (d8 hg1 (B:=B) (by have:=HP.out.rd.lt;have:=HP.out.rd.hB;omega) HP.out.rd.hB);have t0:=HP.out.rd.tchR hg1;have BD1:=Qh (HP.out.bd.tch t0 (by decide) (fun _ _ x=>x.tch t0 (by decide)));have JT1:=Qh (HP.out.jt.tch t0 (by decide) (fun _ _ x=>x));have DR1:=Qh (HP.out.dr.tch t0 (by decide) (fun _ _ x=>x));obtain ⟨Ak,nk,ck,hbk,_⟩:=h1.blk;have HBk:=Qh hbk;clear h1 hg1 t0 hbk;have hn:=aV s.word.1;go_wp2_with fail;(with_reducible refine (ct B _ gr (ae s.L.name) (.slice A n c) (.slice A' n' c') (.slice A'' n'' c'') s.word.2 H1.out).mono ?_);rintro e w2 ⟨rfl,h2,hg2⟩;have H2:=Qh h2;have hlj:=h2.lt;have hw2:=hg2.size;have HNM:=Qh (fA H1.out.txt);clear h2;go_wp2_with fail;(with_reducible refine (ji B _ gr (ae s.L.name) (.slice A' n' c') (.slice A'' n'' c'') A n c s.word.2.word.2 (H2.out.alloc _) (by rw [HL2.out];exact H1.out.bodies BD1.out (bi hg2 _)) (by have:=HP.out.cnt;omega) (by rw [HL2.out];exact fun b hb=>Nat.le_trans (HP.out.pts b hb) (by decide)) (-1)).mono ?_);rintro e w3 ⟨rfl,h3,hg3⟩;have hsa:=cW s.word.2.word.2 (-1);generalize hfa:s.word.2.word.2.full (-1)=fa at h3 hsa ⊢;have HFA:=Qh hfa;have HSA:=Qh ((aw s.word.2).trans hsa);clear hfa hsa;have G3:=aA (bi hg2 _) hg3;have p3:Blk w3 w2.heap.size 81 #[ae s.word.2.word.1,.int .i64 0,.int .i64 0,.int .i64 0,.int .i64 0,.int .i64 0,.int .i64 0]:=bK hg3 (Blk.new _ _ _) (by omega);have hl3:=p3.lt;have H3:=Qh h3;generalize hgj:w2.heap.size=gj at hlj hw2 p3 hl3 ⊢;have HNE:=Qh (qp JT1.out (g:=gj) (by omega));clear hgj hg3 h3 hg2 H2;obtain ⟨cj0,cj1,cj2,cj3,cj4,cj5,cj6⟩:=p3.c7;obtain ⟨fj0,fj1,fj2,fj3,fj4,fj5,fj6⟩:=p3.f7;have P3:=Qh p3;clear p3;go_wp2_with fail;clear cj0 cj1 cj2 cj3 cj4 cj5 cj6 fj0 fj1 fj2 fj3 fj4 fj5 fj6;have B3:=dB w3 hlj 2 3 (.int .i64 fa.1) (.int .i64 fa.2.1);have G3':=cX G3 (dB w3 hw2 2 3 (.int .i64 fa.1) (.int .i64 fa.2.1));(with_reducible refine (ji B _ gr (ae s.L.name) (.slice A' n' c') (.slice A'' n'' c'') A n c fa.2.2 (H3.out.bel1 B3) (by rw [HSA.out.sameL,HL1.out];exact H1.out.bodies BD1.out G3') (by have:=HP.out.cnt;omega) (by rw [HSA.out.sameL,HL1.out];exact fun b hb=>Nat.le_trans (HP.out.pts b hb) (by decide)) (-1)).mono ?_);rintro e w4 ⟨rfl,h4,hg4⟩;have hsb:=cW fa.2.2 (-1);generalize hfb:fa.2.2.full (-1)=fb at h4 hsb ⊢;have HFB:=Qh hfb;have HSB:=Qh (HSA.out.trans hsb);clear hfb hsb;have G4:=aA G3' hg4;have p4:=bK hg4 ((P3.out.set_ 2 (.int .i64 fa.1)).set_ 3 (.int .i64 fa.2.1)) (by omega);have p4:=p4;have H4:=Qh h4;have hl4:=p4.lt;obtain ⟨cj0,cj1,cj2,cj3,cj4,cj5,cj6⟩:=p4.c7;obtain ⟨fj0,fj1,fj2,fj3,fj4,fj5,fj6⟩:=p4.f7;have P4:=Qh p4;clear p4 h4 hg4 G3 G3' B3 P3 H3 hl3;go_wp2_with fail;clear cj0 cj1 cj2 cj3 cj4 cj5 cj6 fj0 fj1 fj2 fj3 fj4 fj5 fj6;(with_reducible refine (dH B _ gr (ae s.L.name) (.slice A n c) (.slice A' n' c') (.slice A'' n'' c'') fb.2.2 (H4.out.bel1 (dB w4 hlj 4 5 (.int .i64 fb.1) (.int .i64 fb.2.1))) [59]).mono ?_);rintro e w6 ⟨rfl,h6,hg6⟩;have G6:=Qh (aA (cX G4 (dB w4 hw2 4 5 (.int .i64 fb.1) (.int .i64 fb.2.1))) hg6);have p6:=bK hg6 ((P4.out.set_ 4 (.int .i64 fb.1)).set_ 5 (.int .i64 fb.2.1)) (by omega);have H6:=Qh h6;have P6:=Qh p6;have HC:=Qh (show JtC w6 [ae s.word.2.word.1,.int .i64 0,.int .i64 fa.1,.int .i64 fa.2.1,.int .i64 fb.1,.int .i64 fb.2.1,.int .i64 0] ⟨s.word.2.word.1,0,fa.1,fa.2.1,fb.1,fb.2.1,0⟩ from ⟨rfl,HNM.out⟩);have JT6:=Qh (JT1.out.tch (H1.out.tchR G6.out) (by decide) (fun _ _ x=>x));clear h6 hg6 p6;go_wp2_with fail;change Code.wp _ _ _ (bR _ _ _ _ _ _ _ _ _ _ _ _ _ _ _ _ _ _ _ _ _ _ _ _ _ _ _ _ _ _ _ _ _ _ _ _ _ _ _ _ _ _ _ _ _ _ _ _ _ _ _ _ _ _ _ _ _ _ _ _ _ _ _ _ _ _ _ _ _ _ _ _ _ _ _ _ _ _ _ _ _ (fun _=>undef)) _;refine dq (n:=12) (a:=7) (K:=2) (x0:=fun _=>undef) (R:=fun ri=>List.getD ((VE (.pointer (some ⟨gr,0,none⟩))) :: (VE (.pointer (some ⟨gr,0,none⟩))) :: (VE (.pointer (some ⟨gr,0,none⟩))) :: (VE (.pointer (some ⟨gr,1,none⟩))) :: (VE (.pointer (some ⟨gr,3,none⟩))) :: (VE (.slice A' n' c')) :: (VE (.agg #[ae s.word.2.word.1,.int .i64 0,.int .i64 fa.1,.int .i64 fa.2.1,.int .i64 fb.1,.int .i64 fb.2.1,.int .i64 0])) :: VA :: VA :: (VE (.pointer (some ⟨gr,0,none⟩))) :: (VE (.pointer (some ⟨gr,1,none⟩))) :: (VE (.pointer (some ⟨gr,3,none⟩))) :: []) ri VA) (T:=fun k x wq=>TJ_ 81 JtC 7 B gj w6 [ae s.word.2.word.1,.int .i64 0,.int .i64 fa.1,.int .i64 fa.2.1,.int .i64 fb.1,.int .i64 fb.2.1,.int .i64 0] ⟨s.word.2.word.1,0,fa.1,fa.2.1,fb.1,fb.2.1,0⟩ n' s.L.joints k (x 7) (x 8) wq) (by kernel_rfl) rfl ?_ ?_ ?_ (by decide) ?_ ?_ rfl ?_ ?_ ?_
 ·exact aH ⟨(fun _ _ _=>rfl),(fun _ _ _=>rfl),(fun _ _ _=>rfl),(fun _ _ _=>rfl),(fun _ _ _=>rfl),(fun _ _ _=>rfl),(fun _ _ _=>rfl),(fun _ _ _=>rfl),(fun _ _ _=>rfl),(fun _ _ _=>rfl),(fun _ _ _=>rfl),(fun _ _ _=>rfl),(fun h=>absurd h (by decide)),trivial⟩
 ·exact aH (bT _ 0 (by kernel_rfl))
 ·exact (fun j hj=>jl (by kernel_rfl) hj)
 ·intro j o hj ho
  obtain rfl:j=0:=by omega
  injection ho with ho;subst ho;exact ⟨⟨7,.data⟩,by simp,rfl,rfl⟩
 ·intro k x i v w hi h
  have e7:upd x i v 7=x 7:=bm _ _ (by omega);have e8:upd x i v 8=x 8:=bm _ _ (by omega);simp only [e7,e8];exact h
 ·refine aH ⟨?_,?_,?_,?_,?_,?_,?_,(fun _ h=>absurd h (by decide)),(fun _ h=>absurd h (by decide)),?_,?_,?_,(fun h=>absurd h (by decide)),trivial⟩
  ·intro _ _ k xf wq hT hd K hK
   (try dsimp only [bR]);go_simp;have hz:=hK.out _ rfl;exact hz
  ·intro _ _ k xf wq hT hd K hK
   (try dsimp only [bR]);go_simp;have hz:=hK.out _ rfl;exact hz
  ·intro _ _ k xf wq hT hd K hK
   have dq1:xf 1=.pointer (some ⟨gr,0,none⟩):=hd ⟨1,.data⟩ (by simp) rfl;(try dsimp only [bR]);(try simp only [dq1]);go_simp;have hz:=hK.out _ rfl;dsimp only [bR] at hz;simp only [dq1] at hz;exact hz
  ·intro _ _ k xf wq hT hd K hK
   have dq2:xf 2=.pointer (some ⟨gr,0,none⟩):=hd ⟨2,.data⟩ (by simp) rfl;(try dsimp only [bR]);(try simp only [dq2]);go_simp;have hz:=hK.out _ rfl;dsimp only [bR] at hz;simp only [dq2] at hz;exact hz
  ·intro _ _ k xf wq hT hd K hK
   have dq3:xf 3=.pointer (some ⟨gr,1,none⟩):=hd ⟨3,.data⟩ (by simp) rfl;(try dsimp only [bR]);(try simp only [dq3]);go_simp;have hz:=hK.out _ rfl;dsimp only [bR] at hz;simp only [dq3] at hz;exact hz
  ·intro _ _ k xf wq hT hd K hK
   have dq4:xf 4=.pointer (some ⟨gr,3,none⟩):=hd ⟨4,.data⟩ (by simp) rfl;have hc2:=(TJ_.rd (by decide) H6.out hT).cells;obtain ⟨_,hc2,hc3,hc4,_⟩:=hc2;(try dsimp only [bR]);(try simp only [dq4]);go_simp;have hz:=hK.out _ rfl;dsimp only [bR] at hz;simp only [dq4] at hz;exact hz
  ·intro _ _ k xf wq hT hd K hK
   obtain ⟨hd0,hd1,hd2,hd3,hd4,hd5,hd6⟩:=(TJ_.blk P6.out hT).c7;(try dsimp only [bR]);go_simp;have hz:=hK.out _ rfl;exact hz
  ·intro _ _ k xf wq hT hd K hK
   have dq0:xf 0=.pointer (some ⟨gr,0,none⟩):=hd ⟨0,.data⟩ (by simp) rfl;(try dsimp only [bR]);(try simp only [dq0]);go_simp;have hz:=hK.out _ rfl;dsimp only [bR] at hz;simp only [dq0] at hz;exact hz
  ·intro _ _ k xf wq hT hd K hK
   have dq9:xf 9=.pointer (some ⟨gr,0,none⟩):=hd ⟨9,.data⟩ (by simp) rfl;(try dsimp only [bR]);(try simp only [dq9]);go_simp;have hz:=hK.out _ rfl;dsimp only [bR] at hz;simp only [dq9] at hz;exact hz
  intro _ _ k xf wq hT hd K hK;have dq10:xf 10=.pointer (some ⟨gr,1,none⟩):=hd ⟨10,.data⟩ (by simp) rfl;(try dsimp only [bR]);(try simp only [dq10]);go_simp;have hz:=hK.out _ rfl;dsimp only [bR] at hz;simp only [dq10] at hz;exact hz
 ·intro k o hk ho
  obtain rfl | rfl:=(show k=0∨k=1 by omega)
  ·injection ho with ho
   subst ho;intro xf wq hT hd K hK;have hT:wq=w6.drew:=hT;subst hT;have dq6:xf 6=.agg #[ae s.word.2.word.1,.int .i64 0,.int .i64 fa.1,.int .i64 fa.2.1,.int .i64 fb.1,.int .i64 fb.2.1,.int .i64 0]:=hd ⟨6,.data⟩ (by simp) rfl;(try dsimp only [bR]);(try simp only [dq6]);go_simp;have hz:=hK.out (.slice (some ⟨w6.heap.size,0,none⟩) 1 1) (w6.drew.alloc (.cells #[ae s.word.2.word.1,.int .i64 0,.int .i64 fa.1,.int .i64 fa.2.1,.int .i64 fb.1,.int .i64 fb.2.1,.int .i64 0] 81)) trivial ⟨rfl,rfl⟩;dsimp only [bR] at hz;simp only [dq6] at hz;exact hz
  injection ho with ho;subst ho;intro xf wq hT hd K hK;obtain ⟨e7,ew⟩:TJ_ 81 JtC 7 B gj w6 [ae s.word.2.word.1,.int .i64 0,.int .i64 fa.1,.int .i64 fa.2.1,.int .i64 fb.1,.int .i64 fb.2.1,.int .i64 0] ⟨s.word.2.word.1,0,fa.1,fa.2.1,fb.1,fb.2.1,0⟩ n' s.L.joints 1 (xf 7) (xf 8) wq:=hT;subst ew;have dq5:xf 5=.slice A' n' c':=hd ⟨5,.data⟩ (by simp) rfl;obtain ⟨hl,xs,hown,hrow⟩:=JT6.out;have hown:OwJ noW w6.drew B 81 7 (.slice A' n' c') n' xs:=hown;have hrow:cl JtC 7 w6.drew s.L.joints xs:=hrow;have hlt:=H6.out.lt;have hBg:=H6.out.hB;have hds:w6.drew.heap.size=w6.heap.size:=rfl;rw [if_pos (show Region.wanted _ _=true from rfl)];refine cd _ noW _ _ _ rfl B 81 ij (.agg #[.string ⟨#[]⟩,.int .i64 0,.int .i64 0,.int .i64 0,.int .i64 0,.int .i64 0,.int .i64 0]) 7 64 Tryz.underlying23 HIJ.out.1 HIJ.out.2.1 HIJ.out.2.2.1 HIJ.out.2.2.2 rfl (by omega) rfl (.slice A' n' c') n' xs dq5 (hown.belw ((Below.refl _ _).alloc Qr _)) ⟨w6.heap.size,0,none⟩ 1 1 [ae s.word.2.word.1,.int .i64 0,.int .i64 fa.1,.int .i64 fa.2.1,.int .i64 fb.1,.int .i64 fb.2.1,.int .i64 0] e7 rfl (World.news_of_block (heap_alloc_new w6.drew _)) (by simp [Value.oneCell']) rfl (by omega) (by have:=HP.out.cnt;unfold maxLen;omega) (by have:=HP.out.cnt;omega) (by simp;omega) ?_;intro g5 cap w5 hown5 hgrow _;have hp:=jm hl hown hrow (a:=⟨s.word.2.word.1,0,fa.1,fa.2.1,fb.1,fb.2.1,0⟩) (cs:=[ae s.word.2.word.1,.int .i64 0,.int .i64 fa.1,.int .i64 fa.2.1,.int .i64 fb.1,.int .i64 fb.2.1,.int .i64 0]) (show JtC w6.drew _ (⟨s.word.2.word.1,0,fa.1,fa.2.1,fb.1,fb.2.1,0⟩:aK) from HC.out) rfl hown5 hgrow (by omega) (fun _ _ _ _ x=>x);exact hK.out _ _ trivial ⟨some ⟨g5,0,none⟩,cap,rfl,hp.1,(P6.out.drew.alloc _).grown hgrow HNE.out,hp.2.1,((Below.refl B w6).drew).trans hp.2.2⟩
 intro o ho xf wq hT hr K hK;injection ho with ho;subst ho;obtain ⟨A5,c5,e8,hrow,_,ht,hb⟩:TJ_ 81 JtC 7 B gj w6 [ae s.word.2.word.1,.int .i64 0,.int .i64 fa.1,.int .i64 fa.2.1,.int .i64 fb.1,.int .i64 fb.2.1,.int .i64 0] ⟨s.word.2.word.1,0,fa.1,fa.2.1,fb.1,fb.2.1,0⟩ n' s.L.joints 2 (xf 7) (xf 8) wq:=hT;have dq11:xf 11=.pointer (some ⟨gr,3,none⟩):=hr 11 (by decide);have RQ:=H6.out.other ht (by decide) hb;obtain ⟨_,hc2,hc3,hc4,_,hf2,hf3,hf4⟩:=RQ.cells;rw [e8] at hrow;have RQ':=Qh RQ;have HROW:=Qh hrow;clear RQ hrow hr;(try dsimp only [bR]);(try simp only [dq11,e8]);go_simp;refine hK.out _ _ ?_;go_wp2_with fail;go_end0;have t1:=H1.out.tchR G6.out;have t3:=RQ'.out.tchR (dZ (rg_refl gr wq) 3 (.slice A5 (n'+1) c5));have hst:=HSB.out.trans (aI fb.2.2 2 [59]);have hL:(PS.expect fb.2.2 2 [59]).L=s.L:=hst.2.2.2.trans HL1.out;have htk:=gJ (s:=s) (by rw [HW1.out];decide);have hst1:=hst.1
 have eW:W=PS.addJ (PS.expect fb.2.2 2 [59]) ⟨s.word.2.word.1,0,fa.1,fa.2.1,fb.1,fb.2.1,0⟩:=by
  rw [← HW.out];unfold PS.item;rw [if_neg (by rw [HW1.out];decide),if_pos HW1.out];unfold PS.joint;simp only [HFA.out,HFB.out,Bool.false_eq_true,if_false]
 subst eW;refine ⟨rfl,⟨A,n,c,A5,n'+1,c5,A'',n'',c'',⟨?_,?_,?_,?_,?_,?_,?_⟩⟩,?_⟩
 ·show RdP B _ gr (ae (PS.expect fb.2.2 2 [59]).L.name) _ _ _ _
  rw [hL];exact RQ'.out.put3 _ rfl rfl rfl
 ·show ay _ _ _ _ _ _ _ (PS.expect fb.2.2 2 [59]).L.bodies
  rw [hL];exact ((BD1.out.tch t1 (by decide) (fun _ _ x=>x.tch t1 (by decide))).tch ht (by decide) (fun _ _ x=>x.tch ht (by decide))).tch t3 (by decide) (fun _ _ x=>x.tch t3 (by decide))
 ·show ay _ _ _ _ _ _ _ ((PS.expect fb.2.2 2 [59]).L.joints ++ [⟨s.word.2.word.1,0,fa.1,fa.2.1,fb.1,fb.2.1,0⟩])
  rw [hL];exact HROW.out.tch t3 (by decide) (fun _ _ x=>x)
 ·show ay _ _ _ _ _ _ _ (PS.expect fb.2.2 2 [59]).L.drivers
  rw [hL];exact ((DR1.out.tch t1 (by decide) (fun _ _ x=>x)).tch ht (by decide) (fun _ _ x=>x)).tch t3 (by decide) (fun _ _ x=>x)
 ·show NmL (PS.expect fb.2.2 2 [59]).L.name
  rw [hL];exact HP.out.nm
 ·show n+(n'+1)+n''+(PS.expect fb.2.2 2 [59]).toks.length≤_
  have h1:=HP.out.cnt;omega
 ·intro b hbm
  have hbm:b∈(PS.expect fb.2.2 2 [59]).L.bodies:=hbm;rw [hL] at hbm;exact HP.out.pts b hbm
 exact ((BW1.out.trans (d8 G6.out (by have:=H1.out.lt;have:=H1.out.hB;omega) H1.out.hB)).trans hb).setCell (p:=⟨gr,3,none⟩) H1.out.hB _
theorem lC (B:Nat) (w:World) (gr:Nat) (s:PS) (A:Option Addr) (n c:Nat) (A':Option Addr) (n' c':Nat) (A'':Option Addr) (n'' c'':Nat) (h:RdL B w gr s A n c A' n' c' A'' n'' c'') (hw1:s.word.1=jR):Calls Tryz.prog 73 #[.pointer (some ⟨gr,0,none⟩)] w (mo B w gr s.item):=by
 have HW1:=Qh hw1;have hb0:(s.word.1 == [98,111,100,121])=false:=by rw [hw1];decide
 have hb1:(s.word.1 == [112,105,110])=false:=by rw [hw1];decide
 have hb2:(s.word.1 == [115,108,105,100,101])=true:=by rw [hw1];decide
 clear hw1;obtain ⟨i0,hi0,hz0,hz1,hz2⟩:=info_parts gN;obtain ⟨ij,hj0,hj1,hj2,hj3⟩:=info_parts gP;obtain ⟨id,hd0,hd1,hd2,hd3⟩:=info_parts gQ;have HI:=Qh (And.intro hi0 (And.intro hz0 (And.intro hz1 hz2)));have HIJ:=Qh (And.intro hj0 (And.intro hj1 (And.intro hj2 hj3)));have HID:=Qh (And.intro hd0 (And.intro hd1 (And.intro hd2 hd3)));clear hi0 hz0 hz1 hz2 hj0 hj1 hj2 hj3 hd0 hd1 hd2 hd3;have HL1:=Qh (aw s).2.2.2;have HL2:=Qh ((aw s).trans (aw s.word.2)).2.2.2;have HP:=Qh h;obtain ⟨W,hW⟩:∃ W,s.item=W:=⟨_,rfl⟩;rw [hW];have HW:=Qh hW;clear h hW;go_in;go_wp2_with fail;(with_reducible refine (ct B _ gr (ae s.L.name) (.slice A n c) (.slice A' n' c') (.slice A'' n'' c'') s HP.out.rd).mono ?_);rintro e w1 ⟨rfl,h1,hg1⟩;have H1:=Qh h1;have hgl:=h1.lt;have BW1:=Qh (d8 hg1 (B:=B) (by have:=HP.out.rd.lt;have:=HP.out.rd.hB;omega) HP.out.rd.hB);have t0:=HP.out.rd.tchR hg1;have BD1:=Qh (HP.out.bd.tch t0 (by decide) (fun _ _ x=>x.tch t0 (by decide)));have JT1:=Qh (HP.out.jt.tch t0 (by decide) (fun _ _ x=>x));have DR1:=Qh (HP.out.dr.tch t0 (by decide) (fun _ _ x=>x));obtain ⟨Ak,nk,ck,hbk,_⟩:=h1.blk;have HBk:=Qh hbk;clear h1 hg1 t0 hbk;have hn:=aV s.word.1;go_wp2_with fail;(with_reducible refine (ct B _ gr (ae s.L.name) (.slice A n c) (.slice A' n' c') (.slice A'' n'' c'') s.word.2 H1.out).mono ?_);rintro e w2 ⟨rfl,h2,hg2⟩;have H2:=Qh h2;have hlj:=h2.lt;have hw2:=hg2.size;have HNM:=Qh (fA H1.out.txt);clear h2;go_wp2_with fail;(with_reducible refine (ji B _ gr (ae s.L.name) (.slice A' n' c') (.slice A'' n'' c'') A n c s.word.2.word.2 (H2.out.alloc _) (by rw [HL2.out];exact H1.out.bodies BD1.out (bi hg2 _)) (by have:=HP.out.cnt;omega) (by rw [HL2.out];exact fun b hb=>Nat.le_trans (HP.out.pts b hb) (by decide)) (-1)).mono ?_);rintro e w3 ⟨rfl,h3,hg3⟩;have hsa:=cW s.word.2.word.2 (-1);generalize hfa:s.word.2.word.2.full (-1)=fa at h3 hsa ⊢;have HFA:=Qh hfa;have HSA:=Qh ((aw s.word.2).trans hsa);clear hfa hsa;have G3:=aA (bi hg2 _) hg3;have p3:Blk w3 w2.heap.size 81 #[ae s.word.2.word.1,.int .i64 0,.int .i64 0,.int .i64 0,.int .i64 0,.int .i64 0,.int .i64 0]:=bK hg3 (Blk.new _ _ _) (by omega);have hl3:=p3.lt;have H3:=Qh h3;generalize hgj:w2.heap.size=gj at hlj hw2 p3 hl3 ⊢;have HNE:=Qh (qp JT1.out (g:=gj) (by omega));clear hgj hg3 h3 hg2 H2;obtain ⟨cj0,cj1,cj2,cj3,cj4,cj5,cj6⟩:=p3.c7;obtain ⟨fj0,fj1,fj2,fj3,fj4,fj5,fj6⟩:=p3.f7;have P3:=Qh p3;clear p3;go_wp2_with fail;clear cj0 cj1 cj2 cj3 cj4 cj5 cj6 fj0 fj1 fj2 fj3 fj4 fj5 fj6;have B3:=dB w3 hlj 2 3 (.int .i64 fa.1) (.int .i64 fa.2.1);have G3':=cX G3 (dB w3 hw2 2 3 (.int .i64 fa.1) (.int .i64 fa.2.1));(with_reducible refine (ji B _ gr (ae s.L.name) (.slice A' n' c') (.slice A'' n'' c'') A n c fa.2.2 (H3.out.bel1 B3) (by rw [HSA.out.sameL,HL1.out];exact H1.out.bodies BD1.out G3') (by have:=HP.out.cnt;omega) (by rw [HSA.out.sameL,HL1.out];exact fun b hb=>Nat.le_trans (HP.out.pts b hb) (by decide)) (-1)).mono ?_);rintro e w4 ⟨rfl,h4,hg4⟩;have hsb:=cW fa.2.2 (-1);generalize hfb:fa.2.2.full (-1)=fb at h4 hsb ⊢;have HFB:=Qh hfb;have HSB:=Qh (HSA.out.trans hsb);clear hfb hsb;have G4:=aA G3' hg4;have p4:=bK hg4 ((P3.out.set_ 2 (.int .i64 fa.1)).set_ 3 (.int .i64 fa.2.1)) (by omega);have p4:=p4;have H4:=Qh h4;have hl4:=p4.lt;obtain ⟨cj0,cj1,cj2,cj3,cj4,cj5,cj6⟩:=p4.c7;obtain ⟨fj0,fj1,fj2,fj3,fj4,fj5,fj6⟩:=p4.f7;have P4:=Qh p4;clear p4 h4 hg4 G3 G3' B3 P3 H3 hl3;go_wp2_with fail;clear cj0 cj1 cj2 cj3 cj4 cj5 cj6 fj0 fj1 fj2 fj3 fj4 fj5 fj6;have B4:=(dB w4 hlj 4 5 (.int .i64 fb.1) (.int .i64 fb.2.1)).setCell (p:=⟨gj,1,none⟩) hlj (.int .i64 1);have G4':=cX G4 ((dB w4 hw2 4 5 (.int .i64 fb.1) (.int .i64 fb.2.1)).setCell (p:=⟨gj,1,none⟩) hw2 (.int .i64 1));have Q4:=Qh (((P4.out.set_ 4 (.int .i64 fb.1)).set_ 5 (.int .i64 fb.2.1)).set_ 1 (.int .i64 1));(with_reducible refine (ji B _ gr (ae s.L.name) (.slice A' n' c') (.slice A'' n'' c'') A n c fb.2.2 (H4.out.bel1 B4) (by rw [HSB.out.sameL,HL1.out];exact H1.out.bodies BD1.out G4') (by have:=HP.out.cnt;omega) (by rw [HSB.out.sameL,HL1.out];exact fun b hb=>Nat.le_trans (HP.out.pts b hb) (by decide)) fb.1).mono ?_);rintro e w5 ⟨rfl,h5,hg5⟩;have hsc:=cW fb.2.2 fb.1;generalize hft:fb.2.2.full fb.1=ft at h5 hsc ⊢;have HFT:=Qh hft;have HSC:=Qh (HSB.out.trans hsc);clear hft hsc;have G5:=aA G4' hg5;have p5:=bK hg5 Q4.out (by omega);have H5:=Qh h5;have hl5:=p5.lt;obtain ⟨cj0,cj1,cj2,cj3,cj4,cj5,cj6⟩:=p5.c7;obtain ⟨fj0,fj1,fj2,fj3,fj4,fj5,fj6⟩:=p5.f7;have P5:=Qh p5;clear p5 h5 hg5 G4 G4' B4 P4 H4 Q4 hl4;go_wp2_with fail;clear cj0 cj1 cj2 cj3 cj4 cj5 cj6 fj0 fj1 fj2 fj3 fj4 fj5 fj6;(with_reducible refine (dH B _ gr (ae s.L.name) (.slice A n c) (.slice A' n' c') (.slice A'' n'' c'') ft.2.2 (H5.out.bel1 ((Below.refl _ w5).setCell (p:=⟨gj,6,none⟩) hlj (.int .i64 ft.2.1))) [59]).mono ?_);rintro e w6 ⟨rfl,h6,hg6⟩;have G6:=Qh (aA (cX G5 ((Below.refl _ w5).setCell (p:=⟨gj,6,none⟩) hw2 (.int .i64 ft.2.1))) hg6);have p6:=bK hg6 (P5.out.set_ 6 (.int .i64 ft.2.1)) (by omega);have H6:=Qh h6;have P6:=Qh p6;have HC:=Qh (show JtC w6 [ae s.word.2.word.1,.int .i64 1,.int .i64 fa.1,.int .i64 fa.2.1,.int .i64 fb.1,.int .i64 fb.2.1,.int .i64 ft.2.1] ⟨s.word.2.word.1,1,fa.1,fa.2.1,fb.1,fb.2.1,ft.2.1⟩ from ⟨rfl,HNM.out⟩);have JT6:=Qh (JT1.out.tch (H1.out.tchR G6.out) (by decide) (fun _ _ x=>x));clear h6 hg6 p6;go_wp2_with fail;change Code.wp _ _ _ (bR _ _ _ _ _ _ _ _ _ _ _ _ _ _ _ _ _ _ _ _ _ _ _ _ _ _ _ _ _ _ _ _ _ _ _ _ _ _ _ _ _ _ _ _ _ _ _ _ _ _ _ _ _ _ _ _ _ _ _ _ _ _ _ _ _ _ _ _ _ _ _ _ _ _ _ _ _ _ _ _ _ (fun _=>undef)) _;refine dq (n:=12) (a:=7) (K:=2) (x0:=fun _=>undef) (R:=fun ri=>List.getD ((VE (.pointer (some ⟨gr,0,none⟩))) :: (VE (.pointer (some ⟨gr,0,none⟩))) :: (VE (.pointer (some ⟨gr,0,none⟩))) :: (VE (.pointer (some ⟨gr,1,none⟩))) :: (VE (.pointer (some ⟨gr,3,none⟩))) :: (VE (.slice A' n' c')) :: (VE (.agg #[ae s.word.2.word.1,.int .i64 1,.int .i64 fa.1,.int .i64 fa.2.1,.int .i64 fb.1,.int .i64 fb.2.1,.int .i64 ft.2.1])) :: VA :: VA :: (VE (.pointer (some ⟨gr,0,none⟩))) :: (VE (.pointer (some ⟨gr,1,none⟩))) :: (VE (.pointer (some ⟨gr,3,none⟩))) :: []) ri VA) (T:=fun k x wq=>TJ_ 81 JtC 7 B gj w6 [ae s.word.2.word.1,.int .i64 1,.int .i64 fa.1,.int .i64 fa.2.1,.int .i64 fb.1,.int .i64 fb.2.1,.int .i64 ft.2.1] ⟨s.word.2.word.1,1,fa.1,fa.2.1,fb.1,fb.2.1,ft.2.1⟩ n' s.L.joints k (x 7) (x 8) wq) (by kernel_rfl) rfl ?_ ?_ ?_ (by decide) ?_ ?_ rfl ?_ ?_ ?_
 ·exact aH ⟨(fun _ _ _=>rfl),(fun _ _ _=>rfl),(fun _ _ _=>rfl),(fun _ _ _=>rfl),(fun _ _ _=>rfl),(fun _ _ _=>rfl),(fun _ _ _=>rfl),(fun _ _ _=>rfl),(fun _ _ _=>rfl),(fun _ _ _=>rfl),(fun _ _ _=>rfl),(fun _ _ _=>rfl),(fun h=>absurd h (by decide)),trivial⟩
 ·exact aH (bT _ 0 (by kernel_rfl))
 ·exact (fun j hj=>jl (by kernel_rfl) hj)
 ·intro j o hj ho
  obtain rfl:j=0:=by omega
  injection ho with ho;subst ho;exact ⟨⟨7,.data⟩,by simp,rfl,rfl⟩
 ·intro k x i v w hi h
  have e7:upd x i v 7=x 7:=bm _ _ (by omega);have e8:upd x i v 8=x 8:=bm _ _ (by omega);simp only [e7,e8];exact h
 ·refine aH ⟨?_,?_,?_,?_,?_,?_,?_,(fun _ h=>absurd h (by decide)),(fun _ h=>absurd h (by decide)),?_,?_,?_,(fun h=>absurd h (by decide)),trivial⟩
  ·intro _ _ k xf wq hT hd K hK
   (try dsimp only [bR]);go_simp;have hz:=hK.out _ rfl;exact hz
  ·intro _ _ k xf wq hT hd K hK
   (try dsimp only [bR]);go_simp;have hz:=hK.out _ rfl;exact hz
  ·intro _ _ k xf wq hT hd K hK
   have dq1:xf 1=.pointer (some ⟨gr,0,none⟩):=hd ⟨1,.data⟩ (by simp) rfl;(try dsimp only [bR]);(try simp only [dq1]);go_simp;have hz:=hK.out _ rfl;dsimp only [bR] at hz;simp only [dq1] at hz;exact hz
  ·intro _ _ k xf wq hT hd K hK
   have dq2:xf 2=.pointer (some ⟨gr,0,none⟩):=hd ⟨2,.data⟩ (by simp) rfl;(try dsimp only [bR]);(try simp only [dq2]);go_simp;have hz:=hK.out _ rfl;dsimp only [bR] at hz;simp only [dq2] at hz;exact hz
  ·intro _ _ k xf wq hT hd K hK
   have dq3:xf 3=.pointer (some ⟨gr,1,none⟩):=hd ⟨3,.data⟩ (by simp) rfl;(try dsimp only [bR]);(try simp only [dq3]);go_simp;have hz:=hK.out _ rfl;dsimp only [bR] at hz;simp only [dq3] at hz;exact hz
  ·intro _ _ k xf wq hT hd K hK
   have dq4:xf 4=.pointer (some ⟨gr,3,none⟩):=hd ⟨4,.data⟩ (by simp) rfl;have hc2:=(TJ_.rd (by decide) H6.out hT).cells;obtain ⟨_,hc2,hc3,hc4,_⟩:=hc2;(try dsimp only [bR]);(try simp only [dq4]);go_simp;have hz:=hK.out _ rfl;dsimp only [bR] at hz;simp only [dq4] at hz;exact hz
  ·intro _ _ k xf wq hT hd K hK
   obtain ⟨hd0,hd1,hd2,hd3,hd4,hd5,hd6⟩:=(TJ_.blk P6.out hT).c7;(try dsimp only [bR]);go_simp;have hz:=hK.out _ rfl;exact hz
  ·intro _ _ k xf wq hT hd K hK
   have dq0:xf 0=.pointer (some ⟨gr,0,none⟩):=hd ⟨0,.data⟩ (by simp) rfl;(try dsimp only [bR]);(try simp only [dq0]);go_simp;have hz:=hK.out _ rfl;dsimp only [bR] at hz;simp only [dq0] at hz;exact hz
  ·intro _ _ k xf wq hT hd K hK
   have dq9:xf 9=.pointer (some ⟨gr,0,none⟩):=hd ⟨9,.data⟩ (by simp) rfl;(try dsimp only [bR]);(try simp only [dq9]);go_simp;have hz:=hK.out _ rfl;dsimp only [bR] at hz;simp only [dq9] at hz;exact hz
  intro _ _ k xf wq hT hd K hK;have dq10:xf 10=.pointer (some ⟨gr,1,none⟩):=hd ⟨10,.data⟩ (by simp) rfl;(try dsimp only [bR]);(try simp only [dq10]);go_simp;have hz:=hK.out _ rfl;dsimp only [bR] at hz;simp only [dq10] at hz;exact hz
 ·intro k o hk ho
  obtain rfl | rfl:=(show k=0∨k=1 by omega)
  ·injection ho with ho
   subst ho;intro xf wq hT hd K hK;have hT:wq=w6.drew:=hT;subst hT;have dq6:xf 6=.agg #[ae s.word.2.word.1,.int .i64 1,.int .i64 fa.1,.int .i64 fa.2.1,.int .i64 fb.1,.int .i64 fb.2.1,.int .i64 ft.2.1]:=hd ⟨6,.data⟩ (by simp) rfl;(try dsimp only [bR]);(try simp only [dq6]);go_simp;have hz:=hK.out (.slice (some ⟨w6.heap.size,0,none⟩) 1 1) (w6.drew.alloc (.cells #[ae s.word.2.word.1,.int .i64 1,.int .i64 fa.1,.int .i64 fa.2.1,.int .i64 fb.1,.int .i64 fb.2.1,.int .i64 ft.2.1] 81)) trivial ⟨rfl,rfl⟩;dsimp only [bR] at hz;simp only [dq6] at hz;exact hz
  injection ho with ho;subst ho;intro xf wq hT hd K hK;obtain ⟨e7,ew⟩:TJ_ 81 JtC 7 B gj w6 [ae s.word.2.word.1,.int .i64 1,.int .i64 fa.1,.int .i64 fa.2.1,.int .i64 fb.1,.int .i64 fb.2.1,.int .i64 ft.2.1] ⟨s.word.2.word.1,1,fa.1,fa.2.1,fb.1,fb.2.1,ft.2.1⟩ n' s.L.joints 1 (xf 7) (xf 8) wq:=hT;subst ew;have dq5:xf 5=.slice A' n' c':=hd ⟨5,.data⟩ (by simp) rfl;obtain ⟨hl,xs,hown,hrow⟩:=JT6.out;have hown:OwJ noW w6.drew B 81 7 (.slice A' n' c') n' xs:=hown;have hrow:cl JtC 7 w6.drew s.L.joints xs:=hrow;have hlt:=H6.out.lt;have hBg:=H6.out.hB;have hds:w6.drew.heap.size=w6.heap.size:=rfl;rw [if_pos (show Region.wanted _ _=true from rfl)];refine cd _ noW _ _ _ rfl B 81 ij (.agg #[.string ⟨#[]⟩,.int .i64 0,.int .i64 0,.int .i64 0,.int .i64 0,.int .i64 0,.int .i64 0]) 7 64 Tryz.underlying23 HIJ.out.1 HIJ.out.2.1 HIJ.out.2.2.1 HIJ.out.2.2.2 rfl (by omega) rfl (.slice A' n' c') n' xs dq5 (hown.belw ((Below.refl _ _).alloc Qr _)) ⟨w6.heap.size,0,none⟩ 1 1 [ae s.word.2.word.1,.int .i64 1,.int .i64 fa.1,.int .i64 fa.2.1,.int .i64 fb.1,.int .i64 fb.2.1,.int .i64 ft.2.1] e7 rfl (World.news_of_block (heap_alloc_new w6.drew _)) (by simp [Value.oneCell']) rfl (by omega) (by have:=HP.out.cnt;unfold maxLen;omega) (by have:=HP.out.cnt;omega) (by simp;omega) ?_;intro g5 cap w5 hown5 hgrow _;have hp:=jm hl hown hrow (a:=⟨s.word.2.word.1,1,fa.1,fa.2.1,fb.1,fb.2.1,ft.2.1⟩) (cs:=[ae s.word.2.word.1,.int .i64 1,.int .i64 fa.1,.int .i64 fa.2.1,.int .i64 fb.1,.int .i64 fb.2.1,.int .i64 ft.2.1]) (show JtC w6.drew _ (⟨s.word.2.word.1,1,fa.1,fa.2.1,fb.1,fb.2.1,ft.2.1⟩:aK) from HC.out) rfl hown5 hgrow (by omega) (fun _ _ _ _ x=>x);exact hK.out _ _ trivial ⟨some ⟨g5,0,none⟩,cap,rfl,hp.1,(P6.out.drew.alloc _).grown hgrow HNE.out,hp.2.1,((Below.refl B w6).drew).trans hp.2.2⟩
 intro o ho xf wq hT hr K hK;injection ho with ho;subst ho;obtain ⟨A5,c5,e8,hrow,_,ht,hb⟩:TJ_ 81 JtC 7 B gj w6 [ae s.word.2.word.1,.int .i64 1,.int .i64 fa.1,.int .i64 fa.2.1,.int .i64 fb.1,.int .i64 fb.2.1,.int .i64 ft.2.1] ⟨s.word.2.word.1,1,fa.1,fa.2.1,fb.1,fb.2.1,ft.2.1⟩ n' s.L.joints 2 (xf 7) (xf 8) wq:=hT;have dq11:xf 11=.pointer (some ⟨gr,3,none⟩):=hr 11 (by decide);have RQ:=H6.out.other ht (by decide) hb;obtain ⟨_,hc2,hc3,hc4,_,hf2,hf3,hf4⟩:=RQ.cells;rw [e8] at hrow;have RQ':=Qh RQ;have HROW:=Qh hrow;clear RQ hrow hr;(try dsimp only [bR]);(try simp only [dq11,e8]);go_simp;refine hK.out _ _ ?_;go_wp2_with fail;go_end0;have t1:=H1.out.tchR G6.out;have t3:=RQ'.out.tchR (dZ (rg_refl gr wq) 3 (.slice A5 (n'+1) c5));have hst:=HSC.out.trans (aI ft.2.2 2 [59]);have hL:(PS.expect ft.2.2 2 [59]).L=s.L:=hst.2.2.2.trans HL1.out;have htk:=gJ (s:=s) (by rw [HW1.out];decide);have hst1:=hst.1
 have eW:W=PS.addJ (PS.expect ft.2.2 2 [59]) ⟨s.word.2.word.1,1,fa.1,fa.2.1,fb.1,fb.2.1,ft.2.1⟩:=by
  rw [← HW.out];unfold PS.item;rw [if_neg (by rw [HW1.out];decide),if_neg (by rw [HW1.out];decide),if_pos HW1.out];unfold PS.joint;simp only [HFA.out,HFB.out,HFT.out,if_true]
 subst eW;refine ⟨rfl,⟨A,n,c,A5,n'+1,c5,A'',n'',c'',⟨?_,?_,?_,?_,?_,?_,?_⟩⟩,?_⟩
 ·show RdP B _ gr (ae (PS.expect ft.2.2 2 [59]).L.name) _ _ _ _
  rw [hL];exact RQ'.out.put3 _ rfl rfl rfl
 ·show ay _ _ _ _ _ _ _ (PS.expect ft.2.2 2 [59]).L.bodies
  rw [hL];exact ((BD1.out.tch t1 (by decide) (fun _ _ x=>x.tch t1 (by decide))).tch ht (by decide) (fun _ _ x=>x.tch ht (by decide))).tch t3 (by decide) (fun _ _ x=>x.tch t3 (by decide))
 ·show ay _ _ _ _ _ _ _ ((PS.expect ft.2.2 2 [59]).L.joints ++ [⟨s.word.2.word.1,1,fa.1,fa.2.1,fb.1,fb.2.1,ft.2.1⟩])
  rw [hL];exact HROW.out.tch t3 (by decide) (fun _ _ x=>x)
 ·show ay _ _ _ _ _ _ _ (PS.expect ft.2.2 2 [59]).L.drivers
  rw [hL];exact ((DR1.out.tch t1 (by decide) (fun _ _ x=>x)).tch ht (by decide) (fun _ _ x=>x)).tch t3 (by decide) (fun _ _ x=>x)
 ·show NmL (PS.expect ft.2.2 2 [59]).L.name
  rw [hL];exact HP.out.nm
 ·show n+(n'+1)+n''+(PS.expect ft.2.2 2 [59]).toks.length≤_
  have h1:=HP.out.cnt;omega
 ·intro b hbm
  have hbm:b∈(PS.expect ft.2.2 2 [59]).L.bodies:=hbm;rw [hL] at hbm;exact HP.out.pts b hbm
 exact ((BW1.out.trans (d8 G6.out (by have:=H1.out.lt;have:=H1.out.hB;omega) H1.out.hB)).trans hb).setCell (p:=⟨gr,3,none⟩) H1.out.hB _
theorem kX (B:Nat) (w:World) (gr:Nat) (s:PS) (A:Option Addr) (n c:Nat) (A':Option Addr) (n' c':Nat) (A'':Option Addr) (n'' c'':Nat) (h:RdL B w gr s A n c A' n' c' A'' n'' c'') (hw1:s.word.1=gG):Calls Tryz.prog 73 #[.pointer (some ⟨gr,0,none⟩)] w (mo B w gr s.item):=by
 have HW1:=Qh hw1;have hb0:(s.word.1 == [98,111,100,121])=false:=by rw [hw1];decide
 have hb1:(s.word.1 == [112,105,110])=false:=by rw [hw1];decide
 have hb2:(s.word.1 == [115,108,105,100,101])=false:=by rw [hw1];decide
 have hb3:(s.word.1 == [100,114,105,118,101,114])=true:=by rw [hw1];decide
 clear hw1;obtain ⟨i0,hi0,hz0,hz1,hz2⟩:=info_parts gN;obtain ⟨ij,hj0,hj1,hj2,hj3⟩:=info_parts gP;obtain ⟨id,hd0,hd1,hd2,hd3⟩:=info_parts gQ;have HI:=Qh (And.intro hi0 (And.intro hz0 (And.intro hz1 hz2)));have HIJ:=Qh (And.intro hj0 (And.intro hj1 (And.intro hj2 hj3)));have HID:=Qh (And.intro hd0 (And.intro hd1 (And.intro hd2 hd3)));clear hi0 hz0 hz1 hz2 hj0 hj1 hj2 hj3 hd0 hd1 hd2 hd3;have HL1:=Qh (aw s).2.2.2;have HL2:=Qh ((aw s).trans (aw s.word.2)).2.2.2;have HP:=Qh h;obtain ⟨W,hW⟩:∃ W,s.item=W:=⟨_,rfl⟩;rw [hW];have HW:=Qh hW;clear h hW;go_in;go_wp2_with fail;(with_reducible refine (ct B _ gr (ae s.L.name) (.slice A n c) (.slice A' n' c') (.slice A'' n'' c'') s HP.out.rd).mono ?_);rintro e w1 ⟨rfl,h1,hg1⟩;have H1:=Qh h1;have hgl:=h1.lt;have BW1:=Qh (d8 hg1 (B:=B) (by have:=HP.out.rd.lt;have:=HP.out.rd.hB;omega) HP.out.rd.hB);have t0:=HP.out.rd.tchR hg1;have BD1:=Qh (HP.out.bd.tch t0 (by decide) (fun _ _ x=>x.tch t0 (by decide)));have JT1:=Qh (HP.out.jt.tch t0 (by decide) (fun _ _ x=>x));have DR1:=Qh (HP.out.dr.tch t0 (by decide) (fun _ _ x=>x));obtain ⟨Ak,nk,ck,hbk,_⟩:=h1.blk;have HBk:=Qh hbk;clear h1 hg1 t0 hbk;have hn:=aV s.word.1;go_wp2_with fail;(with_reducible refine (ct B _ gr (ae s.L.name) (.slice A n c) (.slice A' n' c') (.slice A'' n'' c'') s.word.2 H1.out).mono ?_);rintro e w2 ⟨rfl,h2,hg2⟩;have H2:=Qh h2;have hlj:=h2.lt;have hw2:=hg2.size;have HNM:=Qh (fA H1.out.txt);clear h2;go_wp2_with fail;(with_reducible refine (o0 B _ gr (ae s.L.name) (.slice A' n' c') (.slice A'' n'' c'') A n c s.word.2.word.2 (H2.out.alloc _) (by rw [HL2.out];exact H1.out.bodies BD1.out (bi hg2 _)) (by have:=HP.out.cnt;omega) (-1)).mono ?_);rintro e w3 ⟨rfl,h3,hg3⟩;have hsa:=gI s.word.2.word.2 (-1);generalize hfa:s.word.2.word.2.named (-1)=fa at h3 hsa ⊢;have HFA:=Qh hfa;have HSA:=Qh ((aw s.word.2).trans hsa);clear hfa hsa;have G3:=aA (bi hg2 _) hg3;have p3:Blk w3 w2.heap.size 86 #[ae s.word.2.word.1,.int .i64 0]:=bK hg3 (Blk.new _ _ _) (by omega);have hl3:=p3.lt;have H3:=Qh h3;generalize hgj:w2.heap.size=gj at hlj hw2 p3 hl3 ⊢;have HNE:=Qh (qp DR1.out (g:=gj) (by omega));clear hgj hg3 h3 hg2 H2;obtain ⟨cj0,cj1⟩:=p3.c2;obtain ⟨fj0,fj1⟩:=p3.f2;have P3:=Qh p3;clear p3;go_wp2_with fail;clear cj0 cj1 fj0 fj1;(with_reducible refine (dH B _ gr (ae s.L.name) (.slice A n c) (.slice A' n' c') (.slice A'' n'' c'') fa.2 (H3.out.bel1 ((Below.refl _ w3).setCell (p:=⟨gj,1,none⟩) hlj (.int .i64 fa.1))) [59]).mono ?_);rintro e w6 ⟨rfl,h6,hg6⟩;have G6:=Qh (aA (cX G3 ((Below.refl _ w3).setCell (p:=⟨gj,1,none⟩) hw2 (.int .i64 fa.1))) hg6);have p6:=bK hg6 (P3.out.set_ 1 (.int .i64 fa.1)) (by omega);have H6:=Qh h6;have P6:=Qh p6;have HC:=Qh (show DrC w6 [ae s.word.2.word.1,.int .i64 fa.1] ⟨s.word.2.word.1,fa.1⟩ from ⟨rfl,HNM.out⟩);have DR6:=Qh (DR1.out.tch (H1.out.tchR G6.out) (by decide) (fun _ _ x=>x));clear h6 hg6 p6;go_wp2_with fail;change Code.wp _ _ _ (eN _ _ _ _ _ _ _ _ _ _ _ _ _ _ _ _ _ _ _ _ _ _ _ _ _ _ _ _ _ _ _ _ _ _ _ _ _ _ _ _ _ _ _ _ _ _ _ _ _ _ _ _ _ _ _ _ _ _ _ _ _ _ _ _ _ _ _ _ _ _ _ _ _ _ _ _ _ _ _ _ _ (fun _=>undef)) _;refine dq (n:=12) (a:=7) (K:=2) (x0:=fun _=>undef) (R:=fun ri=>List.getD ((VE (.pointer (some ⟨gr,0,none⟩))) :: (VE (.pointer (some ⟨gr,0,none⟩))) :: (VE (.pointer (some ⟨gr,0,none⟩))) :: (VE (.pointer (some ⟨gr,1,none⟩))) :: (VE (.pointer (some ⟨gr,4,none⟩))) :: (VE (.slice A'' n'' c'')) :: (VE (.agg #[ae s.word.2.word.1,.int .i64 fa.1])) :: VA :: VA :: (VE (.pointer (some ⟨gr,0,none⟩))) :: (VE (.pointer (some ⟨gr,1,none⟩))) :: (VE (.pointer (some ⟨gr,4,none⟩))) :: []) ri VA) (T:=fun k x wq=>TJ_ 86 DrC 2 B gj w6 [ae s.word.2.word.1,.int .i64 fa.1] ⟨s.word.2.word.1,fa.1⟩ n'' s.L.drivers k (x 7) (x 8) wq) (by kernel_rfl) rfl ?_ ?_ ?_ (by decide) ?_ ?_ rfl ?_ ?_ ?_
 ·exact aH ⟨(fun _ _ _=>rfl),(fun _ _ _=>rfl),(fun _ _ _=>rfl),(fun _ _ _=>rfl),(fun _ _ _=>rfl),(fun _ _ _=>rfl),(fun _ _ _=>rfl),(fun _ _ _=>rfl),(fun _ _ _=>rfl),(fun _ _ _=>rfl),(fun _ _ _=>rfl),(fun _ _ _=>rfl),(fun h=>absurd h (by decide)),trivial⟩
 ·exact aH (bT _ 0 (by kernel_rfl))
 ·exact (fun j hj=>jl (by kernel_rfl) hj)
 ·intro j o hj ho
  obtain rfl:j=0:=by omega
  injection ho with ho;subst ho;exact ⟨⟨7,.data⟩,by simp,rfl,rfl⟩
 ·intro k x i v w hi h
  have e7:upd x i v 7=x 7:=bm _ _ (by omega);have e8:upd x i v 8=x 8:=bm _ _ (by omega);simp only [e7,e8];exact h
 ·refine aH ⟨?_,?_,?_,?_,?_,?_,?_,(fun _ h=>absurd h (by decide)),(fun _ h=>absurd h (by decide)),?_,?_,?_,(fun h=>absurd h (by decide)),trivial⟩
  ·intro _ _ k xf wq hT hd K hK
   (try dsimp only [eN]);go_simp;have hz:=hK.out _ rfl;exact hz
  ·intro _ _ k xf wq hT hd K hK
   (try dsimp only [eN]);go_simp;have hz:=hK.out _ rfl;exact hz
  ·intro _ _ k xf wq hT hd K hK
   have dq1:xf 1=.pointer (some ⟨gr,0,none⟩):=hd ⟨1,.data⟩ (by simp) rfl;(try dsimp only [eN]);(try simp only [dq1]);go_simp;have hz:=hK.out _ rfl;dsimp only [eN] at hz;simp only [dq1] at hz;exact hz
  ·intro _ _ k xf wq hT hd K hK
   have dq2:xf 2=.pointer (some ⟨gr,0,none⟩):=hd ⟨2,.data⟩ (by simp) rfl;(try dsimp only [eN]);(try simp only [dq2]);go_simp;have hz:=hK.out _ rfl;dsimp only [eN] at hz;simp only [dq2] at hz;exact hz
  ·intro _ _ k xf wq hT hd K hK
   have dq3:xf 3=.pointer (some ⟨gr,1,none⟩):=hd ⟨3,.data⟩ (by simp) rfl;(try dsimp only [eN]);(try simp only [dq3]);go_simp;have hz:=hK.out _ rfl;dsimp only [eN] at hz;simp only [dq3] at hz;exact hz
  ·intro _ _ k xf wq hT hd K hK
   have dq4:xf 4=.pointer (some ⟨gr,4,none⟩):=hd ⟨4,.data⟩ (by simp) rfl;have hc2:=(TJ_.rd (by decide) H6.out hT).cells;obtain ⟨_,hc2,hc3,hc4,_⟩:=hc2;(try dsimp only [eN]);(try simp only [dq4]);go_simp;have hz:=hK.out _ rfl;dsimp only [eN] at hz;simp only [dq4] at hz;exact hz
  ·intro _ _ k xf wq hT hd K hK
   obtain ⟨hd0,hd1⟩:=(TJ_.blk P6.out hT).c2;(try dsimp only [eN]);go_simp;have hz:=hK.out _ rfl;exact hz
  ·intro _ _ k xf wq hT hd K hK
   have dq0:xf 0=.pointer (some ⟨gr,0,none⟩):=hd ⟨0,.data⟩ (by simp) rfl;(try dsimp only [eN]);(try simp only [dq0]);go_simp;have hz:=hK.out _ rfl;dsimp only [eN] at hz;simp only [dq0] at hz;exact hz
  ·intro _ _ k xf wq hT hd K hK
   have dq9:xf 9=.pointer (some ⟨gr,0,none⟩):=hd ⟨9,.data⟩ (by simp) rfl;(try dsimp only [eN]);(try simp only [dq9]);go_simp;have hz:=hK.out _ rfl;dsimp only [eN] at hz;simp only [dq9] at hz;exact hz
  intro _ _ k xf wq hT hd K hK;have dq10:xf 10=.pointer (some ⟨gr,1,none⟩):=hd ⟨10,.data⟩ (by simp) rfl;(try dsimp only [eN]);(try simp only [dq10]);go_simp;have hz:=hK.out _ rfl;dsimp only [eN] at hz;simp only [dq10] at hz;exact hz
 ·intro k o hk ho
  obtain rfl | rfl:=(show k=0∨k=1 by omega)
  ·injection ho with ho
   subst ho;intro xf wq hT hd K hK;have hT:wq=w6.drew:=hT;subst hT;have dq6:xf 6=.agg #[ae s.word.2.word.1,.int .i64 fa.1]:=hd ⟨6,.data⟩ (by simp) rfl;(try dsimp only [eN]);(try simp only [dq6]);go_simp;have hz:=hK.out (.slice (some ⟨w6.heap.size,0,none⟩) 1 1) (w6.drew.alloc (.cells #[ae s.word.2.word.1,.int .i64 fa.1] 86)) trivial ⟨rfl,rfl⟩;dsimp only [eN] at hz;simp only [dq6] at hz;exact hz
  injection ho with ho;subst ho;intro xf wq hT hd K hK;obtain ⟨e7,ew⟩:TJ_ 86 DrC 2 B gj w6 [ae s.word.2.word.1,.int .i64 fa.1] ⟨s.word.2.word.1,fa.1⟩ n'' s.L.drivers 1 (xf 7) (xf 8) wq:=hT;subst ew;have dq5:xf 5=.slice A'' n'' c'':=hd ⟨5,.data⟩ (by simp) rfl;obtain ⟨hl,xs,hown,hrow⟩:=DR6.out;have hown:OwJ noW w6.drew B 86 2 (.slice A'' n'' c'') n'' xs:=hown;have hrow:cl DrC 2 w6.drew s.L.drivers xs:=hrow;have hlt:=H6.out.lt;have hBg:=H6.out.hB;have hds:w6.drew.heap.size=w6.heap.size:=rfl;rw [if_pos (show Region.wanted _ _=true from rfl)];refine cd _ noW _ _ _ rfl B 86 id (.agg #[.string ⟨#[]⟩,.int .i64 0]) 2 24 Tryz.underlying24 HID.out.1 HID.out.2.1 HID.out.2.2.1 HID.out.2.2.2 rfl (by omega) rfl (.slice A'' n'' c'') n'' xs dq5 (hown.belw ((Below.refl _ _).alloc Qr _)) ⟨w6.heap.size,0,none⟩ 1 1 [ae s.word.2.word.1,.int .i64 fa.1] e7 rfl (World.news_of_block (heap_alloc_new w6.drew _)) (by simp [Value.oneCell']) rfl (by omega) (by have:=HP.out.cnt;unfold maxLen;omega) (by have:=HP.out.cnt;omega) (by simp;omega) ?_;intro g5 cap w5 hown5 hgrow _;have hp:=jm hl hown hrow (a:=⟨s.word.2.word.1,fa.1⟩) (cs:=[ae s.word.2.word.1,.int .i64 fa.1]) (show DrC w6.drew _ (⟨s.word.2.word.1,fa.1⟩:aQ) from HC.out) rfl hown5 hgrow (by omega) (fun _ _ _ _ x=>x);exact hK.out _ _ trivial ⟨some ⟨g5,0,none⟩,cap,rfl,hp.1,(P6.out.drew.alloc _).grown hgrow HNE.out,hp.2.1,((Below.refl B w6).drew).trans hp.2.2⟩
 intro o ho xf wq hT hr K hK;injection ho with ho;subst ho;obtain ⟨A5,c5,e8,hrow,_,ht,hb⟩:TJ_ 86 DrC 2 B gj w6 [ae s.word.2.word.1,.int .i64 fa.1] ⟨s.word.2.word.1,fa.1⟩ n'' s.L.drivers 2 (xf 7) (xf 8) wq:=hT;have dq11:xf 11=.pointer (some ⟨gr,4,none⟩):=hr 11 (by decide);have RQ:=H6.out.other ht (by decide) hb;obtain ⟨_,hc2,hc3,hc4,_,hf2,hf3,hf4⟩:=RQ.cells;rw [e8] at hrow;have RQ':=Qh RQ;have HROW:=Qh hrow;clear RQ hrow hr;(try dsimp only [eN]);(try simp only [dq11,e8]);go_simp;refine hK.out _ _ ?_;go_wp2_with fail;go_end0;have t1:=H1.out.tchR G6.out;have t3:=RQ'.out.tchR (dZ (rg_refl gr wq) 4 (.slice A5 (n''+1) c5));have hst:=HSA.out.trans (aI fa.2 2 [59]);have hL:(PS.expect fa.2 2 [59]).L=s.L:=hst.2.2.2.trans HL1.out;have htk:=gJ (s:=s) (by rw [HW1.out];decide);have hst1:=hst.1
 have eW:W=PS.addD (PS.expect fa.2 2 [59]) ⟨s.word.2.word.1,fa.1⟩:=by
  rw [← HW.out];unfold PS.item;rw [if_neg (by rw [HW1.out];decide),if_neg (by rw [HW1.out];decide),if_neg (by rw [HW1.out];decide),if_pos HW1.out];unfold PS.driver;simp only [HFA.out]
 subst eW;refine ⟨rfl,⟨A,n,c,A',n',c',A5,n''+1,c5,⟨?_,?_,?_,?_,?_,?_,?_⟩⟩,?_⟩
 ·show RdP B _ gr (ae (PS.expect fa.2 2 [59]).L.name) _ _ _ _
  rw [hL];exact RQ'.out.put4 _ rfl rfl rfl
 ·show ay _ _ _ _ _ _ _ (PS.expect fa.2 2 [59]).L.bodies
  rw [hL];exact ((BD1.out.tch t1 (by decide) (fun _ _ x=>x.tch t1 (by decide))).tch ht (by decide) (fun _ _ x=>x.tch ht (by decide))).tch t3 (by decide) (fun _ _ x=>x.tch t3 (by decide))
 ·show ay _ _ _ _ _ _ _ (PS.expect fa.2 2 [59]).L.joints
  rw [hL];exact ((JT1.out.tch t1 (by decide) (fun _ _ x=>x)).tch ht (by decide) (fun _ _ x=>x)).tch t3 (by decide) (fun _ _ x=>x)
 ·show ay _ _ _ _ _ _ _ ((PS.expect fa.2 2 [59]).L.drivers ++ [⟨s.word.2.word.1,fa.1⟩])
  rw [hL];exact HROW.out.tch t3 (by decide) (fun _ _ x=>x)
 ·show NmL (PS.expect fa.2 2 [59]).L.name
  rw [hL];exact HP.out.nm
 ·show n+n'+(n''+1)+(PS.expect fa.2 2 [59]).toks.length≤_
  have h1:=HP.out.cnt;omega
 ·intro b hbm
  have hbm:b∈(PS.expect fa.2 2 [59]).L.bodies:=hbm;rw [hL] at hbm;exact HP.out.pts b hbm
 exact ((BW1.out.trans (d8 G6.out (by have:=H1.out.lt;have:=H1.out.hB;omega) H1.out.hB)).trans hb).setCell (p:=⟨gr,4,none⟩) H1.out.hB _
theorem m7 (B:Nat) (w:World) (gr:Nat) (s:PS) (A:Option Addr) (n c:Nat) (A':Option Addr) (n' c':Nat) (A'':Option Addr) (n'' c'':Nat) (h:RdL B w gr s A n c A' n' c' A'' n'' c'') (k1:s.word.1≠kP) (k2:s.word.1≠sN) (k3:s.word.1≠jR) (k4:s.word.1≠gG):Calls Tryz.prog 73 #[.pointer (some ⟨gr,0,none⟩)] w (mo B w gr s.item):=by
 have hb0:(s.word.1 == [98,111,100,121])=false:=beq_eq_false_iff_ne.2 k1;have hb1:(s.word.1 == [112,105,110])=false:=beq_eq_false_iff_ne.2 k2;have hb2:(s.word.1 == [115,108,105,100,101])=false:=beq_eq_false_iff_ne.2 k3;have hb3:(s.word.1 == [100,114,105,118,101,114])=false:=beq_eq_false_iff_ne.2 k4;have HK:=Qh (show s.item=s.word.2.fail 2 by unfold PS.item;rw [if_neg k1,if_neg k2,if_neg k3,if_neg k4]);clear k1 k2 k3 k4;obtain ⟨i0,hi0,hz0,hz1,hz2⟩:=info_parts gN;obtain ⟨ij,hj0,hj1,hj2,hj3⟩:=info_parts gP;obtain ⟨id,hd0,hd1,hd2,hd3⟩:=info_parts gQ;have HI:=Qh (And.intro hi0 (And.intro hz0 (And.intro hz1 hz2)));have HIJ:=Qh (And.intro hj0 (And.intro hj1 (And.intro hj2 hj3)));have HID:=Qh (And.intro hd0 (And.intro hd1 (And.intro hd2 hd3)));clear hi0 hz0 hz1 hz2 hj0 hj1 hj2 hj3 hd0 hd1 hd2 hd3;have HL1:=Qh (aw s).2.2.2;have HL2:=Qh ((aw s).trans (aw s.word.2)).2.2.2;have HP:=Qh h;obtain ⟨W,hW⟩:∃ W,s.item=W:=⟨_,rfl⟩;rw [hW];have HW:=Qh hW;clear h hW;go_in;go_wp2_with fail;(with_reducible refine (ct B _ gr (ae s.L.name) (.slice A n c) (.slice A' n' c') (.slice A'' n'' c'') s HP.out.rd).mono ?_);rintro e w1 ⟨rfl,h1,hg1⟩;have H1:=Qh h1;have hgl:=h1.lt;have BW1:=Qh (d8 hg1 (B:=B) (by have:=HP.out.rd.lt;have:=HP.out.rd.hB;omega) HP.out.rd.hB);have t0:=HP.out.rd.tchR hg1;have BD1:=Qh (HP.out.bd.tch t0 (by decide) (fun _ _ x=>x.tch t0 (by decide)));have JT1:=Qh (HP.out.jt.tch t0 (by decide) (fun _ _ x=>x));have DR1:=Qh (HP.out.dr.tch t0 (by decide) (fun _ _ x=>x));obtain ⟨Ak,nk,ck,hbk,_⟩:=h1.blk;have HBk:=Qh hbk;clear h1 hg1 t0 hbk;have hn:=aV s.word.1;have HB1:=HBk.out;clear HBk;obtain ⟨Ak,nk,ck,hbk,htk⟩:=H1.out.blk;have HBk:=Qh hbk;have HTk:=Qh htk;clear hbk htk HB1;go_wp2_with fail;(with_reducible refine (eF _ gr (.slice Ak nk ck) (ae s.L.name) (.slice A n c) (.slice A' n' c') (.slice A'' n'' c'') s.word.2.x 2 HBk.out (by decide)).mono ?_);rintro e w2 ⟨rfl,hb2,g2⟩;have HB2:=Qh hb2;clear hb2;go_wp2_with fail;go_end0;have t1:=H1.out.tchR g2;have eW:W=s.word.2.fail 2:=by rw [← HW.out,HK.out]
 have R2:RdP B w2 gr (ae s.L.name) (.slice A n c) (.slice A' n' c') (.slice A'' n'' c'') (s.word.2.fail 2):=by
  have hb2:=HB2.out;unfold PS.fail;split
  ·rename_i hx
   rw [if_pos hx] at hb2;exact ⟨⟨Ak,nk,ck,hb2,HTk.out.rg H1.out.hB g2⟩,H1.out.mx.rg H1.out.hB g2,H1.out.hB,H1.out.len,H1.out.txt,H1.out.hw⟩
  rename_i hx;rw [if_neg hx] at hb2;exact ⟨⟨Ak,nk,ck,hb2,HTk.out.rg H1.out.hB g2⟩,H1.out.mx.rg H1.out.hB g2,H1.out.hB,H1.out.len,H1.out.txt,H1.out.hw⟩
 have hst:=(aw s).trans (dX s.word.2 2 (by decide) 0);have hL:(s.word.2.fail 2).L=s.L:=hst.2.2.2;subst eW;refine ⟨rfl,⟨A,n,c,A',n',c',A'',n'',c'',⟨by rw [hL];exact R2,?_,?_,?_,by rw [hL];exact HP.out.nm,?_,by rw [hL];exact HP.out.pts⟩⟩,?_⟩
 ·rw [hL];exact BD1.out.tch t1 (by decide) (fun _ _ x=>x.tch t1 (by decide))
 ·rw [hL];exact JT1.out.tch t1 (by decide) (fun _ _ x=>x)
 ·rw [hL];exact DR1.out.tch t1 (by decide) (fun _ _ x=>x)
 ·have h1:=HP.out.cnt
  have h2:=hst.1;omega
 exact BW1.out.trans (d8 g2 (by have:=H1.out.lt;have:=H1.out.hB;omega) H1.out.hB)
theorem xF (B:Nat) (w:World) (gr:Nat) (s:PS) (A:Option Addr) (n c:Nat) (A':Option Addr) (n' c':Nat) (A'':Option Addr) (n'' c'':Nat) (h:RdL B w gr s A n c A' n' c' A'' n'' c''):Calls Tryz.prog 73 #[.pointer (some ⟨gr,0,none⟩)] w (mo B w gr s.item):=by
 by_cases h1:s.word.1=kP
 ·exact mZ B w gr s A n c A' n' c' A'' n'' c'' h h1
 by_cases h2:s.word.1=sN
 ·exact pd B w gr s A n c A' n' c' A'' n'' c'' h h2
 by_cases h3:s.word.1=jR
 ·exact lC B w gr s A n c A' n' c' A'' n'' c'' h h3
 by_cases h4:s.word.1=gG
 ·exact kX B w gr s A n c A' n' c' A'' n'' c'' h h4
 exact m7 B w gr s A n c A' n' c' A'' n'' c'' h h1 h2 h3 h4
theorem vp:∀ (f:Nat) (r:List UInt8) (line col:Nat) (l:List Tkn),toks f r line col=.ok l→(l.map fun t=>t.text.length).sum≤r.length∧∀ t∈l,0 < t.text.length:=by
 intro f
 induction f with
 | zero=>intro r line col l h;unfold toks at h;injection h with h;subst h;simp
 | succ f ih =>
  intro r line col l h
  cases r with
  | nil=>unfold toks at h;injection h with h;subst h;simp
  | cons c s =>
   unfold toks at h;split at h
   ·have:=ih _ _ _ _ h
    refine ⟨?_,this.2⟩;rw [List.length_cons];omega
   split at h
   ·have:=ih _ _ _ _ h
    refine ⟨?_,this.2⟩;rw [List.length_cons];omega
   split at h
   ·have:=ih _ _ _ _ h
    refine ⟨?_,this.2⟩;rw [List.length_drop] at this;omega
   split at h
   ·cases h
   rename_i k n hf;have hn:=eY hf
   cases hx:toks f ((c :: s).drop n) line (col+n) with
   | err x=>rw [hx] at h;cases h
   | ok l' =>
    rw [hx] at h;injection h with h;subst h;have:=ih _ _ _ _ hx;have hl:((c :: s).take n).length=n:=by rw [List.length_take];omega
    rw [List.length_drop] at this;refine ⟨?_,fun t ht=>?_⟩
    ·simp only [List.map_cons,List.sum_cons,hl];omega
    rcases List.mem_cons.1 ht with e | e
    ·subst e;show 0 < ((c :: s).take n).length;omega
    exact this.2 t e
theorem kY:∀ {l:List Tkn},(∀ t∈l,0 < t.text.length)→l.length≤(l.map fun t=>t.text.length).sum
 | [],_=>by simp
 | t :: l,h=>by
  have h1:=kY (l:=l) (fun x hx=>h x (by simp [hx]));have h2:=h t (by simp);simp only [List.length_cons,List.map_cons,List.sum_cons];omega
theorem kZ {s:List UInt8}{l:List Tkn}(h:dV s=.ok l):l.length≤s.length∧(l.map fun t=>t.text.length).sum≤s.length:=by
 obtain ⟨h1,h2⟩:=vp _ _ _ _ _ h;have:=kY h2;omega
theorem bh.len {s:List UInt8}{x:Int}{l:List Tkn}(h:bh s x l):l.length≤65536:=by
 rcases h with ⟨_,_,rfl⟩ | ⟨h,ht,_⟩ | ⟨_,_,_,_,rfl⟩
 ·simp
 ·have:=(kZ ht).1;omega
 simp
def LkY (k:Nat) (w:World) (A:Option Addr) (n c:Nat) (B:Option Addr) (p d:Nat) (C:Option Addr) (q e:Nat) (L:ai):Prop :=
  ∀ (T:TypeId→Bool) (w2:World),Tch T w w2→T 51=false→T 81=false→T 86=false→T 56=false→LkS k w2 A n c B p d C q e L
theorem LkY.out {k:Nat}{w:World}{A B C:Option Addr}{n c p d q e:Nat}{L:ai}(h:LkY k w A n c B p d C q e L):LkS k w A n c B p d C q e L:=h (fun _=>false) w (Tch.refl w) rfl rfl rfl rfl
theorem LkY.tch {T:TypeId→Bool}{k:Nat}{w w':World}{A B C:Option Addr}{n c p d q e:Nat}{L:ai}(h:LkY k w A n c B p d C q e L) (t:Tch T w w') (h1:T 51=false) (h2:T 81=false) (h3:T 86=false) (h4:T 56=false):LkY k w' A n c B p d C q e L:=by
 intro T2 w2 t2 g1 g2 g3 g4;refine h (fun t=>T t || T2 t) w2 ((t.mono fun _ ht=>by simp [ht]).trans (t2.mono fun _ ht=>by simp [ht])) ?_ ?_ ?_ ?_ <;> simp [h1,h2,h3,h4,g1,g2,g3,g4]
def la (w:World) (v:Value) (L:ai) (e:Ending) (w':World):Prop :=
  ∃ A n c A' n' c' A'' n'' c'',e=.returned (.tuple #[.agg #[ae L.name,.slice A n c,.slice A' n' c',.slice A'' n'' c''],v])∧LkY 130 w' A n c A' n' c' A'' n'' c'' L∧Below w.heap.size w w'
theorem xG {l:List Tkn}{t:Tkn}(h:t∈l):t.text.length≤(l.map fun t=>t.text.length).sum:=by
 induction l with
 | nil=>cases h
 | cons a l ih =>
  rw [List.map_cons,List.sum_cons];rcases List.mem_cons.1 h with rfl | h
  ·omega
  have:=ih h;omega
theorem sS {s:List UInt8}{l:List Tkn}(h:bh s 0 l):∀ t∈l,NmL t.text:=by
 intro t ht;rcases h with ⟨_,h,_⟩ | ⟨h,hk,_⟩ | ⟨_,_,_,_,rfl⟩
 ·cases h
 ·have h1:=(kZ hk).2
  have h2:=xG ht;show t.text.length < _;omega
 cases ht
theorem m8 (w:World) (k:Nat):LkS k w none 0 0 none 0 0 none 0 0 L0:=⟨by show ([]:List UInt8).length < _;decide,⟨rfl,Qr,fun h=>absurd h (by omega)⟩,⟨rfl,Qr,fun h=>absurd h (by omega)⟩,⟨rfl,Qr,fun h=>absurd h (by omega)⟩⟩
theorem LkY.zero (k:Nat) (w:World):LkY k w none 0 0 none 0 0 none 0 0 L0:=fun _ w2 _ _ _ _ _=>m8 w2 k
theorem vr {w:World}{A:Option Addr}{n c:Nat}{s:List UInt8}{l:List Tkn}(hs:bh s 0 l) (ht:TkS w A n c l) (hmx:Mx w) (L:ai) (hL:L.name=[]∧L.bodies=[]∧L.joints=[]∧L.drivers=[]):RdL w.heap.size (w.alloc (.cells #[.slice A n c,.string ⟨#[]⟩,.slice none 0 0,.slice none 0 0,.slice none 0 0,.nilIface] 118)) w.heap.size ⟨l,L,0⟩ none 0 0 none 0 0 none 0 0:=by
 obtain ⟨h1,h2,h3,h4⟩:=hL;have hb:Below w.heap.size w (w.alloc (.cells #[.slice A n c,.string ⟨#[]⟩,.slice none 0 0,.slice none 0 0,.slice none 0 0,.nilIface] 118)):=(Below.refl _ _).alloc Qr _;refine ⟨⟨⟨A,n,c,?_,(TkA.of_tks ht).belB hb⟩,(MxA.of_mx hmx).belB hb,Qr,hs.len,sS hs,by rw [h1];exact ⟨rfl,rfl,rfl,rfl⟩⟩,by rw [h2];exact ay.nil,by rw [h3];exact ay.nil,by rw [h4];exact ay.nil,by rw [h1];show ([]:List UInt8).length < _;decide,?_,by rw [h2];intro b hb;cases hb⟩
 ·rw [h1];exact Blk.new _ _ _
 have:=hs.len;show 0+0+0+l.length≤_;omega
theorem RdL.lk {B:Nat}{w:World}{gr:Nat}{s:PS}{A A' A'':Option Addr}{n c n' c' n'' c'':Nat}(h:RdL B w gr s A n c A' n' c' A'' n'' c''):LkS 130 w A n c A' n' c' A'' n'' c'' s.L:=⟨h.nm,h.bd.bds,h.jt.jts,h.dr.drs⟩
theorem RdL.call {B:Nat}{w w':World}{gr:Nat}{s s':PS}{A A' A'':Option Addr}{n c n' c' n'' c'':Nat}(h:RdL B w gr s A n c A' n' c' A'' n'' c'') (h':RdP B w' gr (ae s.L.name) (.slice A n c) (.slice A' n' c') (.slice A'' n'' c'') s') (k:w.grownBy w' (some gr)) (hL:s'.L=s.L) (hl:s'.toks.length≤s.toks.length):RdL B w' gr s' A n c A' n' c' A'' n'' c'':=by
 have t:=h.rd.tchR k;exact ⟨by rw [hL];exact h',by rw [hL];exact h.bd.tch t (by decide) (fun _ _ x=>x.tch t (by decide)),by rw [hL];exact h.jt.tch t (by decide) (fun _ _ x=>x),by rw [hL];exact h.dr.tch t (by decide) (fun _ _ x=>x),by rw [hL];exact h.nm,by have:=h.cnt;omega,by rw [hL];exact h.pts⟩
theorem RdL.below {B:Nat}{w w':World}{gr:Nat}{s:PS}{A A' A'':Option Addr}{n c n' c' n'' c'':Nat}(h:RdL B w gr s A n c A' n' c' A'' n'' c'') (k:w.grownBy w' (some gr)):Below B w w':=d8 k (by have:=h.rd.lt;have:=h.rd.hB;omega) h.rd.hB
theorem RdL.name {B:Nat}{w:World}{gr:Nat}{s:PS}{A A' A'':Option Addr}{n c n' c' n'' c'':Nat}(h:RdL B w gr s A n c A' n' c' A'' n'' c'') (nm:List UInt8) (hn:NmL nm):RdL B (w.setCell ⟨gr,1,none⟩ (ae nm)) gr { s with L:={ s.L with name:=nm } } A n c A' n' c' A'' n'' c'':=by
 have t:=h.rd.tchR (dZ (rg_refl gr w) 1 (ae nm));exact ⟨h.rd.put1 _ rfl rfl rfl,h.bd.tch t (by decide) (fun _ _ x=>x.tch t (by decide)),h.jt.tch t (by decide) (fun _ _ x=>x),h.dr.tch t (by decide) (fun _ _ x=>x),hn,h.cnt,h.pts⟩
theorem RdL.belw {B:Nat}{w w':World}{gr:Nat}{s:PS}{A A' A'':Option Addr}{n c n' c' n'' c'':Nat}(h:RdL B w gr s A n c A' n' c' A'' n'' c'') (k:Below w.heap.size w w'):RdL B w' gr s A n c A' n' c' A'' n'' c'':=by
 have t:Tch (fun _=>false) w w':=Tch.below k;exact ⟨h.rd.belw k,h.bd.tch t rfl (fun _ _ x=>x.tch t rfl),h.jt.tch t rfl (fun _ _ x=>x),h.dr.tch t rfl (fun _ _ x=>x),h.nm,h.cnt,h.pts⟩
theorem RdL.lkY {B:Nat}{w w':World}{gr:Nat}{s:PS}{A A' A'':Option Addr}{n c n' c' n'' c'':Nat}(h:RdL B w gr s A n c A' n' c' A'' n'' c'') (t:Tch (bQ 26) w w'):LkY 130 w' A n c A' n' c' A'' n'' c'' s.L:=by
 intro T w2 t2 h1 h2 h3 h4;have u:Tch (fun x=>bQ 26 x || T x) w w2:=(t.mono fun _ k=>by simp [k]).trans (t2.mono fun _ k=>by simp [k]);have e1:(bQ 26 51 || T 51)=false:=by rw [h1];decide
 have e2:(bQ 26 81 || T 81)=false:=by rw [h2];decide
 have e3:(bQ 26 86 || T 86)=false:=by rw [h3];decide
 have e4:(bQ 26 56 || T 56)=false:=by rw [h4];decide
 exact ⟨h.nm,(h.bd.tch u e1 (fun _ _ x=>x.tch u e4)).bds,(h.jt.tch u e2 (fun _ _ x=>x)).jts,(h.dr.tch u e3 (fun _ _ x=>x)).drs⟩
theorem pe {w:World}{g:Nat}{t:TypeId}{a0 a1 a2 a3:Value}(z:Blk w g t #[a0,a1,a2,a3]) (hz:noW a0=true∧noW a1=true∧noW a2=true∧noW a3=true) (u0 u1 u2 u3:Value):Tch (bQ t) w ((((w.setCell ⟨g,0,none⟩ u0).setCell ⟨g,1,none⟩ u1).setCell ⟨g,2,none⟩ u2).setCell ⟨g,3,none⟩ u3) :=
 Tch.of_ne (by simp [World.setCell]) z (by simp [bQ]) (by simp [hz]) fun g' _ hne=>by
  rw [Below.heap_setCell _ _ _ _ hne,Below.heap_setCell _ _ _ _ hne,Below.heap_setCell _ _ _ _ hne,Below.heap_setCell _ _ _ _ hne]
theorem lb {B g:Nat}{a w:World}(h:Below B a w) (hB:B≤g) (u0 u1 u2 u3:Value):Below B a ((((w.setCell ⟨g,0,none⟩ u0).setCell ⟨g,1,none⟩ u1).setCell ⟨g,2,none⟩ u2).setCell ⟨g,3,none⟩ u3) :=
 (((h.setCell (p:=⟨g,0,none⟩) hB u0).setCell (p:=⟨g,1,none⟩) hB u1).setCell (p:=⟨g,2,none⟩) hB u2).setCell (p:=⟨g,3,none⟩) hB u3
theorem pf (w:World) (s:List UInt8) (x:Int) (l:List Tkn) (hs:bh s x l) (hx:x≠0):Calls Tryz.prog 35 #[ae s] w (la w (be x) L0):=by
 have HS:=Qh hs;have HX:=Qh hx;rw [eVp hx];clear hs hx;go_in;go_wp2_with fail;(with_reducible refine (mj _ s x l HS.out).mono ?_);rintro e w1 ⟨A,n,c,rfl,_,hb1⟩;rw [eVp HX.out];have z1:Blk w1 w.heap.size 26 #[.string ⟨#[]⟩,.slice none 0 0,.slice none 0 0,.slice none 0 0]:=(ak _ _ _ (by simp)).below hb1 (by simp);have cz0:=z1.c4;have fz0:=z1.f4;have q1:=hb1.q1;clear hb1 z1;go_wp2_with fail;refine bodyPost_ret (v:=.tuple #[.agg #[.string ⟨#[]⟩,.slice none 0 0,.slice none 0 0,.slice none 0 0],.iface 58 (.int .i64 x)]) (by simp [results,Tryz.results35,go_sem, *] <;> trivial) rfl ?_;exact ⟨_,_,_,_,_,_,_,_,_,rfl,LkY.zero _ _,(((q1.setCell (p:=⟨w.heap.size,0,none⟩) Qr _).setCell (p:=⟨w.heap.size,1,none⟩) Qr _).setCell (p:=⟨w.heap.size,2,none⟩) Qr _).setCell (p:=⟨w.heap.size,3,none⟩) Qr _⟩
theorem fV (w:World) (s:List UInt8) (l:List Tkn) (hmx:Mx w) (hs:bh s 0 l) (x:Int) (L:ai) (h:((cV l).x≠0∧x=(cV l).x∧L=L0)∨((cV l).x=0∧bZ (cV l).L≠0∧x=bZ (cV l).L∧L=L0)∨((cV l).x=0∧bZ (cV l).L=0∧x=0∧L=(cV l).L)):Calls Tryz.prog 35 #[ae s] w (la w (be x) L):=by
 have HS:=Qh hs;have HM:=Qh hmx;obtain ⟨R,hR⟩:∃ R,cV l=R:=⟨_,rfl⟩;rw [hR] at h;have HR:=Qh hR;have HH:=Qh h;clear hs hmx hR h;go_in;go_wp2_with fail;(with_reducible refine (mj _ s 0 l HS.out).mono ?_);rintro e w1 ⟨A,n,c,rfl,ht,hb1⟩;rw [bo];have z1:Blk w1 w.heap.size 26 #[.string ⟨#[]⟩,.slice none 0 0,.slice none 0 0,.slice none 0 0]:=(ak _ _ _ (by simp)).below hb1 (by simp);have q1:=hb1.q1;have hz1:=z1.lt;have H1:=Qh (vr HS.out ht (HM.out.belw q1) L0 ⟨rfl,rfl,rfl,rfl⟩);have Z1:=Qh (z1.alloc (.cells #[.slice A n c,.string ⟨#[]⟩,.slice none 0 0,.slice none 0 0,.slice none 0 0,.nilIface] 118));have Q1:=Qh (q1.alloc q1.size (.cells #[.slice A n c,.string ⟨#[]⟩,.slice none 0 0,.slice none 0 0,.slice none 0 0,.nilIface] 118));clear hb1 z1 q1 ht;go_wp2_with fail;(with_reducible refine (ml w1.heap.size _ w1.heap.size _ _ _ _ ⟨l,L0,0⟩ H1.out.rd 0 0 rfl [108,105,110,107,97,103,101]).mono ?_);rintro e w2 ⟨rfl,h2,hg2⟩;have H2:=Qh (H1.out.call h2 hg2 (aI _ 0 _).sameL (aI _ 0 _).1);have B2:=H1.out.below hg2;have Z2:=Qh (Z1.out.below B2 hz1);have Q2:=Qh (Q1.out.trans (B2.mono (by omega)));have hl2:=h2.lt;clear h2 hg2 B2 Z1 Q1 H1;generalize hgr:w1.heap.size=gr at hz1 H2 hl2 ⊢;have hs1:(⟨l,L0,0⟩:PS).expect 0 [108,105,110,107,97,103,101]=(⟨l,L0,0⟩:PS).expect 0 bC:=rfl;rw [hs1] at H2;clear hs1;have HR1:=HR.out;unfold cV at HR1;simp only at HR1;have hst1:=aI (⟨l,L0,0⟩:PS) 0 bC;generalize (⟨l,L0,0⟩:PS).expect 0 bC=s1 at H2 HR1 hst1;have HR2:=Qh HR1;have HST1:=Qh hst1;clear HR1 hst1 HR;go_wp2_with fail;(with_reducible refine (ct gr _ gr _ _ _ _ s1 H2.out.rd).mono ?_);rintro e w3 ⟨rfl,h3,hg3⟩;have hnm:=fA H2.out.rd.txt;have H3:=Qh (H2.out.call h3 hg3 (aw _).sameL (aw _).1);have B3:=H2.out.below hg3;have Z3:=Qh (Z2.out.below B3 hz1);have Q3:=Qh (Q2.out.trans (B3.mono (by omega)));have H3n:=Qh (H3.out.name s1.word.1 hnm);have hl3:=h3.lt;obtain ⟨cn1,_,_,_,fn1,_⟩:=h3.cells;clear h3 hg3 B3 hnm;go_wp2_with fail;clear cn1 fn1;(with_reducible refine (dH gr _ gr _ _ _ _ _ H3n.out.rd [59]).mono ?_);rintro e w4 ⟨rfl,h4,hg4⟩;have H4:=Qh (H3n.out.call h4 hg4 (aI _ 2 _).sameL (aI _ 2 _).1);have B4:=H3n.out.below hg4;have hz3:=Z3.out.far (p:=⟨gr,1,none⟩) (by show w.heap.size≠gr;omega) (ae s1.word.1);have Z4:=Qh (hz3.below B4 hz1);have Q4:=Qh ((Q3.out.setCell (p:=⟨gr,1,none⟩) (by show w.heap.size≤gr;omega) (ae s1.word.1)).trans (B4.mono (by omega)))
 have hlen:s1.word.2.toks.length < l.length+1:=by
  have h1:=HST1.out.1;have h2:=(aw s1).1;have h3:s1.toks.length≤l.length:=h1;omega
 have hst4:=(aI (⟨s1.word.2.toks,⟨s1.word.1,s1.word.2.L.bodies,s1.word.2.L.joints,s1.word.2.L.drivers⟩,s1.word.2.x⟩:PS) 2 [59]).1;clear h4 hg4 B4 H3n H3 H2 Z2 Q2 Z3 Q3 hz3 HST1;generalize (⟨s1.word.2.toks,⟨s1.word.1,s1.word.2.L.bodies,s1.word.2.L.joints,s1.word.2.L.drivers⟩,s1.word.2.x⟩:PS).expect 2 [59]=s4 at H4 HR2 hst4
 have hlen4:s4.toks.length < l.length+1:=by
  have h3:s4.toks.length≤s1.word.2.toks.length:=hst4;omega
 clear hst4 hlen;go_wp2_with fail;go_loopw [] (fun wr=>∃ f s' A n c A' n' c' A'' n'' c'',RdL gr wr gr s' A n c A' n' c' A'' n'' c''∧(s'.x=0→s'.toks.length < f)∧Hid (PS.items f s'=R)∧Below w.heap.size w wr∧Blk wr w.heap.size 26 #[.string ⟨#[]⟩,.slice none 0 0,.slice none 0 0,.slice none 0 0]) (fun wr=>mOf gr wr)
 case atStart=>exact ⟨l.length+1,s4,_,_,_,_,_,_,_,_,_,H4.out,fun _=>hlen4,HR2,Q4.out,Z4.out⟩
 case round =>
  clear H4 HR2 Q4 Z4 hlen4;obtain ⟨f,s',A,n,c,A',n',c',A'',n'',c'',hrd,hf,HRr,hq,hz⟩:=hrel;rename World=>wr;have HRD:=Qh hrd;have HQ:=Qh hq;have HZ:=Qh hz;have HF:=Qh hf;clear hrd hq hz hf;by_cases hmr:s'.x=0∧s'.toks≠[]
  ·have HMR:=Qh hmr
   clear hmr;go_wp2_with fail;(with_reducible refine (rk gr _ gr _ _ _ _ s' HRD.out.rd true (by simp only [HMR.out,and_self,decide_true,ne_eq,not_false_eq_true])).mono ?_);rintro e w5 ⟨rfl,h5,hg5⟩;have H5:=Qh (HRD.out.call h5 hg5 rfl Qr);have B5:=HRD.out.below hg5;clear h5 hg5;go_wp2_with fail;(with_reducible refine (xF gr _ gr s' A n c A' n' c' A'' n'' c'' H5.out).mono ?_);rintro e w6 ⟨rfl,⟨A5,n5,c5,A6,n6,c6,A7,n7,c7,h6⟩,hb6⟩;have H6:=Qh h6;have B6:=B5.trans hb6;clear h6 hb6;go_wp2_with fail;have hil:=oW s';have hff:=HF.out HMR.out.1;have hst:=kR (f:=f) (by omega) HMR.out;rw [HRr.out] at hst;go_roundw
   case rel=>exact ⟨f - 1,s'.item,_,_,_,_,_,_,_,_,_,H6.out,fun hx=>by have:=hil.2 hx;omega,Qh hst.symm,HQ.out.trans (B6.mono (by omega)),HZ.out.below B6 hz1⟩
   case measure =>
    rw [H6.out.rd.meas,HRD.out.rd.meas,if_pos HMR.out.1];have h8:=hil.1;by_cases hx:s'.item.x=0
    ·have h9:=hil.2 hx
     rw [if_pos hx];omega
    rw [if_neg hx];omega
  have hend:=mh (f:=f) hmr;rw [HRr.out] at hend;subst hend;have HMR:=Qh hmr;clear hmr;go_wp2_with fail;(with_reducible refine (rk gr _ gr _ _ _ _ R HRD.out.rd false (decide_eq_false HMR.out)).mono ?_);rintro e w5 ⟨rfl,h5,hg5⟩;have B5:=HRD.out.below hg5;have H5:=Qh (HRD.out.call h5 hg5 rfl Qr);have Q5:=Qh (HQ.out.trans (B5.mono (by omega)));have z5:=HZ.out.below B5 hz1;have Z5:=Qh z5;obtain ⟨D5,m5,d5,hb5,_⟩:=h5.blk;obtain ⟨_,g1,g2,g3,g4,g5⟩:=hb5.c6;have hl5:=h5.lt;obtain ⟨cz0,cz1,cz2,cz3⟩:=z5.c4;obtain ⟨fz0,fz1,fz2,fz3⟩:=z5.f4;have hne:¬ gr=w.heap.size:=by omega
  clear h5 hg5 B5 z5 hb5 HRD HQ HZ HMR HF;rcases HH.out with ⟨hx,rfl,rfl⟩ | ⟨hx,hc,rfl,rfl⟩ | ⟨hx,hc,rfl,rfl⟩
  ·rw [eVp hx] at g5
   have HX:=Qh hx;clear hx;go_wp2_with fail;go_region
   all_goals
    go_wp2_with fail;refine bodyPost_ret (v:=.tuple #[.agg #[.string ⟨#[]⟩,.slice none 0 0,.slice none 0 0,.slice none 0 0],.iface 58 (.int .i64 R.x)]) (by simp [results,Tryz.results35,go_sem, *] <;> trivial) rfl ?_;rw [eVp HX.out];exact ⟨_,_,_,_,_,_,_,_,_,rfl,LkY.zero _ _,by first | exact lb Q5.out Qr _ _ _ _ | exact lb Q5.out.drew Qr _ _ _ _⟩
  ·rw [hx,bo] at g5
   clear hx;have HCK:=Qh hc;clear hc;go_wp2_with fail;(with_reducible refine (gM _ A n c A' n' c' A'' n'' c'' R.L 130 H5.out.lk (by decide) (by decide) _ rfl).mono ?_);rintro e w6 ⟨rfl,hb6⟩;rw [eVp HCK.out];have z6:=Z5.out.below hb6 (by omega);obtain ⟨cy0,cy1,cy2,cy3⟩:=z6.c4;obtain ⟨fy0,fy1,fy2,fy3⟩:=z6.f4;have Q6:=Qh (Q5.out.trans (hb6.mono Q5.out.size));clear hb6 z6 cz0 cz1 cz2 cz3 fz0 fz1 fz2 fz3 g1 g2 g3 g4 g5;go_wp2_with fail;refine bodyPost_ret (v:=.tuple #[.agg #[.string ⟨#[]⟩,.slice none 0 0,.slice none 0 0,.slice none 0 0],.iface 58 (.int .i64 (bZ R.L))]) (by simp [results,Tryz.results35,go_sem, *] <;> trivial) rfl ?_;rw [eVp HCK.out];exact ⟨_,_,_,_,_,_,_,_,_,rfl,LkY.zero _ _,lb Q6.out Qr _ _ _ _⟩
  rw [hx,bo] at g5;clear hx;have HCK:=Qh hc;clear hc;go_wp2_with fail;(with_reducible refine (gM _ A n c A' n' c' A'' n'' c'' R.L 130 H5.out.lk (by decide) (by decide) 0 HCK.out).mono ?_);rintro e w6 ⟨rfl,hb6⟩;rw [bo];have z6:=Z5.out.below hb6 (by omega);obtain ⟨cy0,cy1,cy2,cy3⟩:=z6.c4;obtain ⟨fy0,fy1,fy2,fy3⟩:=z6.f4;have H6:=Qh (H5.out.belw hb6);have Z6:=Qh z6;obtain ⟨k1,k2,k3,k4,_⟩:=H6.out.rd.cells;have Q6:=Qh (Q5.out.trans (hb6.mono Q5.out.size));clear hb6 z6 cz0 cz1 cz2 cz3 fz0 fz1 fz2 fz3 g1 g2 g3 g4 g5;go_wp2_with fail;refine bodyPost_ret (v:=.tuple #[.agg #[ae R.L.name,.slice A n c,.slice A' n' c',.slice A'' n'' c''],.nilIface]) (by simp [results,Tryz.results35,go_sem, *] <;> trivial) rfl ?_;exact ⟨_,_,_,_,_,_,_,_,_,rfl,H6.out.lkY (pe Z6.out ⟨rfl,rfl,rfl,rfl⟩ _ _ _ _),lb Q6.out Qr _ _ _ _⟩
theorem pg (w:World) (s:List UInt8) (x:Int) (L:ai) (hmx:Mx w) (h:eE s x L):Calls Tryz.prog 35 #[ae s] w (la w (be x) L):=by
 rcases h with ⟨l,hs,hx,rfl⟩ | ⟨l,hs,hr,hx,rfl⟩ | ⟨l,hs,hr,hc,hx,rfl⟩ | ⟨l,hs,hr,hc,rfl,rfl⟩
 ·exact pf w s x l hs hx
 ·exact fV w s l hmx hs x L0 (.inl ⟨by rw [hr];exact hx,hr.symm,rfl⟩)
 ·exact fV w s l hmx hs x L0 (.inr (.inl ⟨hr,by rw [hc];exact hx,hc.symm,rfl⟩))
 exact fV w s l hmx hs 0 _ (.inr (.inr ⟨hr,hc,rfl,rfl⟩))
theorem cU.nm {b:aj}(h:cU b):b.name.length≤1000:=by have:=h.1;omega
theorem cU.mks {b:aj}(h:cU b):∀ m∈b.pts,m.name.length≤1000:=fun m hm=>by have:=(h.2.2 m hm).1;omega
theorem cU.np {b:aj}(h:cU b):b.pts.length≤8:=h.2.1
theorem Sees.al {w0 w:World}(h:Below w0.heap.size w0 w) (o:Obj):Sees w0.heap.size w0 (w.alloc o):=Sees.of Qr (h.alloc h.size o)
theorem Blk.strs {w:World}{g t:Nat}{l:List (List UInt8)}(h:Blk w g t (fg l).toArray) (k:Nat) (x:List UInt8) (hx:l[k]?=some x):w.cell? ⟨g,k,none⟩=some (ae x):=by
 rw [h.cell k,List.getElem?_toArray];unfold fg;rw [List.getElem?_map,hx];rfl
theorem Blk.owns {w:World}{base g t n:Nat}{l:List (List UInt8)}(h:Blk w g t (fg l).toArray) (hb:base≤g) (hl:l.length=n) (hn:n≤1000):w.ownsRow base t 1 (.slice (some ⟨g,0,none⟩) n n) n (fg l):=by
 subst hl;exact ⟨by simp [fg],.inr ⟨g,_,_,rfl,hb,h,Qr,by unfold maxLen;omega,by simp [fg],by rw [List.take_of_length_le (by simp [fg])]⟩⟩
theorem sT {w:World}{base t n g cap:Nat}{l:List (List UInt8)}(h:w.ownsRow base t 1 (.slice (some ⟨g,0,none⟩) n cap) n (fg l)):n≤cap∧∀ (k:Nat) x,l[k]?=some x→w.cell? ⟨g,k,none⟩=some (ae x):=by
 rcases h.2 with ⟨h1,_⟩ | ⟨g',cap',cur,h1,_,h3,h4,_,_,h7⟩
 ·cases h1
 injection h1 with h1 _ h1';injection h1 with h1;injection h1 with h1;subst h1 h1';refine ⟨h4,fun k x hx=>?_⟩;rw [cell_of_row w g k cur _ (0,0) h3];have h9:(fg l)[k]?=some (ae x):=by unfold fg;rw [List.getElem?_map,hx];rfl
 rw [← h7,List.getElem?_take] at h9;split at h9
 ·simpa using h9
 cases h9
abbrev SD (g g1 g2 o2:Nat) (a0 a1 a2 a3:Value) (w:World):Prop:=w.cell? ⟨g,0,none⟩=some a0∧w.cell? ⟨g,1,none⟩=some a1∧w.cell? ⟨g1,1,none⟩=some a2∧w.cell? ⟨g2,o2,none⟩=some a3
theorem SlS.bodyShort {w:World}{A:Option Addr}{n c:Nat}{l:List aj}(h:SlS (eM 500) 2 w A n c l) (ho:∀ b∈l,cU b):∀ b∈l,∀ m∈b.pts,gC m:=by
 intro b hb;obtain ⟨i,hi,e⟩:=List.getElem_of_mem hb;obtain ⟨g,o,a,_,_,_,ha,hp⟩:=h.at_ (i:=i) (by rw [← h.1];exact hi);rw [List.getElem?_eq_getElem hi] at ha;injection ha with ha;rw [← ha,e] at hp;obtain ⟨A',n',c',_,_,hM,_⟩:=hp;exact hM.short fun m hm=>by have:=((ho b hb).2.2 m hm).1;omega
theorem SlS.lineLen {w:World}{A:Option Addr}{n c:Nat}{l:List aj}(h:SlS (eM 500) 2 w A n c l) (ho:∀ b∈l,cU b):∀ b∈l,(bO b).length≤180000:=fun b hb=>mR (ho b hb).1 (ho b hb).2.1 (h.bodyShort ho b hb)
theorem vt (w:World) (A:Option Addr) (n c:Nat) (B:Option Addr) (p d:Nat) (C:Option Addr) (q e:Nat) (L:ai) (h:LkS 500 w A n c B p d C q e L) (he:bZ L≠0):Calls Tryz.prog 34 #[.agg #[ae L.name,.slice A n c,.slice B p d,.slice C q e]] w (fun e' w'=>e'=.returned (.tuple #[ae [],be (bZ L)])∧Below w.heap.size w w'):=by
 obtain ⟨x,hx⟩:∃ x,bZ L=x:=⟨_,rfl⟩;rw [hx] at he ⊢;have HX:=Qh hx;have H:=Qh h;have hev:be x=.iface 58 (.int .i64 x):=if_neg he;rw [hev];have HE:=Qh hev;clear h hx hev;go_in;go_wp2_with fail;have q0:Below w.heap.size w (w.alloc (.cells #[ae L.name,.slice A n c,.slice B p d,.slice C q e] 26)):=(aa w).alloc Qr _;(with_reducible refine (gM _ A n c B p d C q e L 500 (H.out.belw q0) (by decide) (by decide) x HX.out).mono ?_);rintro e' w1 ⟨rfl,hb1⟩;rw [HE.out];have q1:=q0.trans (hb1.mono q0.size);clear hb1;go_wp2_with fail;go_ret2;exact ⟨rfl,q1⟩
theorem xH (w:World) (A:Option Addr) (n c:Nat) (B:Option Addr) (p d:Nat) (C:Option Addr) (q e:Nat) (L:ai) (h:LkS 500 w A n c B p d C q e L) (htab:Tab w) (hc:bZ L=0):Calls Tryz.prog 34 #[.agg #[ae L.name,.slice A n c,.slice B p d,.slice C q e]] w (fun e' w'=>e'=.returned (.tuple #[ae (dp L),be (df L)])∧Below w.heap.size w w'):=by
 have hk:=oQ hc;have hln:=h.bodies.1;have hlj:=h.joints.1;have hld:=h.drivers.1;have hnb:=hk.nb;have hnj:=hk.nj;have hnd:=hk.nd;have hb0:=hk.b0;have hnc:=h.bodies.2.1;have hpc:=h.joints.2.1;have hqc:=h.drivers.2.1;have hnm:L.name.length≤24:=hk.name;have hsn:=aE L.name;rw [hln] at hnb hb0;rw [hlj] at hnj;rw [hld] at hnd;have hfb:=fw bO 180000 L.bodies (h.bodies.lineLen hk.body);have hfj:=fw (aJ L.bodies) 200 L.joints fun j hj=>gY hk.body (hk.joint j hj).1
 have hfd:=fw (aR L.bodies) 60 L.drivers fun d hd=>kM hk.body (hk.driver d hd).1
 rw [hln] at hfb;rw [hlj] at hfj;rw [hld] at hfd;obtain ⟨h1,eh1⟩:∃ t,[108,105,110,107,97,103,101,32] ++ L.name=t:=⟨_,rfl⟩;have ah1:=cI ([108,105,110,107,97,103,101,32]) (L.name);rw [eh1] at ah1;have lh1:h1.length=8+L.name.length:=by rw [← eh1,List.length_append];try simp
 have kh1:(9223372036854775807 < 8+L.name.length)=False:=eq_false (by omega);have zh1:=aE h1;obtain ⟨h2,eh2⟩:∃ t,h1 ++ [59,10]=t:=⟨_,rfl⟩;have ah2:=cI (h1) ([59,10]);rw [eh2] at ah2;have lh2:h2.length=h1.length+2:=by rw [← eh2,List.length_append];try simp
 have kh2:(9223372036854775807 < h1.length+2)=False:=eq_false (by omega);have zh2:=aE h2;have hl2:h2.length≤34:=by omega
 obtain ⟨S1,hS1⟩:∃ S,h2 ++ L.bodies.flatMap bO=S:=⟨_,rfl⟩;obtain ⟨S2,hS2⟩:∃ S,S1 ++ L.joints.flatMap (aJ L.bodies)=S:=⟨_,rfl⟩;obtain ⟨S3,hS3⟩:∃ S,S2 ++ L.drivers.flatMap (aR L.bodies)=S:=⟨_,rfl⟩;have hlS1:S1.length≤34+180000 * n:=by rw [← hS1,List.length_append];omega
 have hlS2:S2.length≤34+180000 * n+200 * p:=by rw [← hS2,List.length_append];omega
 have hlS3:S3.length≤34+180000 * n+200 * p+60 * q:=by rw [← hS3,List.length_append];omega
 have hT3:cG L=S3:=by
  rw [← hS3,← hS2,← hS1,← eh2,← eh1];unfold cG oS;simp
 have H:=Qh h;have HK:=Qh hk;have HC:=Qh hc;have HTab:=Qh htab;have HS1:=Qh hS1;have HS2:=Qh hS2;have HS3:=Qh hS3;have HT3:=Qh hT3;have HFB:=Qh hfb;have HFJ:=Qh hfj;have HFD:=Qh hfd;have HLB:=Qh hln;have HLJ:=Qh hlj;have HLD:=Qh hld;have HL1:=Qh hlS1;have HL2:=Qh hlS2;have HL3:=Qh hlS3;clear h hk hc htab hS1 hS2 hS3 hT3 hfb hfj hfd hln hlj hld eh1 eh2 lh1 lh2 hlS1 hlS2 hlS3;go_in;go_wp2_with fail;have q0:Below w.heap.size w (w.alloc (.cells #[ae L.name,.slice A n c,.slice B p d,.slice C q e] 26)):=(aa w).alloc Qr _;have x0:Blk (w.alloc (.cells #[ae L.name,.slice A n c,.slice B p d,.slice C q e] 26)) w.heap.size 26 #[ae L.name,.slice A n c,.slice B p d,.slice C q e]:=ak _ _ _ rfl;(with_reducible refine (gM _ A n c B p d C q e L 500 (H.out.belw q0) (by decide) (by decide) 0 HC.out).mono ?_);rintro e' w1 ⟨rfl,hb1⟩;rw [show be 0=.nilIface from if_pos rfl];have q1:=q0.trans (hb1.mono q0.size);have x1:=x0.below hb1 x0.lt;have hlw1:w.heap.size < w1.heap.size:=x1.lt;have cx0:=x1.cell 0;clear hb1 q0 x0;go_wp2_with fail;clear cx0;have B1:Bu w1.heap.size w1.heap.size (w1.alloc (.cells #[.pointer none,.slice none 0 0] 104)) []:=Bu.new;have qa:Below w1.heap.size w1 (w1.alloc (.cells #[.pointer none,.slice none 0 0] 104)):=(aa w1).alloc Qr _;have xa:=x1.below qa x1.lt;(with_reducible refine (dA _ _ _ _ h2 B1 (by simp only [List.length_nil];omega)).mono ?_);rintro e' w2 ⟨rfl,B2,q2,_⟩;rw [List.nil_append] at B2;have q2:=qa.trans q2;have x2:=x1.below q2 x1.lt;have bw2:=q1.trans (q2.mono q1.size);have HB2:=Qh B2;have cx1:=x2.cell 1;clear qa xa B1 B2 q1 x1;go_wp2_with fail;clear cx1;go_loopw [26] (fun iv wr=>∃ i:Nat,iv=.int .i64 (i:Nat)∧i≤n∧Hid (Bu w1.heap.size w1.heap.size wr (h2 ++ (L.bodies.take i).flatMap bO))∧Below w1.heap.size w2 wr) (fun iv _=>n - (intOf iv).toNat)
 case atStart=>exact ⟨0,rfl,Nat.zero_le _,by simpa using HB2,Below.refl _ _⟩
 case round =>
  clear HB2;obtain ⟨i,rfl,hi,HB,hb⟩:=hrel;rename World=>wa;have xa:=x2.below hb hlw1;have bwa:=bw2.trans (hb.mono (Nat.le_of_lt hlw1));rcases Nat.lt_or_ge i n with hlt | hge
  ·have hi1:((i:Int) < (n:Int))=True:=by simp;omega
   obtain ⟨g,o,b,e1,hg,_,hbi,hBd⟩:=(H.out.bodies.bd bwa).at_ hlt;subst e1;have hok:=HK.out.body b (List.mem_of_getElem? hbi);have hms:=(H.out.bodies.bd bwa).bodyShort HK.out.body b (List.mem_of_getElem? hbi);obtain ⟨A',n',c',d0,d1,hM,_⟩:=hBd;have hfs:=gF bO hbi;have hfl2:=fd bO L.bodies (i+1);rw [hfs,List.length_append] at hfl2;obtain ⟨T,hT⟩:∃ T,fc b=T:=⟨_,rfl⟩;obtain ⟨T1,hT1⟩:∃ t,T ++ [10]=t:=⟨_,rfl⟩;have hlt1:bO b=T1:=by rw [← hT1,← hT];rfl
   rw [hlt1] at hfs hfl2;have aT1:=cI T [10];rw [hT1] at aT1;have hlT:T1.length=T.length+1:=by rw [← hT1,List.length_append];rfl
   have h9:=HFB.out;have kT1:(9223372036854775807 < T.length+1)=False:=eq_false (by omega);have hsT:=aE T;have hlw:(h2 ++ (L.bodies.take i).flatMap bO).length+T1.length≤140737488355328:=by rw [List.length_append];omega
   have HW:=Qh hlw;have HFS:Hid (h2 ++ (L.bodies.take (i+1)).flatMap bO=h2 ++ (L.bodies.take i).flatMap bO ++ T1):=Qh (by rw [hfs,List.append_assoc]);have HT:=Qh hT;have HM:=Qh hM;have HOK:=Qh hok;have hlen9:=hok.2.1;rw [hM.1] at hlen9;clear hbi hok hms hM hfs hfl2 hT hT1 hlt1 hlT h9 hlw;have hga:g < wa.heap.size:=hg;go_wp2_with fail;have xp:Blk (wa.alloc (.cells #[ae b.name,.slice A' n' c'] 51)) wa.heap.size 51 #[ae b.name,.slice A' n' c']:=ak _ _ _ rfl;have qb:Below wa.heap.size wa (wa.alloc (.cells #[ae b.name,.slice A' n' c'] 51)):=(aa wa).alloc Qr _;have HBb:=Qh (HB.out.belw qb);have HTb:=Qh ((HTab.out.belw bwa).belw qb);have HMb:=Qh (HM.out.mk_ qb);have hbB:w1.heap.size < wa.heap.size:=HB.out.lt;clear HB HM d0 d1;generalize (wa.alloc (.cells #[ae b.name,.slice A' n' c'] 51))=wb at xp qb HBb HTb HMb ⊢;(with_reducible refine (yT _ A' n' c' b HMb.out HTb.out (by omega) HOK.out.nm HOK.out.mks T HT.out).mono ?_);rintro e' wc ⟨rfl,qc⟩;have qc2:=ah qb qc;go_wp2_with fail;(with_reducible refine (dA _ _ _ _ T1 (HBb.out.belw qc) HW.out).mono ?_);rintro e' wd ⟨rfl,Bd,qd,_⟩;have HBd:Hid (Bu w1.heap.size w1.heap.size wd (h2 ++ (L.bodies.take (i+1)).flatMap bO)):=Qh (by rw [HFS.out];exact Bd);have bd:=(hb.trans (qc2.mono (Nat.le_of_lt hbB))).trans qd;clear Bd HFS;go_wp2_with fail;go_roundw
   case rel=>exact ⟨i+1,by go_num,by omega,HBd,bd⟩
   case measure=>simp [intOf];omega
  have hi1:((i:Int) < (n:Int))=False:=by simp;omega
  have hin:L.bodies.take i=L.bodies:=List.take_of_length_le (by rw [HLB.out];exact hge);rw [hin,HS1.out] at HB;have HB1:=HB;have cx2:=xa.cell 2;clear hin HB;go_wp2_with fail;clear cx2;go_loopw [38] (fun iv wr=>∃ i2:Nat,iv=.int .i64 (i2:Nat)∧i2≤p∧Hid (Bu w1.heap.size w1.heap.size wr (S1 ++ (L.joints.take i2).flatMap (aJ L.bodies)))∧Below w1.heap.size w2 wr) (fun iv _=>p - (intOf iv).toNat)
  case atStart=>exact ⟨0,rfl,Nat.zero_le _,by simpa using HB1,hb⟩
  case round =>
   clear HB1 xa bwa hb;obtain ⟨i2,rfl,hi2,HB,hb⟩:=hrel;rename World=>wj;have xa:=x2.below hb hlw1;have bwa:=bw2.trans (hb.mono (Nat.le_of_lt hlw1));rcases Nat.lt_or_ge i2 p with hlt2 | hge2
   ·have hi3:((i2:Int) < (p:Int))=True:=by simp;omega
    obtain ⟨g,o,j,e1,hg,_,hbi,hJt⟩:=(H.out.joints.jt bwa).at_ hlt2;subst e1;have hok:=HK.out.joint j (List.mem_of_getElem? hbi);obtain ⟨hjn,ja,jb,jp,jo,x,y,m1,m2,ea,eb,ep,eo,hx,hy,hm1,hm2,hkd⟩:=hok;obtain ⟨d0,d1,d2,d3,d4,d5,d6,_⟩:=hJt;obtain ⟨F1,hF1⟩:∃ F,x.name ++ 46 :: m1.name=F:=⟨_,rfl⟩;obtain ⟨F2,hF2⟩:∃ F,y.name ++ 46 :: m2.name=F:=⟨_,rfl⟩;have hbx:=HK.out.body x (List.mem_of_getElem? hx);have hby:=HK.out.body y (List.mem_of_getElem? hy);have HJ1:=Qh (And.intro hx (And.intro hm1 (And.intro hbx.nm (And.intro (hbx.mks m1 (List.mem_of_getElem? hm1)) hF1))));have HJ2:=Qh (And.intro hy (And.intro hm2 (And.intro hby.nm (And.intro (hby.mks m2 (List.mem_of_getElem? hm2)) hF2))));have hf1:fE L.bodies j.a j.point=F1:=by rw [ea,ep,kh hx hm1,hF1]
    have hf2:fE L.bodies j.b j.on=F2:=by rw [eb,eo,kh hy hm2,hF2]
    have hfs:=gF (aJ L.bodies) hbi;have hfl2:=fd (aJ L.bodies) L.joints (i2+1);rw [hfs,List.length_append] at hfl2;have hjl:=gY HK.out.body hjn;rw [ea] at d2;rw [ep] at d3;rw [eb] at d4;rw [eo] at d5;have hsj:=aE j.name;have hga:g < wj.heap.size:=hg;have h9:=HFJ.out;have h8:=HL1.out;have hlw:(S1 ++ (L.joints.take i2).flatMap (aJ L.bodies)).length+(aJ L.bodies j).length≤140737488355328:=by rw [List.length_append];omega
    have HW:=Qh hlw;have HFS:Hid (S1 ++ (L.joints.take (i2+1)).flatMap (aJ L.bodies)=S1 ++ (L.joints.take i2).flatMap (aJ L.bodies) ++ aJ L.bodies j):=Qh (by rw [hfs,List.append_assoc]);have HBI:=Qh (And.intro hf1 (And.intro hf2 hjl));have HKD:=Qh hkd;have HBY:=Qh (And.intro hy hby);have HEB:=Qh eb;clear hF1 hF2 hx hy hm1 hm2 hbx hby hf1 hf2 hfs hfl2 hjl ea ep eb eo hbi h9 h8 hlw hkd;go_wp2_with fail;have xp:Blk (wj.alloc (.cells #[ae j.name,.int .i64 j.kind,.int .i64 (ja:Nat),.int .i64 (jp:Nat),.int .i64 (jb:Nat),.int .i64 (jo:Nat),.int .i64 j.to_] 81)) wj.heap.size 81 #[ae j.name,.int .i64 j.kind,.int .i64 (ja:Nat),.int .i64 (jp:Nat),.int .i64 (jb:Nat),.int .i64 (jo:Nat),.int .i64 j.to_]:=ak _ _ _ rfl;have qb:Below wj.heap.size wj (wj.alloc (.cells #[ae j.name,.int .i64 j.kind,.int .i64 (ja:Nat),.int .i64 (jp:Nat),.int .i64 (jb:Nat),.int .i64 (jo:Nat),.int .i64 j.to_] 81)):=(aa wj).alloc Qr _;have HBb:=Qh (HB.out.belw qb);have HTb:=Qh ((HTab.out.belw bwa).belw qb);have HBod:=Qh ((H.out.bodies.bd bwa).bd qb);have hbB:w1.heap.size < wj.heap.size:=HB.out.lt;have xb:=xa.below qb xa.lt;have bwb:=hb.trans (qb.mono (Nat.le_of_lt hbB));clear HB d0 d1 d2 d3 d4 d5 d6 xa;generalize (wj.alloc (.cells #[ae j.name,.int .i64 j.kind,.int .i64 (ja:Nat),.int .i64 (jp:Nat),.int .i64 (jb:Nat),.int .i64 (jo:Nat),.int .i64 j.to_] 81))=wb at xp qb HBb HTb HBod xb bwb ⊢;have hlb:wj.heap.size < wb.heap.size:=xp.lt;have hlb2:w.heap.size < wb.heap.size:=xb.lt;obtain ⟨cp0,cp1,cp2,cp3,cp4,cp5,cp6⟩:=xp.c7;obtain ⟨cb0,cb1,cb2,cb3⟩:=xb.c4
    go_region_held3 (fun w'=>Sees wb.heap.size wb w') (first | with_reducible exact Sees.of Qr (by assumption) | with_reducible exact Sees.of Qr (aa _).drew | with_reducible exact Sees.al (by assumption) _ | exact Sees.of Qr (af (aa _) 1) | exact Sees.of Qr (af (by assumption) _))
     (first
      | (go_at_call 63;(with_reducible refine (p8 _ _ _ _ _ _ _ _ _ _ _ L.bodies 500 ?_ ja jp x m1 HJ1.out.1 HJ1.out.2.1 HJ1.out.2.2.1 HJ1.out.2.2.2.1 F1 HJ1.out.2.2.2.2).mono ?_);(exact HBod.out.bd (by first | exact qwf2 | exact aa _ | exact (aa wb).drew | exact af (aa wb) _));rintro e' wf1 ⟨rfl,hwf1⟩;have qwf1:Below wb.heap.size wb wf1:=(by first | exact ah qwf2 hwf1 | exact ah (aa wb) hwf1 | exact ah (af (aa wb) _) hwf1))
      | (go_at_call 63;(with_reducible refine (p8 _ _ _ _ _ _ _ _ _ _ _ L.bodies 500 ?_ jb jo y m2 HJ2.out.1 HJ2.out.2.1 HJ2.out.2.2.1 HJ2.out.2.2.2.1 F2 HJ2.out.2.2.2.2).mono ?_);(exact HBod.out.bd (by first | exact qwf1 | exact aa _ | exact (aa wb).drew | exact af (aa wb) _));rintro e' wf2 ⟨rfl,hwf2⟩;have qwf2:Below wb.heap.size wb wf2:=(by first | exact ah qwf1 hwf2 | exact ah (aa wb) hwf2 | exact ah (af (aa wb) _) hwf2)))
    all_goals
     rename_i hHeld;clear hHeld hwf1 hwf2
     first
      | clear qwf1 wf1
      | clear qwf2 wf2
     rename World=>wl;rename Below wb.heap.size wb wl=>ql;have xs:Blk (wl.alloc (.cells #[.string ⟨#[112,105,110]⟩,ae j.name,ae F1,ae F2] 9)) wl.heap.size 9 (fg [[112,105,110],j.name,F1,F2]).toArray:=ak _ _ _ rfl;have qs:Below wb.heap.size wb (wl.alloc (.cells #[.string ⟨#[112,105,110]⟩,ae j.name,ae F1,ae F2] 9)):=ql.alloc ql.size _;have hgl:wb.heap.size≤wl.heap.size:=ql.size;clear cp0 cp1 cp2 cp3 cp4 cp5 cp6 cb0 cb1 cb2 cb3 ql;generalize (wl.alloc (.cells #[.string ⟨#[112,105,110]⟩,ae j.name,ae F1,ae F2] 9))=ws at xs qs ⊢;have hls:wl.heap.size < ws.heap.size:=xs.lt;have xp2:=xp.below qs xp.lt;have xb2:=xb.below qs xb.lt;have bws:=bwb.trans (qs.mono (by omega));have cp1:=xp2.cell 1;rcases HKD.out with ⟨hk0,_⟩ | ⟨hk1,jt,m3,et,hm3⟩
     ·have e10:(j.kind == 1)=false:=by rw [hk0];rfl
      have hw0:cK L.bodies j=[[112,105,110],j.name,F1,F2]:=by
       unfold cK;rw [if_neg (by omega),HBI.out.1,HBI.out.2.1]
      obtain ⟨J,hJ⟩:∃ J,fC [[112,105,110],j.name,F1,F2]=J:=⟨_,rfl⟩;obtain ⟨T,hT⟩:∃ T,J ++ [59,10]=T:=⟨_,rfl⟩;have hTT:aJ L.bodies j=T:=by unfold aJ;rw [hw0,hJ,hT]
      have aT:=cI J [59,10];rw [hT] at aT;have hlT:T.length=J.length+2:=by rw [← hT,List.length_append];rfl
      have hl200:=HBI.out.2.2;rw [hTT] at hl200;have kT:(9223372036854775807 < J.length+2)=False:=eq_false (by omega);have hsJ:=aE J;have hWT:=HW.out;rw [hTT] at hWT;have HWT:=Qh hWT;have HTT:=Qh hTT;have HJ:=Qh hJ;clear hk0 hw0 hT hTT hWT;go_wp2_with fail;(with_reducible refine (oX ws wl.heap.size 4 4 _ rfl xs.strs hls (by decide) (by decide) (by rw [HJ.out];omega)).mono ?_);rintro e' wt ⟨rfl,qt⟩;rw [HJ.out];go_wp2_with fail;(with_reducible refine (dA _ _ _ _ T ((HBb.out.belw qs).belw qt) HWT.out).mono ?_);rintro e' wu ⟨rfl,Bw,qu,_⟩;have HBu:Hid (Bu w1.heap.size w1.heap.size wu (S1 ++ (L.joints.take (i2+1)).flatMap (aJ L.bodies))):=Qh (by rw [HFS.out,HTT.out];exact Bw);have bu:=(bws.trans (qt.mono (by omega))).trans qu;clear Bw;go_wp2_with fail;go_roundw
      case rel=>exact ⟨i2+1,by go_num,by omega,HBu,bu⟩
      case measure=>simp [intOf];omega
     have e10:(j.kind == 1)=true:=by rw [hk1];rfl
     obtain ⟨F3,hF3⟩:∃ F,y.name ++ 46 :: m3.name=F:=⟨_,rfl⟩;have hby:=HBY.out.2;have HJ3:=Qh (And.intro HBY.out.1 (And.intro hm3 (And.intro hby.nm (And.intro (hby.mks m3 (List.mem_of_getElem? hm3)) hF3))))
     have hw0:cK L.bodies j=[[115,108,105,100,101],j.name,F1,F2,F3]:=by
      unfold cK;have hf3:=kh HBY.out.1 hm3;rw [if_pos hk1,HBI.out.1,HBI.out.2.1,HEB.out,et,hf3,hF3]
     have hto:((jt:Nat):Int)=j.to_:=et.symm;obtain ⟨J,hJ⟩:∃ J,fC [[115,108,105,100,101],j.name,F1,F2,F3]=J:=⟨_,rfl⟩;obtain ⟨T,hT⟩:∃ T,J ++ [59,10]=T:=⟨_,rfl⟩;have hTT:aJ L.bodies j=T:=by unfold aJ;rw [hw0,hJ,hT]
     have aT:=cI J [59,10];rw [hT] at aT;have hlT:T.length=J.length+2:=by rw [← hT,List.length_append];rfl
     have hl200:=HBI.out.2.2;rw [hTT] at hl200;have kT:(9223372036854775807 < J.length+2)=False:=eq_false (by omega);have hsJ:=aE J;have hWT:=HW.out;rw [hTT] at hWT;have HWT:=Qh hWT;have HTT:=Qh hTT;have HJ:=Qh hJ;rw [et] at xp2 xp;obtain ⟨i0,hi0,hz0,hz1,hz2⟩:=info_parts oi;have HI:=Qh (And.intro hi0 (And.intro hz0 (And.intro hz1 hz2)));clear hk1 hi0 hz0 hz1 hz2 et hto hm3 hF3 hby hw0 hT hTT hWT;have xs0:=xs.cell 0;have xf0:=xs.frozen 0;have xs1:=xs.cell 1;have cp4:=xp2.cell 4;have cp6:=xp2.cell 6;obtain ⟨cb0,cb1,cb2,cb3⟩:=xb2.c4;have hne1:¬ w.heap.size=wl.heap.size:=by omega
     have hne2:¬ wj.heap.size=wl.heap.size:=by omega
     have xs5:Blk (ws.setCell ⟨wl.heap.size,0,none⟩ (ae [115,108,105,100,101])) wl.heap.size 9 (fg [[115,108,105,100,101],j.name,F1,F2]).toArray:=xs.set_ 0 _;have qs5:Below wb.heap.size wb (ws.setCell ⟨wl.heap.size,0,none⟩ (ae [115,108,105,100,101])):=qs.setCell (p:=⟨wl.heap.size,0,none⟩) hgl _;clear xs;go_wp2_with fail;clear cb0 cb1 cb2 cb3 cp4 cp6 cp1 xs0 xs1 xf0;generalize (ws.setCell ⟨wl.heap.size,0,none⟩ (ae [115,108,105,100,101]))=wv at xs5 qs5 ⊢;(with_reducible refine (p8 _ _ _ _ _ _ _ _ _ _ _ L.bodies 500 (HBod.out.bd qs5) jb jt y m3 HJ3.out.1 HJ3.out.2.1 HJ3.out.2.2.1 HJ3.out.2.2.2.1 F3 HJ3.out.2.2.2.2).mono ?_);rintro e' wt ⟨rfl,qt⟩;have xs6:=xs5.below qt xs5.lt;have q6:=ah qs5 qt;have HO:=Qh ((xs6.owns (n:=4) hgl rfl (by decide)).alloc (.cells #[ae F3] 9));go_wp2_with (at_builtin;refine wpList_append_lies _ rfl _ _ _ rfl wb.heap.size 9 i0 (.string ⟨#[]⟩) 1 16 Tryz.underlying109 HI.out.1 HI.out.2.1 HI.out.2.2.1 HI.out.2.2.2 rfl (by omega) (.slice (some ⟨wl.heap.size,0,none⟩) 4 4) 4 (fg [[115,108,105,100,101],j.name,F1,F2]) rfl HO.out ⟨wt.heap.size,0,none⟩ 1 1 [_] rfl rfl (World.news_of_block (heap_alloc_new wt _)) (by simp [Value.oneCell']) (by omega) (by unfold maxLen;omega) (by omega) (by have:=q6.size;simp;omega) (wt.heap.size+1) (by simp) ?_;intro gx cap w9 hown1 hgrow hat hlt1);have ho5:=sT (l:=[[115,108,105,100,101],j.name,F1,F2,F3]) hown1;have HO5:=Qh ho5;have b9:Below wb.heap.size wb w9:=(q6.alloc q6.size _).grown hgrow (by have:=q6.size;simp;omega) (fun k hk=>by cases hk;exact hgl);clear ho5 hown1 hgrow hat;(with_reducible refine (oX w9 gx cap 5 _ rfl HO5.out.2 hlt1 (by decide) HO5.out.1 (by rw [HJ.out];omega)).mono ?_);rintro e' wy ⟨rfl,qy⟩;rw [HJ.out];have q9:=ah b9 qy;go_wp2_with fail;(with_reducible refine (dA _ _ _ _ T (HBb.out.belw q9) HWT.out).mono ?_);rintro e' wu ⟨rfl,Bw,qu,_⟩;have HBu:Hid (Bu w1.heap.size w1.heap.size wu (S1 ++ (L.joints.take (i2+1)).flatMap (aJ L.bodies))):=Qh (by rw [HFS.out,HTT.out];exact Bw);have bu:=(bwb.trans (q9.mono (by omega))).trans qu;clear Bw;go_wp2_with fail;go_roundw
     case rel=>exact ⟨i2+1,by go_num,by omega,HBu,bu⟩
     case measure=>simp [intOf];omega
   have hi3:((i2:Int) < (p:Int))=False:=by simp;omega
   have hin:L.joints.take i2=L.joints:=List.take_of_length_le (by rw [HLJ.out];exact hge2);rw [hin,HS2.out] at HB;have HB2:=HB;have cx3:=xa.cell 3;clear hin HB;go_wp2_with fail;clear cx3;go_loopw [79] (fun iv wr=>∃ i3:Nat,iv=.int .i64 (i3:Nat)∧i3≤q∧Hid (Bu w1.heap.size w1.heap.size wr (S2 ++ (L.drivers.take i3).flatMap (aR L.bodies)))∧Below w1.heap.size w2 wr) (fun iv _=>q - (intOf iv).toNat)
   case atStart=>exact ⟨0,rfl,Nat.zero_le _,by simpa using HB2,hb⟩
   case round =>
    clear HB2 xa bwa hb;obtain ⟨i3,rfl,hi3',HB,hb⟩:=hrel;rename World=>wk;have xa:=x2.below hb hlw1;have bwa:=bw2.trans (hb.mono (Nat.le_of_lt hlw1));rcases Nat.lt_or_ge i3 q with hlt3 | hge3
    ·have hi4:((i3:Int) < (q:Int))=True:=by simp;omega
     obtain ⟨g,o,dv,e1,hg,_,hbi,hDr⟩:=(H.out.drivers.dr bwa).at_ hlt3;subst e1;obtain ⟨hdn,di,y,ei,hy⟩:=HK.out.driver dv (List.mem_of_getElem? hbi);have hil:di < n:=by rw [← HLB.out];exact (List.getElem?_eq_some_iff.1 hy).1
     obtain ⟨gb,ob,y',e1,hgb,_,hy',hBy⟩:=H.out.bodies.at_ hil;rw [hy] at hy';injection hy' with hy';subst hy' e1;obtain ⟨A',n',c',k0,k1,hM,_⟩:=hBy;have hby:=HK.out.body y (List.mem_of_getElem? hy);have hyn:=hby.nm;obtain ⟨d0,d1,_⟩:=hDr;rw [ei] at d1;have hsd:=aE dv.name;have hsy:=aE y.name;obtain ⟨g1,eg1⟩:∃ t,[100,114,105,118,101,114,32] ++ dv.name=t:=⟨_,rfl⟩;have ag1:=cI ([100,114,105,118,101,114,32]) (dv.name);rw [eg1] at ag1;have lg1:g1.length=7+dv.name.length:=by rw [← eg1,List.length_append];try simp
     have kg1:(9223372036854775807 < 7+dv.name.length)=False:=eq_false (by omega);have zg1:=aE g1;obtain ⟨g2,eg2⟩:∃ t,g1 ++ [32]=t:=⟨_,rfl⟩;have ag2:=cI (g1) ([32]);rw [eg2] at ag2;have lg2:g2.length=g1.length+1:=by rw [← eg2,List.length_append];try simp
     have kg2:(9223372036854775807 < g1.length+1)=False:=eq_false (by omega);have zg2:=aE g2;obtain ⟨g3,eg3⟩:∃ t,g2 ++ y.name=t:=⟨_,rfl⟩;have ag3:=cI (g2) (y.name);rw [eg3] at ag3;have lg3:g3.length=g2.length+y.name.length:=by rw [← eg3,List.length_append];try simp
     have kg3:(9223372036854775807 < g2.length+y.name.length)=False:=eq_false (by omega);have zg3:=aE g3;obtain ⟨g4,eg4⟩:∃ t,g3 ++ [59,10]=t:=⟨_,rfl⟩;have ag4:=cI (g3) ([59,10]);rw [eg4] at ag4;have lg4:g4.length=g3.length+2:=by rw [← eg4,List.length_append];try simp
     have kg4:(9223372036854775807 < g3.length+2)=False:=eq_false (by omega);have zg4:=aE g4
     have hdt:aR L.bodies dv=g4:=by
      rw [← eg4,← eg3,← eg2,← eg1];unfold aR;rw [ei,mQ hy]
     have hfs:=gF (aR L.bodies) hbi;have hfl2:=fd (aR L.bodies) L.drivers (i3+1);rw [hfs,List.length_append,hdt] at hfl2;rw [hdt] at hfs;have h9:=HFD.out;have h8:=HL2.out;have hlw:(S2 ++ (L.drivers.take i3).flatMap (aR L.bodies)).length+g4.length≤140737488355328:=by rw [List.length_append];omega
     have HW:=Qh hlw;have HFS:Hid (S2 ++ (L.drivers.take (i3+1)).flatMap (aR L.bodies)=S2 ++ (L.drivers.take i3).flatMap (aR L.bodies) ++ g4):=Qh (by rw [hfs,List.append_assoc]);have k0:=aq k0 bwa;have hga:g < wk.heap.size:=hg;clear hM k1 hby hy ei hdt hfs hfl2 h9 h8 hlw hbi lg1 lg2 lg3 lg4 eg1 eg2 eg3 eg4;go_wp2_with fail;have xp:Blk (wk.alloc (.cells #[ae dv.name,.int .i64 (di:Nat)] 86)) wk.heap.size 86 #[ae dv.name,.int .i64 (di:Nat)]:=ak _ _ _ rfl;have qb:Below wk.heap.size wk (wk.alloc (.cells #[ae dv.name,.int .i64 (di:Nat)] 86)):=(aa wk).alloc Qr _;have HBb:=Qh (HB.out.belw qb);have hbB:w1.heap.size < wk.heap.size:=HB.out.lt;have xb:=xa.below qb xa.lt;have bwb:=hb.trans (qb.mono (Nat.le_of_lt hbB));have k0:=aq k0 qb;clear HB d0 d1 xa;generalize (wk.alloc (.cells #[ae dv.name,.int .i64 (di:Nat)] 86))=wb at xp qb HBb xb bwb k0 ⊢;have hlb:wk.heap.size < wb.heap.size:=xp.lt;have hlb2:w.heap.size < wb.heap.size:=xb.lt;obtain ⟨cp0,cp1⟩:=xp.c2;have cb1:=xb.cell 1;have f1:((di:Int) < (n:Int)):=by omega
     have hSb:SD wk.heap.size w.heap.size gb (ob+di * 2) (ae dv.name) (.int .i64 (di:Nat)) (.slice (some ⟨gb,ob,none⟩) n c) (ae y.name) wb:=⟨cp0,cp1,cb1,k0⟩
     go_region_held3 (SD wk.heap.size w.heap.size gb (ob+di * 2) (ae dv.name) (.int .i64 (di:Nat)) (.slice (some ⟨gb,ob,none⟩) n c) (ae y.name)) (first | assumption | exact hSb)
      (first
       | (go_at_call 61;(with_reducible refine (dA _ _ _ _ g4 (HBb.out.belw (by first | exact (aa wb).drew | exact af (aa wb) _)) HW.out).mono ?_);rintro e' wu ⟨rfl,Bw,qu,ou⟩;have xu:=ou wk.heap.size 86 _ (by omega) (by decide) xp;have qu:Below w1.heap.size wb wu:=(by first | exact (Below.refl _ wb).drew.trans qu | exact (af (Below.refl _ wb) _).trans qu);have hSu:SD wk.heap.size w.heap.size gb (ob+di * 2) (ae dv.name) (.int .i64 (di:Nat)) (.slice (some ⟨gb,ob,none⟩) n c) (ae y.name) wu:=⟨xu.cell 0,xu.cell 1,(xb.below qu hlw1).cell 1,(qu.cell (p:=⟨gb,ob+di * 2,none⟩) (Nat.lt_trans hgb hlw1)).trans k0⟩))
     have HBu:Hid (Bu w1.heap.size w1.heap.size wu (S2 ++ (L.drivers.take (i3+1)).flatMap (aR L.bodies))):=Qh (by rw [HFS.out];exact Bw);have bu:=bwb.trans qu;clear Bw cp0 cp1 cb1 k0 hSb hSu;go_wp2_with fail;go_roundw
     case rel=>exact ⟨i3+1,by go_num,by omega,HBu,bu⟩
     case measure=>simp [intOf];omega
    have hi4:((i3:Int) < (q:Int))=False:=by simp;omega
    have hin:L.drivers.take i3=L.drivers:=List.take_of_length_le (by rw [HLD.out];exact hge3);rw [hin,HS3.out] at HB;clear hin;go_wp2_with fail;(with_reducible refine (yS _ _ _ S3 HB.out).mono ?_);rintro e' w9 ⟨rfl,rfl⟩;by_cases h65:65536 < S3.length
    ·have f65:((65536:Int) < (S3.length:Int))=True:=eq_true (by omega)
     have hoE:df L=4:=by unfold df;rw [if_neg (by rw [HC.out];decide),if_pos (Or.inr (by rw [HT3.out];exact h65))]
     have hoT:dp L=[]:=by unfold dp;rw [if_neg (by rw [hoE];decide)]
     have HOE:=Qh (And.intro hoE hoT);clear hoE hoT;go_wp2_with fail;go_ret2;exact ⟨by rw [HOE.out.1,HOE.out.2];rfl,bwa⟩
    have f65:((65536:Int) < (S3.length:Int))=False:=eq_false (by omega);have H65:=Qh h65;obtain ⟨v,hv⟩:∃ v,fQ L.bodies=v:=⟨_,rfl⟩;have HV:=Qh hv;obtain ⟨cb0,cb1,cb2,cb3⟩:=xa.c4;clear h65 hv;go_wp2_with fail;(with_reducible refine (yU _ A n c B p d C q e L.name L.bodies (H.out.bodies.bd bwa) (HTab.out.belw bwa) (by omega) (fun b hb=>by have:=(HK.out.body b hb).np;omega) v HV.out).mono ?_);rintro e' wz ⟨rfl,qz⟩;have bz:=bwa.trans (qz.mono bwa.size);clear cb0 cb1 cb2 cb3;cases v
    ·have hoE:df L=0:=by
      unfold df;rw [if_neg (by rw [HC.out];decide),if_neg (by rw [HT3.out,HV.out];intro hh;rcases hh with hh | hh;exact absurd hh (by decide);exact H65.out hh)]
     have hoT:dp L=S3:=by unfold dp;rw [if_pos hoE,HT3.out]
     have HOE:=Qh (And.intro hoE hoT);have HBz:=Qh (HB.out.belw qz);clear hoE hoT;go_wp2_with fail;(with_reducible refine (uX _ _ _ _ HBz.out).mono ?_);rintro e' wy ⟨rfl,qy⟩;have by_:=bz.trans (qy.mono (Nat.le_of_lt hlw1));go_wp2_with fail;go_ret2;exact ⟨by rw [HOE.out.1,HOE.out.2];rfl,by_⟩
    have hoE:df L=4:=by unfold df;rw [if_neg (by rw [HC.out];decide),if_pos (Or.inl HV.out)]
    have hoT:dp L=[]:=by unfold dp;rw [if_neg (by rw [hoE];decide)]
    have HOE:=Qh (And.intro hoE hoT);clear hoE hoT;go_wp2_with fail;go_ret2;exact ⟨by rw [HOE.out.1,HOE.out.2];rfl,bz⟩
theorem cP.words {k:Nat}{w:World}{g o:Nat}{r:RD}(h:cP w g o r k):RdW r:=by
 obtain ⟨b,A,n,c,D,m,e,_,_,_,hQ⟩:=h;exact ⟨hQ.2.1.1,hQ.2.2.1.1⟩
theorem SlS.markW {k:Nat}{w:World}{A:Option Addr}{n c:Nat}{l:List au}(h:SlS (dz k) 7 w A n c l):∀ m∈l,MkW m:=by
 intro m hm;obtain ⟨i,hi,e⟩:=List.getElem_of_mem hm;obtain ⟨g,o,a,_,_,_,ha,hp⟩:=h.at_ (i:=i) (by rw [← h.1];exact hi);rw [List.getElem?_eq_getElem hi] at ha;injection ha with ha;rw [← ha,e] at hp;exact ⟨hp.2.1.words,hp.2.2.1.words⟩
theorem LkS.words {k:Nat}{w:World}{A B C:Option Addr}{n c p d q e:Nat}{L:ai}(h:LkS k w A n c B p d C q e L):LkW L:=by
 intro b hb;obtain ⟨i,hi,e1⟩:=List.getElem_of_mem hb;obtain ⟨g,o,a,_,_,_,ha,hp⟩:=h.bodies.at_ (i:=i) (by rw [← h.bodies.1];exact hi);rw [List.getElem?_eq_getElem hi] at ha;injection ha with ha;rw [← ha,e1] at hp;obtain ⟨A',n',c',_,_,hM,_⟩:=hp;exact hM.markW
theorem cP.small {K k:Nat}{w:World}{g o:Nat}{r:RD}(h:cP w g o r K) (h1:r.num.length≤k) (h2:r.den.length≤k):cP w g o r k:=by
 obtain ⟨b,A,n,c,D,m,e,c1,c2,c3,hQ⟩:=h;refine ⟨b,A,n,c,D,m,e,c1,c2,c3,hQ.1,hQ.2.1,hQ.2.2.1,?_,?_⟩
 ·rw [hQ.2.1.2.1];exact h1
 rw [hQ.2.2.1.2.1];exact h2
theorem SlS.mono_ {α:Type}{P P':World→Nat→Nat→α→Prop}{s:Nat}{w:World}{A:Option Addr}{n c:Nat}{l:List α}(h:SlS P s w A n c l) (hP:∀ g o a,a∈l→P w g o a→P' w g o a):SlS P' s w A n c l:=by
 refine ⟨h.1,h.2.1,fun hn=>?_⟩;obtain ⟨g,o,e,hg,h3⟩:=h.2.2 hn;exact ⟨g,o,e,hg,fun i a ha=>hP _ _ _ (List.mem_of_getElem? ha) (h3 i a ha)⟩
def mkO:au:=⟨[79],rd 0,rd 0⟩
def mkC:au:=⟨[67],rd 4,rd 0⟩
def bdF:aj:=⟨[102,114,97,109,101],[mkO,mkC]⟩
theorem qv0 (w:World):QV w false none 0 0 none 0 0 0 40:=QV.zero w 40
def VSl {α:Type}(P:World→Nat→Nat→α→Prop) (s n:Nat) (l:List α):Value→World→Prop:=fun v w=>∃ g,v=.slice (some ⟨g,0,none⟩) n n∧SlS P s w (some ⟨g,0,none⟩) n n l
theorem BD {α:Type}{P:World→Nat→Nat→α→Prop}{s g:Nat}{w:World}{a b:α}(hg:g < w.heap.size) (h0:P w g 0 a) (h1:P w g s b):SlS P s w (some ⟨g,0,none⟩) 2 2 [a,b]:=by
 refine ⟨rfl,Qr,fun _=>⟨g,0,rfl,hg,fun i x hx=>?_⟩⟩
 match i,hx with
 | 0,hx=>simp at hx;subst hx;simpa using h0
 | 1,hx=>simp at hx;subst hx;simpa using h1
theorem Aw {α:Type}{P:World→Nat→Nat→α→Prop}{s g:Nat}{w:World}{a:α}(hg:g < w.heap.size) (h0:P w g 0 a):SlS P s w (some ⟨g,0,none⟩) 1 1 [a]:=by
 refine ⟨rfl,Qr,fun _=>⟨g,0,rfl,hg,fun i x hx=>?_⟩⟩
 match i,hx with
 | 0,hx=>simp at hx;subst hx;simpa using h0
theorem QV.rd_ {w:World}{b:Bool}{A D:Option Addr}{n c m e k:Nat}{q:Rat}(h:QV w b A n c D m e q k):QD w b A n c D m e (rd q) k:=h
theorem ph {w:World}{g o:Nat}{nm:List UInt8}{x y:RD}{b b':Bool}{A D A' D':Option Addr}{n c m e n' c' m' e':Nat}(h0:w.cell? ⟨g,o,none⟩=some (ae nm)) (h1:w.cell? ⟨g,o+1,none⟩=some (.bool b)) (h2:w.cell? ⟨g,o+2,none⟩=some (.slice A n c)) (h3:w.cell? ⟨g,o+3,none⟩=some (.slice D m e))
 (h4:w.cell? ⟨g,o+4,none⟩=some (.bool b')) (h5:w.cell? ⟨g,o+5,none⟩=some (.slice A' n' c')) (h6:w.cell? ⟨g,o+6,none⟩=some (.slice D' m' e')) (k1:QD w b A n c D m e x 40) (k2:QD w b' A' n' c' D' m' e' y 40) (hn:NmL nm):dz 40 w g o ⟨nm,x,y⟩ :=
 ⟨h0,⟨b,A,n,c,D,m,e,h1,h2,h3,k1⟩,⟨b',A',n',c',D',m',e',h4,h5,h6,k2⟩,hn⟩
theorem BE {w:World}{nm:List UInt8}{p q:RD}{b b':Bool}{A D A' D':Option Addr}{n c m e n' c' m' e':Nat}{t:TypeId}(h1:QD w b A n c D m e p 40) (h2:QD w b' A' n' c' D' m' e' q 40) (hn:decide (nm.length < 1000)=true) :
 VSl (dz 40) 7 2 [mkO,⟨nm,p,q⟩] (.slice (some ⟨w.heap.size,0,none⟩) 2 2) (w.alloc (.cells #[.string ⟨#[79]⟩,.bool false,.slice none 0 0,.slice none 0 0,.bool false,.slice none 0 0,.slice none 0 0,ae nm,.bool b,.slice A n c,.slice D m e,.bool b',.slice A' n' c',.slice D' m' e'] t)):=by
 have x:=Blk.new w t #[.string ⟨#[79]⟩,.bool false,.slice none 0 0,.slice none 0 0,.bool false,.slice none 0 0,.slice none 0 0,ae nm,.bool b,.slice A n c,.slice D m e,.bool b',.slice A' n' c',.slice D' m' e'];have hb:=(aa w).alloc Qr (.cells #[.string ⟨#[79]⟩,.bool false,.slice none 0 0,.slice none 0 0,.bool false,.slice none 0 0,.slice none 0 0,ae nm,.bool b,.slice A n c,.slice D m e,.bool b',.slice A' n' c',.slice D' m' e'] t);have hn:=of_decide_eq_true hn;exact ⟨w.heap.size,rfl,BD x.lt (ph (x.cell 0) (x.cell 1) (x.cell 2) (x.cell 3) (x.cell 4) (x.cell 5) (x.cell 6) (qv0 _).rd_ (qv0 _).rd_ (by unfold NmL;decide)) (ph (x.cell 7) (x.cell 8) (x.cell 9) (x.cell 10) (x.cell 11) (x.cell 12) (x.cell 13) (h1.belw hb) (h2.belw hb) (by unfold NmL;omega))⟩
theorem LkS.upto {k k':Nat}{w:World}{A B C:Option Addr}{n c p d q e:Nat}{L:ai}(h:LkS k w A n c B p d C q e L) (hk:k≤k'):LkS k' w A n c B p d C q e L:=by
 have hr:∀ g o r,cP w g o r k→cP w g o r k':=fun g o r ⟨b,A,n,c,D,m,e,h1,h2,h3,h4⟩=>⟨b,A,n,c,D,m,e,h1,h2,h3,h4.1,h4.2.1,h4.2.2.1,Nat.le_trans h4.2.2.2.1 hk,Nat.le_trans h4.2.2.2.2 hk⟩
 refine ⟨h.name,h.bodies.mono_ fun g o b _ hp=>?_,h.joints,h.drivers⟩;obtain ⟨A',n',c',c0,c1,hM,hn⟩:=hp;exact ⟨A',n',c',c0,c1,hM.mono_ fun g o m _ hm=>⟨hm.1,hr _ _ _ hm.2.1,hr _ _ _ hm.2.2.1,hm.2.2.2⟩,hn⟩
theorem AA (w:World) (A:Option Addr) (n c:Nat) (B:Option Addr) (p d:Nat) (C:Option Addr) (q e:Nat) (L:ai) (h:LkS 500 w A n c B p d C q e L) (htab:Tab w):Calls Tryz.prog 34 #[.agg #[ae L.name,.slice A n c,.slice B p d,.slice C q e]] w (fun e' w'=>e'=.returned (.tuple #[ae (dp L),be (df L)])∧Below w.heap.size w w'):=by
 by_cases hc:bZ L=0
 ·exact xH w A n c B p d C q e L h htab hc
 have h1:df L=bZ L:=if_pos hc;have h2:dp L=[]:=if_neg (by rw [h1];exact hc);rw [h1,h2];exact vt w A n c B p d C q e L h hc
def sU (k:Nat) (w:World) (g o:Nat) (L:ai):Prop:=∃ A n c B p d C q e,w.cell? ⟨g,o,none⟩=some (ae L.name)∧w.cell? ⟨g,o+1,none⟩=some (.slice A n c)∧w.cell? ⟨g,o+2,none⟩=some (.slice B p d)∧w.cell? ⟨g,o+3,none⟩=some (.slice C q e)∧LkS k w A n c B p d C q e L
theorem sU.belw {k:Nat}{w w':World}{g o:Nat}{L:ai}(h:sU k w g o L) (hb:Below w.heap.size w w'):sU k w' g o L:=by
 obtain ⟨A,n,c,B,p,d,C,q,e,h0,h1,h2,h3,h4⟩:=h;exact ⟨A,n,c,B,p,d,C,q,e,aq h0 hb,aq h1 hb,aq h2 hb,aq h3 hb,h4.belw hb⟩
theorem SlS.lk {k:Nat}{w w':World}{A:Option Addr}{n c:Nat}{l:List ai}(h:SlS (sU k) 4 w A n c l) (hb:Below w.heap.size w w'):SlS (sU k) 4 w' A n c l:=h.belw (fun _ _ _ h=>h.belw hb) hb
def LkC (k:Nat) (w:World) (cs:List Value) (L:ai):Prop:=∃ A n c B p d C q e,cs=[ae L.name,.slice A n c,.slice B p d,.slice C q e]∧LkY k w A n c B p d C q e L
theorem LkC.tch {T:TypeId→Bool}{k:Nat}{w w':World}{cs:List Value}{L:ai}(h:LkC k w cs L) (t:Tch T w w') (h1:T 51=false) (h2:T 81=false) (h3:T 86=false) (h4:T 56=false):LkC k w' cs L:=by
 obtain ⟨A,n,c,B,p,d,C,q,e,h0,hL⟩:=h;exact ⟨A,n,c,B,p,d,C,q,e,h0,hL.tch t h1 h2 h3 h4⟩
theorem LkC.at_ {k:Nat}{w:World}{cs:List Value}{L:ai}{g o:Nat}(x:LkC k w cs L) (hc:∀ j u,cs[j]?=some u→w.cell? ⟨g,o+j,none⟩=some u):sU k w g o L:=by
 obtain ⟨A,n,c,B,p,d,C,q,e,rfl,hL⟩:=x;exact ⟨A,n,c,B,p,d,C,q,e,hc 0 _ rfl,hc 1 _ rfl,hc 2 _ rfl,hc 3 _ rfl,hL.out⟩
abbrev BF (k:Nat) (w:World) (base:Nat) (v:Value) (n:Nat) (Ls:List ai):Prop:=ay 26 (LkC k) 4 w base v n Ls
theorem xI:(Tryz.prog.info? 26).map (fun i=>(i.zero,i.size,i.bytes))=some (some (.agg #[.string ⟨#[]⟩,.slice none 0 0,.slice none 0 0,.slice none 0 0]),4,88):=by kernel_rfl
theorem ay.more {k:Nat}{w w9:World}{base:Nat}{v:Value}{n:Nat}{Ls:List ai}{L:ai}{xs cs:List Value}{v9:Value}(hl:Ls.length=n) (hown:OwJ noW w base 26 4 v n xs) (hr:cl (LkC k) 4 w Ls xs) (hc:LkC k w cs L) (h9:OwJ noW w9 base 26 4 v9 (n+1) (xs ++ cs)) (hg:w.grownBy w9 v.ownBlock) (h4:cs.length=4):BF k w9 base v9 (n+1) (Ls ++ [L]):=by
 have t:Tch (bQ 26) w w9:=Tch.grown (fun _ h=>h) (by simp [bQ]) hown hg;have m:∀ cs a,LkC k w cs a→LkC k w9 cs a:=fun _ _ x=>x.tch t (by decide) (by decide) (by decide) (by decide)
 exact ⟨by rw [List.length_append,hl];rfl,xs ++ cs,h9,(hr.map_ m).snoc (m _ _ hc) h4⟩
structure ce where
  kind:Int
  name:List UInt8
  text:List UInt8
def EdC (_:World) (cs:List Value) (e:ce):Prop:=cs=[.int .i64 e.kind,ae e.name,ae e.text]
def il (w:World) (g o:Nat) (e:ce):Prop:=w.cell? ⟨g,o,none⟩=some (.int .i64 e.kind)∧w.cell? ⟨g,o+1,none⟩=some (ae e.name)∧w.cell? ⟨g,o+2,none⟩=some (ae e.text)
theorem EdC.at_ {w:World}{cs:List Value}{e:ce}{g o:Nat}(x:EdC w cs e) (hc:∀ j u,cs[j]?=some u→w.cell? ⟨g,o+j,none⟩=some u):il w g o e:=by
 subst x;exact ⟨hc 0 _ rfl,hc 1 _ rfl,hc 2 _ rfl⟩
theorem il.belw {w w':World}{g o:Nat}{e:ce}(h:il w g o e) (hb:Below w.heap.size w w'):il w' g o e:=⟨aq h.1 hb,aq h.2.1 hb,aq h.2.2 hb⟩
abbrev BG (w:World) (base:Nat) (v:Value) (n:Nat) (l:List ce):Prop:=ay 39 EdC 3 w base v n l
theorem ay.eds {w:World}{base:Nat}{A:Option Addr}{n c:Nat}{l:List ce}(h:BG w base (.slice A n c) n l):SlS il 3 w A n c l:=(h.slT (P:=il) fun _ _ _ _ x hc=>x.at_ hc).sl fun _ _ _ x=>x
theorem OwJ.cut {J:Value→Bool}{w:World}{base:Nat}{e:TypeId}{size:Nat}{g n cap:Nat}{xs:List Value}(h:OwJ J w base e size (.slice (some ⟨g,0,none⟩) n cap) n xs) {m:Nat}(hm:m≤n):OwJ J w base e size (.slice (some ⟨g,0,none⟩) m cap) m (xs.take (m * size)):=by
 have hmn:m * size≤n * size:=Nat.mul_le_mul_right _ hm;refine ⟨by rw [List.length_take,h.1];omega,?_⟩;rcases h.2 with ⟨h1,_⟩ | ⟨g',cap',cur,h1,h2,h3,h4,h5,h6,h7,h8⟩
 ·cases h1
 injection h1 with a1 _ a3;injection a1 with a1;injection a1 with a1;subst a1 a3;exact .inr ⟨g,cap,cur,rfl,h2,h3,by omega,h5,h6,by rw [← h7,List.take_take,Nat.min_eq_left hmn],h8⟩
theorem cl.cut {α:Type}{Pc:World→List Value→α→Prop}{s:Nat}{w:World}{l:List α}{xs:List Value}(h:cl Pc s w l xs) (m:Nat):cl Pc s w (l.take m) (xs.take (m * s)):=by
 obtain ⟨css,e,hl,hall,hp⟩:=h
 have hf:∀ (css:List (List Value)) (m:Nat),(∀ cs∈css,cs.length=s)→css.flatten.take (m * s)=(css.take m).flatten:=by
  intro css
  induction css with
  | nil=>intro m _;simp
  | cons c css ih =>
   intro m hc
   cases m with
   | zero=>simp
   | succ m =>
    rw [List.take_succ_cons,List.flatten_cons,List.flatten_cons,List.take_append,hc c (by simp),← ih m fun x hx=>hc x (by simp [hx]),List.take_of_length_le (by rw [hc c (by simp),Nat.succ_mul];omega),show (m+1) * s - s=m * s by rw [Nat.succ_mul];omega]
 refine ⟨css.take m,by rw [e,hf css m hall],by rw [List.length_take,List.length_take,hl],fun cs hcs=>hall cs (List.mem_of_mem_take hcs),fun i a cs ha hc=>?_⟩;rw [List.getElem?_take] at ha hc;split at ha
 ·rename_i h9
  rw [if_pos h9] at hc;exact hp i a cs ha hc
 cases ha
theorem ay.cut {α:Type}{T0:TypeId}{Pc:World→List Value→α→Prop}{s:Nat}{w:World}{base:Nat}{g n cap:Nat}{l:List α}(h:ay T0 Pc s w base (.slice (some ⟨g,0,none⟩) n cap) n l) {m:Nat}(hm:m≤n):ay T0 Pc s w base (.slice (some ⟨g,0,none⟩) m cap) m (l.take m):=by
 obtain ⟨hl,xs,h1,h2⟩:=h;exact ⟨by rw [List.length_take,hl];omega,_,h1.cut hm,h2.cut m⟩
structure io where
  now:ai
  before:List ai
  done:List ce
  undone:List ce
theorem pi {s:Nat}:∀ {css:List (List Value)}{j:Nat}{u:Value},(∀ x∈css,x.length=s)→css.flatten[j]?=some u→∃ i r cs,j=i * s+r∧css[i]?=some cs∧cs[r]?=some u
 | [],j,u,_,h=>by simp at h
 | x :: css,j,u,hl,h=>by
  have hx:=hl x (by simp);rw [List.flatten_cons] at h;rcases Nat.lt_or_ge j s with hj | hj
  ·rw [List.getElem?_append_left (by omega)] at h
   exact ⟨0,j,x,by omega,rfl,h⟩
  rw [List.getElem?_append_right (by omega),hx] at h;obtain ⟨i,r,cs,e,h1,h2⟩:=pi (fun y hy=>hl y (by simp [hy])) h;exact ⟨i+1,r,cs,by rw [Nat.add_mul];omega,by simpa using h1,h2⟩
theorem SlS.all_ {α:Type}{P:World→Nat→Nat→α→Prop}{s:Nat}{w:World}{A:Option Addr}{n c:Nat}{l:List α}(h:SlS P s w A n c l):∀ a∈l,∃ g o,P w g o a:=by
 intro a ha;obtain ⟨i,hi⟩:=List.mem_iff_getElem?.1 ha;have hn:i < n:=by rw [← h.1];exact (List.getElem?_eq_some_iff.1 hi).1
 obtain ⟨g,o,_,_,h3⟩:=h.2.2 (by omega);exact ⟨g,_,h3 i a hi⟩
theorem SlS.news {α:Type}{P:World→Nat→Nat→α→Prop}{s:Nat}{w:World}{g o n c:Nat}{l:List α}(f:α→List Value) (hf:∀ a,(f a).length=s) (hP:∀ g o a,P w g o a→∀ r u,(f a)[r]?=some u→w.cell? ⟨g,o+r,none⟩=some u) (h:SlS P s w (some ⟨g,o,none⟩) n c l):∀ j u,(l.map f).flatten[j]?=some u→w.cell? ⟨g,o+j,none⟩=some u:=by
 intro j u hj;rcases Nat.eq_zero_or_pos n with h0 | h0
 ·have:l=[]:=List.eq_nil_of_length_eq_zero (by rw [h.1,h0])
  subst this;simp at hj
 obtain ⟨g',o',e,_,h3⟩:=h.2.2 h0;injection e with e;injection e with e1 e2 _;subst e1 e2;obtain ⟨i,r,cs,ej,h4,h5⟩:=pi (fun x hx=>by obtain ⟨a,_,rfl⟩:=List.mem_map.1 hx;exact hf a) hj;rw [List.getElem?_map] at h4;obtain ⟨a,ha,rfl⟩:=Option.map_eq_some_iff.1 h4;rw [ej,← Nat.add_assoc];exact hP _ _ _ (h3 i a ha) r u h5
theorem cl.of_map {α:Type}{Pc:World→List Value→α→Prop}{s:Nat}{w:World}(f:α→List Value) (hf:∀ a,(f a).length=s) (l:List α) (hP:∀ a∈l,Pc w (f a) a):cl Pc s w l (l.map f).flatten:=by
 refine ⟨l.map f,rfl,by simp,fun x hx=>by obtain ⟨a,_,rfl⟩:=List.mem_map.1 hx;exact hf a,fun i a cs ha hc=>?_⟩;rw [List.getElem?_map,ha] at hc;injection hc with hc;subst hc;exact hP a (List.mem_of_getElem? ha)
theorem kj {α:Type}{s:Nat}(f:α→List Value) (hf:∀ a,(f a).length=s):∀ l:List α,(l.map f).flatten.length=l.length * s
 | []=>by simp
 | a :: l=>by rw [List.map_cons,List.flatten_cons,List.length_append,hf,kj f hf l,List.length_cons,Nat.add_mul];omega
theorem fi {α:Type}(p:Value→Prop) (f:α→List Value) (l:List α) (h:∀ a,∀ u∈f a,p u):∀ u∈(l.map f).flatten,p u:=by
 intro u hu;obtain ⟨x,hx,hu⟩:=List.mem_flatten.1 hu;obtain ⟨a,_,rfl⟩:=List.mem_map.1 hx;exact h a u hu
def jtV (j:aK):List Value:=[ae j.name,.int .i64 j.kind,.int .i64 j.a,.int .i64 j.point,.int .i64 j.b,.int .i64 j.on,.int .i64 j.to_]
def drV (d:aQ):List Value:=[ae d.name,.int .i64 d.body]
def edV (e:ce):List Value:=[.int .i64 e.kind,ae e.name,ae e.text]
theorem AB {w:World}{g o:Nat}{a:aK}(h:iZ w g o a) (r:Nat) (u:Value) (hu:(jtV a)[r]?=some u):w.cell? ⟨g,o+r,none⟩=some u:=by
 obtain ⟨h0,h1,h2,h3,h4,h5,h6,_⟩:=h
 match r,hu with
 | 0,hu=>injection hu with hu;subst hu;exact h0
 | 1,hu=>injection hu with hu;subst hu;exact h1
 | 2,hu=>injection hu with hu;subst hu;exact h2
 | 3,hu=>injection hu with hu;subst hu;exact h3
 | 4,hu=>injection hu with hu;subst hu;exact h4
 | 5,hu=>injection hu with hu;subst hu;exact h5
 | 6,hu=>injection hu with hu;subst hu;exact h6
theorem AD {w:World}{g o:Nat}{a:aQ}(h:jc w g o a) (r:Nat) (u:Value) (hu:(drV a)[r]?=some u):w.cell? ⟨g,o+r,none⟩=some u:=by
 obtain ⟨h0,h1,_⟩:=h
 match r,hu with
 | 0,hu=>injection hu with hu;subst hu;exact h0
 | 1,hu=>injection hu with hu;subst hu;exact h1
theorem AE {w:World}{g o:Nat}{a:ce}(h:il w g o a) (r:Nat) (u:Value) (hu:(edV a)[r]?=some u):w.cell? ⟨g,o+r,none⟩=some u:=by
 obtain ⟨h0,h1,h2⟩:=h
 match r,hu with
 | 0,hu=>injection hu with hu;subst hu;exact h0
 | 1,hu=>injection hu with hu;subst hu;exact h1
 | 2,hu=>injection hu with hu;subst hu;exact h2
theorem m9:(Tryz.prog.info? 39).map (fun i=>(i.zero,i.size,i.bytes))=some (some (.agg #[.int .i64 0,.string ⟨#[]⟩,.string ⟨#[]⟩]),3,40):=by kernel_rfl
theorem qq (w:World) (A:Option Addr) (n c:Nat) (l:List aK) (h:SlS iZ 7 w A n c l) (hn:n≤100000):Calls Tryz.prog 58 #[.slice A n c] w (fun e w'=>∃ v,e=.returned v∧ay 81 JtC 7 w' w.heap.size v n l∧Below w.heap.size w w'):=by
 obtain ⟨i0,hi0,hz0,hz1,hz2⟩:=info_parts gP;have qe:∀ (w:World) (a:Option Addr) (n c n' c':Nat),(binOp .eql 23 (.slice a n c) (.slice none n' c')).run Tryz.prog w=.ok (.bool a.isNone) w:=fun w a n c n' c'=>Lib.run_eql_slice_nil w _ _ a n c n' c' Tryz.underlying23
 have hl:=h.1
 cases A with
 | none =>
  have h0:n=0:=by
   rcases Nat.eq_zero_or_pos n with h0 | h0
   ·exact h0
   obtain ⟨_,_,e,_⟩:=h.2.2 h0;cases e
  subst h0;obtain rfl:l=[]:=List.eq_nil_of_length_eq_zero hl;clear h;go_in;go_wp2;go_ret;exact ⟨_,rfl,ay.nil,aa _⟩
 | some ad =>
  rcases Nat.eq_zero_or_pos n with h0 | h0
  ·subst h0
   obtain rfl:l=[]:=List.eq_nil_of_length_eq_zero hl;clear h;go_in;go_wp2;go_ret;exact ⟨_,rfl,⟨rfl,[],⟨rfl,.inr ⟨w.heap.size,0,#[],rfl,Qr,heap_alloc_new w _,Qr,Nat.zero_le _,rfl,rfl,rfl⟩⟩,cl.nil⟩,(aa w).alloc Qr _⟩
  obtain ⟨g,o,e,hg,_⟩:=h.2.2 h0;injection e with e;subst e;have HN:=Qh (h.news jtV (fun _=>rfl) fun _ _ _ p r u=>AB p r u);have hR:cl JtC 7 w l (l.map jtV).flatten:=cl.of_map jtV (fun _=>rfl) l fun a ha=>by obtain ⟨_,_,ha⟩:=h.all_ a ha;exact ⟨rfl,ha.2.2.2.2.2.2.2⟩
  have hfl:=kj (s:=7) jtV (fun _=>rfl) l;rw [hl] at hfl;have h1:=fi (fun u=>u.oneCell'=true) jtV l (fun a u hu=>by simp [jtV] at hu;rcases hu with rfl | rfl | rfl | rfl | rfl | rfl | rfl <;> rfl);have h2:(l.map jtV).flatten.all noW=true:=List.all_eq_true.2 (fi (fun u=>noW u=true) jtV l (fun a u hu=>by simp [jtV] at hu;rcases hu with rfl | rfl | rfl | rfl | rfl | rfl | rfl <;> rfl));clear h;go_in;go_wp2_with (at_builtin;refine bL _ rfl noW _ _ _ rfl w.heap.size 81 i0 (.agg #[.string ⟨#[]⟩,.int .i64 0,.int .i64 0,.int .i64 0,.int .i64 0,.int .i64 0,.int .i64 0]) 7 64 Tryz.underlying23 hi0 hz0 hz1 hz2 rfl (by omega) rfl _ 0 [] rfl (⟨rfl,.inr ⟨w.heap.size,0,#[],rfl,Qr,heap_alloc_new w _,Qr,Nat.zero_le _,rfl,rfl,rfl⟩⟩) ⟨g,o,none⟩ n c (l.map jtV).flatten rfl hfl (fun j u hj=>by rw [Addr.add_lit];exact Lib.cell?_alloc_some _ (HN.out j u hj)) h1 h2 h0 (by unfold maxLen;omega) (by omega) (by simp) ?_;intro gx cap wz hown1 hgrow hor);have hB:Below w.heap.size w (w.alloc (.cells #[] 81)):=(aa w).alloc Qr _;have hbz:Below w.heap.size w wz:=hB.grown hgrow (by simp) (by intro k hk;have hk:some w.heap.size=some k:=hk;injection hk with hk;omega);go_wp2;go_ret;rw [Nat.zero_add,List.nil_append] at hown1;exact ⟨_,rfl,⟨hl,_,hown1,hR.map_ fun _ _ x=>x⟩,hbz⟩
theorem qr (w:World) (A:Option Addr) (n c:Nat) (l:List aQ) (h:SlS jc 2 w A n c l) (hn:n≤100000):Calls Tryz.prog 59 #[.slice A n c] w (fun e w'=>∃ v,e=.returned v∧ay 86 DrC 2 w' w.heap.size v n l∧Below w.heap.size w w'):=by
 obtain ⟨i0,hi0,hz0,hz1,hz2⟩:=info_parts gQ;have qe:∀ (w:World) (a:Option Addr) (n c n' c':Nat),(binOp .eql 24 (.slice a n c) (.slice none n' c')).run Tryz.prog w=.ok (.bool a.isNone) w:=fun w a n c n' c'=>Lib.run_eql_slice_nil w _ _ a n c n' c' Tryz.underlying24
 have hl:=h.1
 cases A with
 | none =>
  have h0:n=0:=by
   rcases Nat.eq_zero_or_pos n with h0 | h0
   ·exact h0
   obtain ⟨_,_,e,_⟩:=h.2.2 h0;cases e
  subst h0;obtain rfl:l=[]:=List.eq_nil_of_length_eq_zero hl;clear h;go_in;go_wp2;go_ret;exact ⟨_,rfl,ay.nil,aa _⟩
 | some ad =>
  rcases Nat.eq_zero_or_pos n with h0 | h0
  ·subst h0
   obtain rfl:l=[]:=List.eq_nil_of_length_eq_zero hl;clear h;go_in;go_wp2;go_ret;exact ⟨_,rfl,⟨rfl,[],⟨rfl,.inr ⟨w.heap.size,0,#[],rfl,Qr,heap_alloc_new w _,Qr,Nat.zero_le _,rfl,rfl,rfl⟩⟩,cl.nil⟩,(aa w).alloc Qr _⟩
  obtain ⟨g,o,e,hg,_⟩:=h.2.2 h0;injection e with e;subst e;have HN:=Qh (h.news drV (fun _=>rfl) fun _ _ _ p r u=>AD p r u);have hR:cl DrC 2 w l (l.map drV).flatten:=cl.of_map drV (fun _=>rfl) l fun a ha=>by obtain ⟨_,_,ha⟩:=h.all_ a ha;exact ⟨rfl,ha.2.2⟩
  have hfl:=kj (s:=2) drV (fun _=>rfl) l;rw [hl] at hfl;have h1:=fi (fun u=>u.oneCell'=true) drV l (fun a u hu=>by simp [drV] at hu;rcases hu with rfl | rfl <;> rfl);have h2:(l.map drV).flatten.all noW=true:=List.all_eq_true.2 (fi (fun u=>noW u=true) drV l (fun a u hu=>by simp [drV] at hu;rcases hu with rfl | rfl <;> rfl));clear h;go_in;go_wp2_with (at_builtin;refine bL _ rfl noW _ _ _ rfl w.heap.size 86 i0 (.agg #[.string ⟨#[]⟩,.int .i64 0]) 2 24 Tryz.underlying24 hi0 hz0 hz1 hz2 rfl (by omega) rfl _ 0 [] rfl (⟨rfl,.inr ⟨w.heap.size,0,#[],rfl,Qr,heap_alloc_new w _,Qr,Nat.zero_le _,rfl,rfl,rfl⟩⟩) ⟨g,o,none⟩ n c (l.map drV).flatten rfl hfl (fun j u hj=>by rw [Addr.add_lit];exact Lib.cell?_alloc_some _ (HN.out j u hj)) h1 h2 h0 (by unfold maxLen;omega) (by omega) (by simp) ?_;intro gx cap wz hown1 hgrow hor);have hB:Below w.heap.size w (w.alloc (.cells #[] 86)):=(aa w).alloc Qr _;have hbz:Below w.heap.size w wz:=hB.grown hgrow (by simp) (by intro k hk;have hk:some w.heap.size=some k:=hk;injection hk with hk;omega);go_wp2;go_ret;rw [Nat.zero_add,List.nil_append] at hown1;exact ⟨_,rfl,⟨hl,_,hown1,hR.map_ fun _ _ x=>x⟩,hbz⟩
theorem qw (w:World) (A:Option Addr) (n c:Nat) (l:List ce) (h:SlS il 3 w A n c l) (hn:n≤100000):Calls Tryz.prog 33 #[.slice A n c] w (fun e w'=>∃ v,e=.returned v∧ay 39 EdC 3 w' w.heap.size v n l∧Below w.heap.size w w'):=by
 obtain ⟨i0,hi0,hz0,hz1,hz2⟩:=info_parts m9;have qe:∀ (w:World) (a:Option Addr) (n c n' c':Nat),(binOp .eql 42 (.slice a n c) (.slice none n' c')).run Tryz.prog w=.ok (.bool a.isNone) w:=fun w a n c n' c'=>Lib.run_eql_slice_nil w _ _ a n c n' c' Tryz.underlying42
 have hl:=h.1
 cases A with
 | none =>
  have h0:n=0:=by
   rcases Nat.eq_zero_or_pos n with h0 | h0
   ·exact h0
   obtain ⟨_,_,e,_⟩:=h.2.2 h0;cases e
  subst h0;obtain rfl:l=[]:=List.eq_nil_of_length_eq_zero hl;clear h;go_in;go_wp2;go_ret;exact ⟨_,rfl,ay.nil,aa _⟩
 | some ad =>
  rcases Nat.eq_zero_or_pos n with h0 | h0
  ·subst h0
   obtain rfl:l=[]:=List.eq_nil_of_length_eq_zero hl;clear h;go_in;go_wp2;go_ret;exact ⟨_,rfl,⟨rfl,[],⟨rfl,.inr ⟨w.heap.size,0,#[],rfl,Qr,heap_alloc_new w _,Qr,Nat.zero_le _,rfl,rfl,rfl⟩⟩,cl.nil⟩,(aa w).alloc Qr _⟩
  obtain ⟨g,o,e,hg,_⟩:=h.2.2 h0;injection e with e;subst e;have HN:=Qh (h.news edV (fun _=>rfl) fun _ _ _ p r u=>AE p r u);have hR:cl EdC 3 w l (l.map edV).flatten:=cl.of_map edV (fun _=>rfl) l fun a ha=>rfl
  have hfl:=kj (s:=3) edV (fun _=>rfl) l;rw [hl] at hfl;have h1:=fi (fun u=>u.oneCell'=true) edV l (fun a u hu=>by simp [edV] at hu;rcases hu with rfl | rfl | rfl <;> rfl);have h2:(l.map edV).flatten.all noW=true:=List.all_eq_true.2 (fi (fun u=>noW u=true) edV l (fun a u hu=>by simp [edV] at hu;rcases hu with rfl | rfl | rfl <;> rfl));clear h;go_in;go_wp2_with (at_builtin;refine bL _ rfl noW _ _ _ rfl w.heap.size 39 i0 (.agg #[.int .i64 0,.string ⟨#[]⟩,.string ⟨#[]⟩]) 3 40 Tryz.underlying42 hi0 hz0 hz1 hz2 rfl (by omega) rfl _ 0 [] rfl (⟨rfl,.inr ⟨w.heap.size,0,#[],rfl,Qr,heap_alloc_new w _,Qr,Nat.zero_le _,rfl,rfl,rfl⟩⟩) ⟨g,o,none⟩ n c (l.map edV).flatten rfl hfl (fun j u hj=>by rw [Addr.add_lit];exact Lib.cell?_alloc_some _ (HN.out j u hj)) h1 h2 h0 (by unfold maxLen;omega) (by omega) (by simp) ?_;intro gx cap wz hown1 hgrow hor);have hB:Below w.heap.size w (w.alloc (.cells #[] 39)):=(aa w).alloc Qr _;have hbz:Below w.heap.size w wz:=hB.grown hgrow (by simp) (by intro k hk;have hk:some w.heap.size=some k:=hk;injection hk with hk;omega);go_wp2;go_ret;rw [Nat.zero_add,List.nil_append] at hown1;exact ⟨_,rfl,⟨hl,_,hown1,hR.map_ fun _ _ x=>x⟩,hbz⟩
def lc (l:List Oper) (i:Nat):Nat→Nat→Bool
  | 0,m=>i == m
  | f+1,m=>i == m || match l[m]? with | some o=>o.after.any (fun e=>Region.binds .any e && lc l i f e.on) | none=>false
theorem rn {l:List Oper}{i:Nat}{L:Array Bool}(hcl:∀ i o,l.toArray[i]?=some o→L.getD i false=true→∀ e∈o.after,Region.binds .any e=true→L.getD e.on false=true):∀ (f m:Nat),lc l i f m=true→L.getD m false=true→L.getD i false=true
 | 0,m,h,hm=>by
  unfold lc at h;rw [beq_iff_eq] at h;subst h;exact hm
 | f+1,m,h,hm=>by
  unfold lc at h;rw [Bool.or_eq_true] at h;rcases h with h | h
  ·rw [beq_iff_eq] at h
   subst h;exact hm
  cases hl:l[m]? with
  | none=>rw [hl] at h;cases h
  | some o =>
   rw [hl] at h;obtain ⟨e,he,h3⟩:=Array.any_eq_true'.1 h;rw [Bool.and_eq_true] at h3;exact rn hcl f e.on h3.2 (hcl m o (by simpa using hl) hm e he h3.1)
section
variable (P:Program) (ops:List Oper) (Q:Exit→Act→World→Prop) (fr:(Nat→Value)→Act) (R:Nat→Nat→Value→World→Prop) (T:Nat→World→Prop)
def BH (sl:List Nat) (L:Array Bool) (a:Act) (w:World):Prop :=
  ∃ x k,a=fr x∧k≤sl.length∧T k w∧(∀ i j,stl sl i=some j→(L.getD i false=true ↔ j < k))∧(∀ i,L.getD i false=true→R k i (x i) w) ∧
  (∀ i o,ops.toArray[i]?=some o→L.getD i false=true→∀ e∈o.after,Region.binds .any e=true→L.getD e.on false=true)
def AF (k i:Nat) (o:Oper):Prop :=
  ∀ x wq,T k wq→(∀ e∈o.after,Region.binds .any e=true→R k e.on (x e.on) wq)→∀ K':Act→World→Prop,Shut (∀ v w',R k i v w'→Below wq.heap.size wq w'→K' ((fr x).put o.dst v) w') →
      if Region.wanted o (yielded ops.toArray (fr x).tmps)=true then Oper.wp P o (fr x) wq K' Q else K' ((fr x).put o.dst undef) wq
def zc (k i:Nat) (o:Oper):Prop :=
  ∀ x wq (D:Nat→Prop),¬ D i→T k wq→(∀ e∈o.after,Region.binds .any e=true→D e.on)→(∀ i,D i→R k i (x i) wq)→∀ K':Act→World→Prop,Shut (∀ v w',T (k+1) w'→R (k+1) i v w'→(∀ i',D i'→R (k+1) i' (x i') w')→K' ((fr x).put o.dst v) w') →
      if Region.wanted o (yielded ops.toArray (fr x).tmps)=true then Oper.wp P o (fr x) wq K' Q else K' ((fr x).put o.dst undef) wq
end
section
variable {P:Program}{ops:List Oper}{Q:Exit→Act→World→Prop}{fr:(Nat→Value)→Act}{R:Nat→Nat→Value→World→Prop}{T:Nat→World→Prop}{id:Nat}{w:World}{x0:Nat→Value}
theorem cE (sl late:List Nat) (hm:P.follows .mixedOrders=true)
 (hput:∀ i o,ops.toArray[i]?=some o→∀ x v,(fr x).put o.dst v=fr (upd x i v))
 (hac:∀ i o,ops.toArray[i]?=some o→∀ e∈o.after,Region.binds .any e=true→e.on < i)
 (hsl:∀ i∈sl,i < ops.length) (hidx:∀ j,j < sl.length→∃ i,sl[j]?=some i∧stl sl i=some j)
 (hchain:∀ i o j,ops.toArray[i]?=some o→sl[j+1]?=some i→∃ e∈o.after,Region.binds .any e=true∧stl sl e.on=some j)
 (hpath:∀ i,i < ops.length→i ∉ sl→i ∉ late→lc ops i ops.length (sl.headD 0)=true)
 (hR:∀ k i v w w',R k i v w→Below w.heap.size w w'→R k i v w')
 (hT:∀ k w w',T k w→Below w.heap.size w w'→T k w')
 (h0:T 0 w.drew)
 (hgrow:∀ i o,ops.toArray[i]?=some o→i ∉ sl→∀ k,k≤sl.length→(i ∉ late→k=0)→AF P ops Q fr R T k i o)
 (hstage:∀ k i o,sl[k]?=some i→ops.toArray[i]?=some o→zc P ops Q fr R T k i o)
 (hend:∀ x w',T sl.length w'→(∀ i,i < ops.length→R sl.length i (x i) w')→Q .normal (fr x) w') :
 (Code.region id ops.toArray true).wp P Q (fr x0) w:=by
 refine wp_region_any hm (jH (fun L a w'=>BH ops fr R T sl L a w') ?_ ?_ _ _ _ _ (by simp) ?_ ?_)
 ·rintro L a w1 i hs hi ⟨x,k,rfl,hkK,hTk,hLk,hr,hcl⟩
  obtain ⟨hun,o,ho,hall'⟩:=mem_ready.1 hi
  have hlt:i < L.size:=by
   rcases Nat.lt_or_ge i L.size with h | h
   ·exact h
   rw [Array.getD_eq_getD_getElem?,Array.getElem?_eq_none h] at hun;cases hun
  have hunf:L.getD i false=false:=by
   rw [Array.getD_eq_getD_getElem?,Array.getElem?_eq_getElem hlt] at hun ⊢;exact hun
  have hin:i < ops.length:=by
   rcases Nat.lt_or_ge i ops.length with h | h
   ·exact h
   rw [Array.getElem?_eq_none (by simpa using h)] at ho;cases ho
  refine wpOp_step ho fun K' hK=>?_
  have hr':∀ k' v w',R k' i v w'→(∀ j,L.getD j false=true→R k' j (x j) w')→∀ j,(L.setIfInBounds i true).getD j false=true→R k' j (upd x i v j) w':=by
   intro k' v w' hv hx j hj;by_cases h:j=i
   ·subst h;rw [eX];exact hv
   rw [bm _ _ h];rw [ax hlt] at hj;exact hx j (by simpa [h] using hj)
  cases hsi:stl sl i with
  | none =>
   have hni:=vo hsi;refine hgrow i o ho hni k hkK ?_ x w1 hTk (fun e he hbd=>hr _ (hall' e he hbd)) K' (fun v w' hRv hbw=>hK _ _ ⟨upd x i v,k,hput i o ho x v,hkK,hT _ _ _ hTk hbw,fun i' j hj=>?_,hr' k v w' hRv (fun j hj=>hR _ _ _ _ _ (hr j hj) hbw),jj hlt ho hall' hcl⟩)
   ·intro hla
    rcases Nat.eq_zero_or_pos k with h | h
    ·exact h
    exfalso;obtain ⟨i',h1,h2⟩:=hidx 0 (by omega);have h3:=(hLk i' 0 h2).2 h;have h4:sl.headD 0=i':=by cases sl <;> simp_all
    have:=rn hcl _ _ (hpath i hin hni hla) (by rw [h4];exact h3);rw [hunf] at this;cases this
   have hne:i'≠i:=by rintro rfl;rw [hsi] at hj;cases hj
   rw [ax hlt,← hLk i' j hj];simp [hne]
  | some j0 =>
   have hk:k=j0:=by
    have h1:¬ j0 < k:=fun h=>by
     have:=(hLk i j0 hsi).2 h;rw [hunf] at this;cases this
    cases j0 with
    | zero=>omega
    | succ j =>
     obtain ⟨e,he,hbd,hse⟩:=hchain i o j ho (fU hsi);have:=(hLk e.on j hse).1 (hall' e he hbd);omega
   subst hk;refine hstage k i o (fU hsi) ho x w1 (fun i=>L.getD i false=true) (by simp [hunf]) hTk (fun e he hbd=>hall' e he hbd) hr K' (fun v w' hTv hRv hRo=>hK _ _ ⟨upd x i v,k+1,hput i o ho x v,ii (fU hsi),hTv,fun i' j hj=>?_,hr' (k+1) v w' hRv hRo,jj hlt ho hall' hcl⟩);rw [ax hlt];by_cases h:i'=i
   ·subst h
    rw [hsi] at hj;injection hj with hj;subst hj;simp
   ·have hjk:j≠k:=fun e=>h (by
     have h1:=fU hj;have h2:=fU hsi;rw [e,h2] at h1;injection h1 with h1
     exact h1.symm)
    rw [show (decide (i'=i) || L.getD i' false)=L.getD i' false by simp [h],hLk i' j hj];omega
 ·rintro L a w1 hs hr0 ⟨x,k,rfl,hkK,hTk,hLk,hr,hcl⟩
  have hallL:∀ i,i < ops.length→L.getD i false=true:=by
   intro i
   induction i using Nat.strongRecOn with
   | ind i ih =>
    intro hi;have hi2:i < ops.toArray.size:=by simpa using hi
    cases h:L.getD i false
    ·exfalso
     have:i∈Region.ready .any ops.toArray L:=by
      refine mem_ready.2 ⟨?_,ops.toArray[i],Array.getElem?_eq_getElem hi2,fun e he hbd=>?_⟩
      ·rw [Array.getD_eq_getD_getElem?,Array.getElem?_eq_getElem (by omega)] at h ⊢;exact h
      have h1:=hac i _ (Array.getElem?_eq_getElem hi2) e he hbd;exact ih e.on h1 (by omega)
     rw [hr0] at this;cases this
    rfl
  have hkk:k=sl.length:=by
   rcases Nat.lt_or_ge k sl.length with h | h
   ·obtain ⟨i',h1,hi'⟩:=hidx k h
    have:=(hLk i' k hi').1 (hallL i' (hsl i' (List.mem_of_getElem? h1)));omega
   omega
  subst hkk;exact hend x w1 hTk (fun i hi=>hr i (hallL i hi))
 ·simp
 ·have hz:∀ j,(Array.replicate ops.toArray.size false).getD j false=false:=by
   intro j;rw [Array.getD_eq_getD_getElem?,Array.getElem?_replicate];split <;> rfl
  refine ⟨x0,0,rfl,Nat.zero_le _,h0,fun i j hj=>?_,fun i h=>?_,fun i o _ h=>?_⟩
  ·rw [hz];simp
  ·rw [hz] at h;cases h
  rw [hz] at h;cases h
end
def BI (sl:List Nat):Bool:=(List.range sl.length).all fun j=>match sl[j]? with | some i=>stl sl i == some j | none=>false
theorem jU {sl:List Nat}(h:BI sl=true):∀ j,j < sl.length→∃ i,sl[j]?=some i∧stl sl i=some j:=by
 intro j hj;have h1:=(List.all_eq_true.1 h) j (List.mem_range.2 hj);rw [List.getElem?_eq_getElem hj] at h1 ⊢;exact ⟨_,rfl,by simpa using h1⟩
def ze (ops:List Oper) (sl:List Nat):Bool:=(List.range sl.length).all fun j=>match sl[j+1]? with | some i=>(match ops[i]? with | some o=>o.after.any (fun e=>Region.binds .any e && stl sl e.on == some j) | none=>true) | none=>true
theorem fj {ops:List Oper}{sl:List Nat}(h:ze ops sl=true):∀ i o j,ops.toArray[i]?=some o→sl[j+1]?=some i→∃ e∈o.after,Region.binds .any e=true∧stl sl e.on=some j:=by
 intro i o j ho hj;have hl:=(List.getElem?_eq_some_iff.1 hj).1;have h1:=(List.all_eq_true.1 h) j (List.mem_range.2 (by omega));rw [hj] at h1;have ho:ops[i]?=some o:=by simpa using ho
 simp only [ho] at h1;obtain ⟨e,he,h3⟩:=Array.any_eq_true'.1 h1;rw [Bool.and_eq_true] at h3;exact ⟨e,he,h3.1,by simpa using h3.2⟩
def zf (ops:List Oper) (sl late:List Nat):Bool:=(List.range ops.length).all fun i=>sl.contains i || late.contains i || lc ops i ops.length (sl.headD 0)
theorem fk {ops:List Oper}{sl late:List Nat}(h:zf ops sl late=true):∀ i,i < ops.length→i ∉ sl→i ∉ late→lc ops i ops.length (sl.headD 0)=true:=by
 intro i hi h1 h2;have h3:=(List.all_eq_true.1 h) i (List.mem_range.2 hi);simpa [h1,h2] using h3
def jq (l:List (Value→World→Prop)):Nat→Value→World→Prop:=fun i=>l.getD i eK
def cg:List (Nat × (Value→World→Prop))→Nat→Value→World→Prop
  | [],_=>eK
  | p :: r,i=>if i=p.1 then p.2 else cg r i
def AG (D:Nat→Prop) (x:Nat→Value) (w:World):List (Nat × (Value→World→Prop))→Prop
  | []=>True
  | p :: r=>(D p.1→p.2 (x p.1) w)∧AG D x w r
theorem cg.all {D:Nat→Prop}{x:Nat→Value}{w:World}:∀ {l:List (Nat × (Value→World→Prop))},AG D x w l→∀ i,D i→cg l i (x i) w
 | [],_,_,_=>trivial
 | p :: r,h,i,hi=>by
  unfold cg;split
  ·rename_i e;subst e;exact h.1 hi
  exact cg.all (l:=r) h.2 i hi
def AH:List (Nat × (Value→World→Prop))→Prop
  | []=>True
  | p :: r=>Grw p.2∧AH r
theorem jq.grw {l:List (Value→World→Prop)}(h:kV l) (i:Nat):Grw (jq l i):=fun v w w' hx hb=>kV.get l h i v w w' hx hb
theorem cg.grw:∀ {l:List (Nat × (Value→World→Prop))},AH l→∀ i,Grw (cg l i)
 | [],_,_=>kW
 | p :: r,h,i=>by
  unfold cg;split
  ·exact h.1
  exact cg.grw (l:=r) h.2 i
def R2 (LL:List (Nat→Value→World→Prop)):Nat→Nat→Value→World→Prop:=fun k=>LL.getD k fun _=>eK
def ro:List (Nat→Value→World→Prop)→Prop
  | []=>True
  | l :: r=>(∀ i,Grw (l i))∧ro r
theorem R2.grw:∀ {LL:List (Nat→Value→World→Prop)},ro LL→∀ k i v w w',R2 LL k i v w→Below w.heap.size w w'→R2 LL k i v w'
 | [],_,k,i,v,w,w',_,_=>by
  have e:R2 [] k i=eK:=by unfold R2;simp
  rw [e];trivial
 | l :: r,h,0,i,v,w,w',hx,hb=>h.1 i v w w' hx hb
 | l :: r,h,k+1,i,v,w,w',hx,hb=>R2.grw (LL:=r) h.2 k i v w w' hx hb
def T2 (l:List (World→Prop)):Nat→World→Prop:=fun k=>l.getD k fun _=>True
def rq:List (World→Prop)→Prop
  | []=>True
  | p :: r=>(∀ w w',p w→Below w.heap.size w w'→p w')∧rq r
theorem T2.grw:∀ {l:List (World→Prop)},rq l→∀ k w w',T2 l k w→Below w.heap.size w w'→T2 l k w'
 | [],_,k,w,w',_,_=>by
  have e:T2 [] k=fun _=>True:=by unfold T2;simp
  rw [e];trivial
 | p :: r,h,0,w,w',hx,hb=>h.1 w w' hx hb
 | p :: r,h,k+1,w,w',hx,hb=>T2.grw (l:=r) h.2 k w w' hx hb
section
variable {α:Type}{T0:TypeId}{Pc:World→List Value→α→Prop}{s:Nat}{w w':World}{B B':Nat}{v:Value}{n:Nat}{l:List α}
theorem OwJ.base {J:Value→Bool}{xs:List Value}(h:OwJ J w B T0 s v n xs) (hB:B'≤B):OwJ J w B' T0 s v n xs:=⟨h.1,h.2.imp id fun ⟨g,cap,cur,h1,h2,h3⟩=>⟨g,cap,cur,h1,Nat.le_trans hB h2,h3⟩⟩
theorem ay.base (h:ay T0 Pc s w B v n l) (hB:B'≤B):ay T0 Pc s w B' v n l:=by
 obtain ⟨h0,xs,h1,h2⟩:=h;exact ⟨h0,xs,h1.base hB,h2⟩
class hH {α:Type}(Pc:World→List Value→α→Prop):Prop where
 grow:∀ {w w':World}{cs:List Value}{a:α},Tch (fun _=>false) w w'→Pc w cs a→Pc w' cs a
instance:hH JtC:=⟨fun _ x=>x⟩
instance:hH DrC:=⟨fun _ x=>x⟩
instance:hH EdC:=⟨fun _ x=>x⟩
instance {k:Nat}:hH (MkC k):=⟨fun h x=>x.tch h⟩
instance {k:Nat}:hH (BdC k):=⟨fun h x=>x.tch h rfl⟩
instance {k:Nat}:hH (LkC k):=⟨fun h x=>x.tch h rfl rfl rfl rfl⟩
theorem ay.blw [hH Pc] (h:ay T0 Pc s w B v n l) (hb:Below w.heap.size w w'):ay T0 Pc s w' B v n l:=h.tch (T:=fun _=>false) (Tch.below hb) rfl fun _ _ x=>hH.grow (Tch.below hb) x
def vv {α:Type}(T0:TypeId) (Pc:World→List Value→α→Prop) (s B n:Nat) (l:List α):Value→World→Prop:=fun v w=>ay T0 Pc s w B v n l∧True
theorem AI [hH Pc] (l:List α):Grw (vv T0 Pc s B n l):=fun _ _ _ h hb=>⟨h.1.blw hb,trivial⟩
theorem OwJ.neb {J:Value→Bool}{xs:List Value}(h:OwJ J w B T0 s v n xs) {g:Nat}{T1:TypeId}{cs:Array Value}(x:Blk w g T1 cs) (ht:T1≠T0):some g≠v.ownBlock:=by
 intro e;obtain ⟨_,cur,h3,_⟩:=h.at_ e.symm;have:=x.symm.trans h3;injection this with this;injection this with _ h4;exact ht h4
theorem Blk.grw {g:Nat}{T1:TypeId}{cs:Array Value}{row:Option Nat}(x:Blk w g T1 cs) (k:w.grownBy w' row) (hne:some g≠row):Blk w' g T1 cs:=(k.block g x.lt hne).trans x
theorem gS {v5:Value}{w5:World}{xs cs:List Value}{a:α}(hl:l.length=n) (hown:OwJ noW w B T0 s v n xs) (hrow:cl Pc s w l xs)
 (hm:Pc w cs a) (hcs:cs.length=s) (hown5:OwJ noW w5 B T0 s v5 (n+1) (xs ++ cs)) (hgrow:w.grownBy w5 v.ownBlock) (hB:B≤w.heap.size) (hPc:∀ w' cs a,Tch (bQ T0) w w'→Pc w cs a→Pc w' cs a) :
 ay T0 Pc s w5 B v5 (n+1) (l ++ [a])∧Tch (bQ T0) w w5∧Below B w w5:=by
 have ht:Tch (bQ T0) w w5:=Tch.grown (fun _ hu=>hu) (by simp [bQ]) hown hgrow;exact ⟨⟨by simp [hl],xs ++ cs,hown5,(hrow.map_ fun cs a x=>hPc _ _ _ ht x).snoc (hPc _ _ _ ht hm) hcs⟩,ht,(Below.refl B w).grown hgrow hB (fun k hk=>(hown.at_ hk).1)⟩
end
theorem Blk.s4 {w:World}{g t:Nat}{a0 a1 a2 a3:Value}(h:Blk w g t #[a0,a1,a2,a3]) (u0 u1 u2 u3:Value):Blk ((((w.setCell ⟨g,0,none⟩ u0).setCell ⟨g,1,none⟩ u1).setCell ⟨g,2,none⟩ u2).setCell ⟨g,3,none⟩ u3) g t #[u0,u1,u2,u3]:=(((h.set_ 0 u0).set_ 1 u1).set_ 2 u2).set_ 3 u3
theorem cl.imp {α:Type}{Pc Pc':World→List Value→α→Prop}{s:Nat}{w w':World}{l:List α}{xs:List Value}(h:cl Pc s w l xs) (hP:∀ cs a,Pc w cs a→Pc' w' cs a):cl Pc' s w' l xs:=by
 obtain ⟨css,e,hl,hall,hp⟩:=h;exact ⟨css,e,hl,hall,fun i a cs h1 h2=>hP _ _ (hp i a cs h1 h2)⟩
def yc (L:ai):Prop:=∀ b∈L.bodies,∀ m∈b.pts,m.x.ok=true∧m.y.ok=true
def BdO (B:Nat) (w:World) (cs:List Value) (b:aj):Prop:=∃ A n c,cs=[ae b.name,.slice A n c]∧ay 56 (MkC 130) 7 w B (.slice A n c) n b.pts∧NmL b.name
theorem BdO.bdc {B:Nat}{w:World}{cs:List Value}{b:aj}(h:BdO B w cs b):BdC 130 w cs b:=by
 obtain ⟨A,n,c,h0,h1,h2⟩:=h;exact ⟨A,n,c,h0,h1.slT fun _ _ _ _ x hc=>x.at_ hc,h2⟩
theorem BdO.tch {B:Nat}{w w':World}{cs:List Value}{b:aj}{T:TypeId→Bool}(h:BdO B w cs b) (t:Tch T w w') (hT:T 56=false):BdO B w' cs b:=by
 obtain ⟨A,n,c,h0,h1,h2⟩:=h;exact ⟨A,n,c,h0,h1.tch t hT fun _ _ x=>x.tch t,h2⟩
def Dj (xs:List Value):Prop:=∀ i j g n c n' c',i < j→xs[i * 2+1]?=some (.slice (some ⟨g,0,none⟩) n c)→xs[j * 2+1]?=some (.slice (some ⟨g,0,none⟩) n' c')→False
theorem BdO.lt {B:Nat}{w:World}{l:List aj}{xs:List Value}(h:cl (BdO B) 2 w l xs) {i g n c:Nat}(hx:xs[i * 2+1]?=some (.slice (some ⟨g,0,none⟩) n c)):g < w.heap.size:=by
 obtain ⟨css,e,hl,hall,hp⟩:=h
 have hi:i < css.length:=by
  have h1:=(List.getElem?_eq_some_iff.1 hx).1
  have h2:xs.length=css.length * 2:=by
   rw [e];clear hp hl hx h1 e
   induction css with
   | nil=>rfl
   | cons a r ih =>
    rw [List.flatten_cons,List.length_append,hall a (by simp),ih (fun x hx=>hall x (by simp [hx])),List.length_cons];omega
  omega
 obtain ⟨A,m,d,h0,h1,_⟩:=hp i l[i] css[i] (List.getElem?_eq_getElem (by omega)) (List.getElem?_eq_getElem hi);rw [e,ki hall (List.getElem?_eq_getElem hi) 1 (by omega),h0] at hx;injection hx with hx;injection hx with hx _ _;subst hx;obtain ⟨_,ys,hown,_⟩:=h1;obtain ⟨_,cur,h3,_⟩:=hown.at_ (g:=g) rfl;exact lt_of_block h3
def jr (B:Nat) (w:World) (v:Value) (n:Nat) (l:List aj):Prop:=l.length=n∧∃ xs,OwJ noW w B 51 2 v n xs∧cl (BdO B) 2 w l xs∧Dj xs
theorem jr.nil {B:Nat}{w:World}:jr B w (.slice none 0 0) 0 []:=⟨rfl,[],OwJ.nil _ _ _ _ _,cl.nil,fun _ _ _ _ _ _ _ _ h=>by simp at h⟩
theorem jr.row {B:Nat}{w:World}{v:Value}{n:Nat}{l:List aj}(h:jr B w v n l):ay 51 (BdC 130) 2 w B v n l:=by
 obtain ⟨hl,xs,h1,h2,_⟩:=h;exact ⟨hl,xs,h1,h2.imp fun _ _ x=>x.bdc⟩
theorem jr.tch {B:Nat}{w w':World}{v:Value}{n:Nat}{l:List aj}{T:TypeId→Bool}(h:jr B w v n l) (t:Tch T w w') (hT:T 56=false) (hT2:T 51=false):jr B w' v n l:=by
 obtain ⟨hl,xs,h1,h2,h3⟩:=h;refine ⟨hl,xs,⟨h1.1,h1.2.imp id fun ⟨g,cap,cur,a1,a2,a3,a4⟩=>⟨g,cap,cur,a1,a2,t.2 g cur _ _ a3 (.inl hT2),a4⟩⟩,h2.map_ fun _ _ x=>x.tch t hT,h3⟩
theorem jr.blw {B:Nat}{w w':World}{v:Value}{n:Nat}{l:List aj}(h:jr B w v n l) (hb:Below w.heap.size w w'):jr B w' v n l:=h.tch (T:=fun _=>false) (Tch.below hb) rfl rfl
theorem Dj.snoc {B:Nat}{w:World}{l:List aj}{xs:List Value}(hr:cl (BdO B) 2 w l xs) (hd:Dj xs) (hlen:xs.length=l.length * 2) {A:Option Addr}{n c:Nat}{nm:Value}(hn:∀ g,A=some ⟨g,0,none⟩→w.heap.size≤g):Dj (xs ++ [nm,.slice A n c]):=by
 intro i j g n1 c1 n2 c2 hij h1 h2;rcases Nat.lt_or_ge j l.length with hj | hj
 ·rw [List.getElem?_append_left (by omega)] at h1 h2
  exact hd i j g _ _ _ _ hij h1 h2
 rcases Nat.eq_or_lt_of_le hj with hj | hj
 ·subst hj
  rw [List.getElem?_append_left (by omega)] at h1;rw [List.getElem?_append_right (by omega),hlen,show l.length * 2+1 - l.length * 2=1 by omega] at h2;injection h2 with h2;injection h2 with h2 _ _;have:=hn g h2;have:=BdO.lt hr h1;omega
 have:=(List.getElem?_eq_some_iff.1 h2).1;rw [List.length_append,hlen] at this;simp at this;omega
structure CpO (B:Nat) (w:World) (A:Option Addr) (n c:Nat) (C:Option Addr) (p d:Nat) (D:Option Addr) (q e:Nat) (L:ai):Prop where
  bd:jr B w (.slice A n c) n L.bodies
  jt:ay 81 JtC 7 w B (.slice C p d) p L.joints
  dr:ay 86 DrC 2 w B (.slice D q e) q L.drivers
  nm:NmL L.name
theorem CpO.lkY {B:Nat}{w:World}{A C D:Option Addr}{n c p d q e:Nat}{L:ai}(h:CpO B w A n c C p d D q e L):LkY 130 w A n c C p d D q e L:=fun _ _ t h1 h2 h3 h4 =>
 ⟨h.nm,(h.bd.row.tch t h1 (fun _ _ x=>x.tch t h4)).bds,(h.jt.tch t h2 (fun _ _ x=>x)).jts,(h.dr.tch t h3 (fun _ _ x=>x)).drs⟩
def yd (w:World) (L:ai) (e:Ending) (w':World):Prop:=∃ A n c C p d D q f,e=.returned (.agg #[ae L.name,.slice A n c,.slice C p d,.slice D q f])∧CpO w.heap.size w' A n c C p d D q f L∧Below w.heap.size w w'
theorem rt (w:World) {b:Bool}{A:Option Addr}{n c:Nat}{D:Option Addr}{m e:Nat}{a:RD}(h:QD w b A n c D m e a 130) (ho:a.ok=true):Calls Tryz.prog 60 #[.agg #[.bool b,.slice A n c,.slice D m e],.agg #[.bool false,.slice none 0 0,.slice none 0 0]] w (fun e' w'=>∃ b A n c D m e,e'=.returned (.agg #[.bool b,.slice A n c,.slice D m e])∧QD w' b A n c D m e a 130∧Below w.heap.size w w'):=by
 have hs:=h.sz (by decide);have hr:=fH h.2.1.1 h.2.2.1.1 ho;refine (Ah w b A n c D m e a.q 130 h.qz false none 0 0 none 0 0 0 1 (QV.zero w 1).qz (by decide) (by decide) (by decide) (by decide)).mono ?_;rintro e' w' ⟨b',A',n',c',D',m',d',rfl,hq,hb⟩;rw [Rat.add_zero] at hq;have h9:QV w' b' A' n' c' D' m' d' a.q 130:=QV.mk_ hq.2.1 hq.2.2.1 hq.1 hs;refine ⟨b',A',n',c',D',m',d',rfl,?_,hb⟩;unfold QV at h9;rwa [hr] at h9
def VRd (a:RD):Value→World→Prop:=fun v w=>∃ b A n c D m e,v=.agg #[.bool b,.slice A n c,.slice D m e]∧QD w b A n c D m e a 130
theorem gRd (a:RD):Grw (VRd a):=fun _ _ _ ⟨b,A,n,c,D,m,e,h0,h⟩ hb=>⟨b,A,n,c,D,m,e,h0,h.belw hb⟩
def VMc (mk:au):Value→World→Prop:=fun v w=>∃ b A n c D m e b' A' n' c' D' m' e',v=.agg #[ae mk.name,.bool b,.slice A n c,.slice D m e,.bool b',.slice A' n' c',.slice D' m' e']∧QD w b A n c D m e mk.x 130∧QD w b' A' n' c' D' m' e' mk.y 130
theorem gMc (mk:au):Grw (VMc mk):=fun _ _ _ ⟨b,A,n,c,D,m,e,b',A',n',c',D',m',e',h0,h1,h2⟩ hb=>⟨b,A,n,c,D,m,e,b',A',n',c',D',m',e',h0,h1.belw hb,h2.belw hb⟩
def VMs (mk:au):Value→World→Prop:=fun v w=>∃ g b A n c D m e b' A' n' c' D' m' e',v=.slice (some ⟨g,0,none⟩) 1 1∧Blk w g 56 #[ae mk.name,.bool b,.slice A n c,.slice D m e,.bool b',.slice A' n' c',.slice D' m' e']∧QD w b A n c D m e mk.x 130∧QD w b' A' n' c' D' m' e' mk.y 130
theorem gMs (mk:au):Grw (VMs mk):=fun _ _ _ ⟨g,b,A,n,c,D,m,e,b',A',n',c',D',m',e',h0,h1,h2,h3⟩ hb=>⟨g,b,A,n,c,D,m,e,b',A',n',c',D',m',e',h0,h1.below hb h1.lt,h2.belw hb,h3.belw hb⟩
def VCp (B p q:Nat) (L:ai):Value→World→Prop:=fun v w=>∃ A c A' c',v=.agg #[ae L.name,.slice none 0 0,.slice A p c,.slice A' q c']∧ay 81 JtC 7 w B (.slice A p c) p L.joints∧ay 86 DrC 2 w B (.slice A' q c') q L.drivers
theorem gCp {B p q:Nat}{L:ai}:Grw (VCp B p q L):=fun _ _ _ ⟨A,c,A',c',h0,h1,h2⟩ hb=>⟨A,c,A',c',h0,h1.blw hb,h2.blw hb⟩
abbrev eO (u0 u1 u2 u4 u5 u6 u7 u8 u18 u19 u20 u21 u22 u23 u24 u25 u26 u27 u28 u29 u30 u31 u32 u33 u34 u35 u36 u37 u38 u39 u40 u41 u42 u43 u44 u45 u46 u47 u48 u49 u50 u51 u52 u53 u54 u55 u56 u57 u58 u59:Value) (xf:Nat→Value):Act:=⟨List.toArray (u0 :: u1 :: u2 :: xf 9 :: u4 :: u5 :: u6 :: u7 :: u8 :: xf 0 :: xf 1 :: xf 2 :: xf 3 :: xf 4 :: xf 5 :: xf 6 :: xf 7 :: xf 8 :: u18 :: u19 :: u20 :: u21 :: u22 :: u23 :: u24 :: u25 :: u26 :: u27 :: u28 :: u29 :: u30 :: u31 :: u32 :: u33 :: u34 :: u35 :: u36 :: u37 :: u38 :: u39 :: u40 :: u41 :: u42 :: u43 :: u44 :: u45 :: u46 :: u47 :: u48 :: u49 :: u50 :: u51 :: u52 :: u53 :: u54 :: u55 :: u56 :: u57 :: u58 :: u59 :: []),[]⟩
abbrev cY (u0 u1 u2 u3 u4 u5 u6 u7 u8 u9 u10 u11 u12 u13 u14 u15 u16 u17 u18 u19 u20 u21 u22 u23 u24 u25 u26 u27 u28 u29 u30 u31 u32 u33 u34 u51 u52 u53 u54 u55 u56 u57 u58 u59:Value) (xf:Nat→Value):Act:=⟨List.toArray (u0 :: u1 :: u2 :: u3 :: u4 :: u5 :: u6 :: u7 :: u8 :: u9 :: u10 :: u11 :: u12 :: u13 :: u14 :: u15 :: u16 :: u17 :: u18 :: u19 :: u20 :: u21 :: u22 :: u23 :: u24 :: u25 :: u26 :: u27 :: u28 :: u29 :: u30 :: u31 :: u32 :: u33 :: u34 :: xf 0 :: xf 1 :: xf 2 :: xf 3 :: xf 4 :: xf 5 :: xf 6 :: xf 7 :: xf 8 :: xf 9 :: xf 10 :: xf 11 :: xf 12 :: xf 13 :: xf 14 :: xf 15 :: u51 :: u52 :: u53 :: u54 :: u55 :: u56 :: u57 :: u58 :: u59 :: []),[]⟩
theorem vw (w:World) (A:Option Addr) (n c:Nat) (B:Option Addr) (p d:Nat) (C:Option Addr) (q e:Nat) (L:ai) (h:LkS 130 w A n c B p d C q e L) (ho:yc L) (hn:n≤1000) (hp:p≤1000) (hq:q≤1000) (hps:∀ b∈L.bodies,b.pts.length≤1000):Calls Tryz.prog 32 #[.agg #[ae L.name,.slice A n c,.slice B p d,.slice C q e]] w (yd w L):=by
 obtain ⟨ib,hi0,hz0,hz1,hz2⟩:=info_parts gN;have HIB:=Qh (And.intro hi0 (And.intro hz0 (And.intro hz1 hz2)));clear hi0 hz0 hz1 hz2;obtain ⟨im,hi0,hz0,hz1,hz2⟩:=info_parts rj;have HIM:=Qh (And.intro hi0 (And.intro hz0 (And.intro hz1 hz2)));clear hi0 hz0 hz1 hz2;have H:=Qh h;have HO:=Qh ho;have HPS:=Qh hps;clear h ho hps;go_in;go_wp2_with fail;have x0:Blk (w.alloc (.cells #[ae L.name,.slice A n c,.slice B p d,.slice C q e] 26)) w.heap.size 26 #[ae L.name,.slice A n c,.slice B p d,.slice C q e]:=Blk.new _ _ _;have XA:=Qh (x0.alloc (.cells #[.string ⟨#[]⟩,.slice none 0 0,.slice none 0 0,.slice none 0 0] 26));have XR:Hid (Blk ((w.alloc (.cells #[ae L.name,.slice A n c,.slice B p d,.slice C q e] 26)).alloc (.cells #[.string ⟨#[]⟩,.slice none 0 0,.slice none 0 0,.slice none 0 0] 26)) (w.heap.size+1) 26 #[.string ⟨#[]⟩,.slice none 0 0,.slice none 0 0,.slice none 0 0]):=Qh (ak _ _ _ (by simp));have Q0:=Qh (((aa w).alloc Qr (.cells #[ae L.name,.slice A n c,.slice B p d,.slice C q e] 26)).alloc (by simp) (.cells #[.string ⟨#[]⟩,.slice none 0 0,.slice none 0 0,.slice none 0 0] 26));generalize ((w.alloc (.cells #[ae L.name,.slice A n c,.slice B p d,.slice C q e] 26)).alloc (.cells #[.string ⟨#[]⟩,.slice none 0 0,.slice none 0 0,.slice none 0 0] 26))=w0 at XA XR Q0 ⊢;clear x0;change Code.wp _ _ _ (eO _ _ _ _ _ _ _ _ _ _ _ _ _ _ _ _ _ _ _ _ _ _ _ _ _ _ _ _ _ _ _ _ _ _ _ _ _ _ _ _ _ _ _ _ _ _ _ _ _ _ (fun _=>undef)) _;refine cE (x0:=(fun _=>undef)) [10] [] (R:=R2 ((jq ((PEq (.pointer (some ⟨w.heap.size,0,none⟩))) :: (PEq (ae L.name)) :: (PEq (.pointer (some ⟨w.heap.size,2,none⟩))) :: (PEq (.slice B p d)) :: (vv 81 JtC 7 w.heap.size p L.joints) :: (PEq (.pointer (some ⟨w.heap.size,3,none⟩))) :: (PEq (.slice C q e)) :: (vv 86 DrC 2 w.heap.size q L.drivers) :: (VCp w.heap.size p q L) :: (fun v w1=>∃ g,v=.pointer (some ⟨g,0,none⟩)∧w0.heap.size≤g∧Blk w1 g 26 #[.string ⟨#[]⟩,.slice none 0 0,.slice none 0 0,.slice none 0 0]) :: eK :: [])) :: (cg ((9,(fun v w1=>∃ g A1 c1 A2 c2,v=.pointer (some ⟨g,0,none⟩)∧w0.heap.size≤g∧Blk w1 g 26 #[ae L.name,.slice none 0 0,.slice A1 p c1,.slice A2 q c2]∧ay 81 JtC 7 w1 w.heap.size (.slice A1 p c1) p L.joints∧ay 86 DrC 2 w1 w.heap.size (.slice A2 q c2) q L.drivers)) :: [])) :: [])) (T:=T2 ((fun w1=>Below w0.heap.size w0 w1) :: (fun w1=>Below w0.heap.size w0 w1) :: [])) (by kernel_rfl) ?_ ?_ (by decide) (jU (by decide)) (fj (by kernel_rfl)) (fk (by kernel_rfl)) (R2.grw ⟨jq.grw ⟨gEq _,gEq _,gEq _,gEq _,AI _,gEq _,gEq _,AI _,gCp,(fun _ _ _ ⟨g,h0,h1,h2⟩ hb=>⟨g,h0,h1,h2.below hb h2.lt⟩),kW,trivial⟩,cg.grw ⟨(fun _ _ _ ⟨g,A1,c1,A2,c2,h0,h1,h2,h3,h4⟩ hb=>⟨g,A1,c1,A2,c2,h0,h1,h2.below hb h2.lt,h3.blw hb,h4.blw hb⟩),trivial⟩,trivial⟩) (T2.grw ⟨fun _ _ h hb=>h.trans (hb.mono h.size),fun _ _ h hb=>h.trans (hb.mono h.size),trivial⟩) ?_ ?_ ?_ ?_
 ·exact aH ⟨(fun _ _=>rfl),(fun _ _=>rfl),(fun _ _=>rfl),(fun _ _=>rfl),(fun _ _=>rfl),(fun _ _=>rfl),(fun _ _=>rfl),(fun _ _=>rfl),(fun _ _=>rfl),(fun _ _=>rfl),(fun _ _=>rfl),trivial⟩
 ·exact aH (bT _ 0 (by kernel_rfl))
 ·exact (aa _).drew
 ·refine aH ⟨?_,?_,?_,?_,?_,?_,?_,?_,?_,?_,(fun h=>absurd (by decide) h),trivial⟩
  ·intro _ k _ hk
   obtain rfl:=hk (by decide);intro xf wq hT hd K hK;(try dsimp only [eO]);go_simp;have hz:=hK.out _ _ rfl (aa _);exact hz
  ·intro _ k _ hk
   obtain rfl:=hk (by decide);intro xf wq hT hd K hK;have dq0:xf 0=.pointer (some ⟨w.heap.size,0,none⟩):=hd ⟨0,.data⟩ (by simp) rfl;have hT:Below w0.heap.size w0 wq:=hT;have hc:wq.cell? ⟨w.heap.size,0,none⟩=some (ae L.name):=(XA.out.below hT XA.out.lt).cell 0;(try dsimp only [eO]);(try simp only [dq0]);go_simp;have hz:=hK.out _ _ rfl (aa _);dsimp only [eO] at hz;simp only [dq0] at hz;exact hz
  ·intro _ k _ hk
   obtain rfl:=hk (by decide);intro xf wq hT hd K hK;(try dsimp only [eO]);go_simp;have hz:=hK.out _ _ rfl (aa _);exact hz
  ·intro _ k _ hk
   obtain rfl:=hk (by decide);intro xf wq hT hd K hK;have dq2:xf 2=.pointer (some ⟨w.heap.size,2,none⟩):=hd ⟨2,.data⟩ (by simp) rfl;have hT:Below w0.heap.size w0 wq:=hT;have hc:wq.cell? ⟨w.heap.size,2,none⟩=some (.slice B p d):=(XA.out.below hT XA.out.lt).cell 2;(try dsimp only [eO]);(try simp only [dq2]);go_simp;have hz:=hK.out _ _ rfl (aa _);dsimp only [eO] at hz;simp only [dq2] at hz;exact hz
  ·intro _ k _ hk
   obtain rfl:=hk (by decide);intro xf wq hT hd K hK;have hT:Below w0.heap.size w0 wq:=hT;have dq3:xf 3=.slice B p d:=hd ⟨3,.data⟩ (by simp) rfl;(try dsimp only [eO]);(try simp only [dq3]);go_simp;go_at_call 58;(with_reducible refine (qq wq B p d L.joints ((H.out.joints.jt Q0.out).jt (hT.mono Qr)) (by omega)).mono ?_);rintro e9 wr ⟨v,rfl,hrow,hbr⟩;have hz:=hK.out _ _ ⟨hrow.base (by have:=Q0.out.size;have:=hT.size;omega),trivial⟩ hbr;dsimp only [eO] at hz;simp only [dq3] at hz;exact hz
  ·intro _ k _ hk
   obtain rfl:=hk (by decide);intro xf wq hT hd K hK;(try dsimp only [eO]);go_simp;have hz:=hK.out _ _ rfl (aa _);exact hz
  ·intro _ k _ hk
   obtain rfl:=hk (by decide);intro xf wq hT hd K hK;have dq5:xf 5=.pointer (some ⟨w.heap.size,3,none⟩):=hd ⟨5,.data⟩ (by simp) rfl;have hT:Below w0.heap.size w0 wq:=hT;have hc:wq.cell? ⟨w.heap.size,3,none⟩=some (.slice C q e):=(XA.out.below hT XA.out.lt).cell 3;(try dsimp only [eO]);(try simp only [dq5]);go_simp;have hz:=hK.out _ _ rfl (aa _);dsimp only [eO] at hz;simp only [dq5] at hz;exact hz
  ·intro _ k _ hk
   obtain rfl:=hk (by decide);intro xf wq hT hd K hK;have hT:Below w0.heap.size w0 wq:=hT;have dq6:xf 6=.slice C q e:=hd ⟨6,.data⟩ (by simp) rfl;(try dsimp only [eO]);(try simp only [dq6]);go_simp;go_at_call 59;(with_reducible refine (qr wq C q e L.drivers ((H.out.drivers.dr Q0.out).dr (hT.mono Qr)) (by omega)).mono ?_);rintro e9 wr ⟨v,rfl,hrow,hbr⟩;have hz:=hK.out _ _ ⟨hrow.base (by have:=Q0.out.size;have:=hT.size;omega),trivial⟩ hbr;dsimp only [eO] at hz;simp only [dq6] at hz;exact hz
  ·intro _ k _ hk
   obtain rfl:=hk (by decide);intro xf wq hT hd K hK;have dq1:xf 1=ae L.name:=hd ⟨1,.data⟩ (by simp) rfl;have d4:vv 81 JtC 7 w.heap.size p L.joints (xf 4) wq:=hd ⟨4,.data⟩ (by simp) rfl;have d7:vv 86 DrC 2 w.heap.size q L.drivers (xf 7) wq:=hd ⟨7,.data⟩ (by simp) rfl;obtain ⟨A4,c4,e4⟩:=d4.1.form;obtain ⟨A7,c7,e7⟩:=d7.1.form;have d4:=d4.1;have d7:=d7.1;rw [e4.1] at d4;rw [e7.1] at d7;(try dsimp only [eO]);(try simp only [dq1,e4.1,e7.1]);go_simp;have hz:=hK.out _ _ ⟨A4,c4,A7,c7,rfl,d4,d7⟩ (aa _);dsimp only [eO] at hz;simp only [dq1,e4.1,e7.1] at hz;exact hz
  intro _ k _ hk;obtain rfl:=hk (by decide);intro xf wq hT hd K hK;have hT:Below w0.heap.size w0 wq:=hT;(try dsimp only [eO]);go_simp;have hz:=hK.out (.pointer (some ⟨wq.heap.size,0,none⟩)) (wq.alloc (.cells #[.string ⟨#[]⟩,.slice none 0 0,.slice none 0 0,.slice none 0 0] 26)) ⟨wq.heap.size,rfl,hT.size,Blk.new _ _ _⟩ ((aa wq).alloc Qr _);dsimp only [eO] at hz;exact hz
 ·intro k i o hk ho
  obtain rfl:=(show k=0 by have:=ii hk;have:k < 1:=this;omega)
  ·injection hk with hk
   subst hk;injection ho with ho;subst ho;intro xf wq D hn hT hD hd K hK;have hT:Below w0.heap.size w0 wq:=hT;obtain ⟨g3,e9,hg3,hb3⟩:∃ g,xf 9=.pointer (some ⟨g,0,none⟩)∧w0.heap.size≤g∧Blk wq g 26 #[.string ⟨#[]⟩,.slice none 0 0,.slice none 0 0,.slice none 0 0]:=hd 9 (hD ⟨9,.data⟩ (by simp) rfl);obtain ⟨A1,c1,A2,c2,e8,hj,hdr⟩:VCp w.heap.size p q L (xf 8) wq:=hd 8 (hD ⟨8,.data⟩ (by simp) rfl);obtain ⟨cz0,cz1,cz2,cz3⟩:=hb3.c4;obtain ⟨fz0,fz1,fz2,fz3⟩:=hb3.f4;(try dsimp only [eO]);(try simp only [e8,e9]);go_simp;have t1:=pe hb3 ⟨rfl,rfl,rfl,rfl⟩ (ae L.name) (.slice none 0 0) (.slice A1 p c1) (.slice A2 q c2);have hz:=hK.out undef _ (show Below w0.heap.size w0 _ from lb hT hg3 (ae L.name) (.slice none 0 0) (.slice A1 p c1) (.slice A2 q c2)) trivial (cg.all ⟨fun _=>⟨g3,A1,c1,A2,c2,e9,hg3,hb3.s4 _ _ _ _,hj.tch t1 (by decide) (fun _ _ x=>x),hdr.tch t1 (by decide) (fun _ _ x=>x)⟩,trivial⟩);dsimp only [eO] at hz;simp only [e8,e9] at hz;exact hz
 intro xf w9 hT hr;obtain ⟨g3,A1,c1,A2,c2,e9,hg3,hb3,hj,hdr⟩:∃ g A1 c1 A2 c2,xf 9=.pointer (some ⟨g,0,none⟩)∧w0.heap.size≤g∧Blk w9 g 26 #[ae L.name,.slice none 0 0,.slice A1 p c1,.slice A2 q c2]∧ay 81 JtC 7 w9 w.heap.size (.slice A1 p c1) p L.joints∧ay 86 DrC 2 w9 w.heap.size (.slice A2 q c2) q L.drivers:=hr 9 (by decide);have hT:Below w0.heap.size w0 w9:=hT;have xa:=XA.out.below hT XA.out.lt;have xr:=XR.out.below hT XR.out.lt;have q9:=Q0.out.trans (hT.mono Q0.out.size);clear hr hT;dsimp only [eO];rw [e9];generalize xf 0=v0;generalize xf 1=v1;generalize xf 2=v2;generalize xf 3=v3;generalize xf 4=v4;generalize xf 5=v5;generalize xf 6=v6;generalize xf 7=v7;generalize xf 8=v8;clear e9;have HJ:=Qh hj;have HD:=Qh hdr;have hlr:=xr.lt;have hl3:w.heap.size+1 < g3:=by have:=XR.out.lt;omega
 have HL3:=Qh hl3;have ca1:=xa.cell 1;clear hj hdr hg3;go_wp2_with fail;clear ca1;go_loopw [21] (fun iv wr=>∃ (i:Nat) (A3:Option Addr) (c3:Nat),iv=.int .i64 (i:Nat)∧i≤n∧Blk wr (w.heap.size+1) 26 #[.string ⟨#[]⟩,.slice none 0 0,.slice none 0 0,.slice none 0 0]∧Blk wr g3 26 #[ae L.name,.slice A3 i c3,.slice A1 p c1,.slice A2 q c2]∧jr w.heap.size wr (.slice A3 i c3) i (L.bodies.take i)∧ay 81 JtC 7 wr w.heap.size (.slice A1 p c1) p L.joints∧ay 86 DrC 2 wr w.heap.size (.slice A2 q c2) q L.drivers∧Below w.heap.size w wr) (fun iv _=>n - (intOf iv).toNat)
 case atStart=>exact ⟨0,none,0,rfl,Nat.zero_le _,xr,hb3,jr.nil,HJ.out,HD.out,q9⟩
 case round =>
  clear xa xr hb3 q9 HJ HD;obtain ⟨i,A3,c3,rfl,hi,xr,hb3,hbs,hj,hdr,q9⟩:=hrel;rename World=>wb;have XR:=Qh xr;have X3:=Qh hb3;have HBS:=Qh hbs;have HJ:=Qh hj;have HD:=Qh hdr;have Q9:=Qh q9;have hl3b:=hb3.lt;clear xr hb3 hbs hj hdr q9;rcases Nat.lt_or_ge i n with hlt | hge
  ·have hi1:((i:Int) < (n:Int))=True:=by simp;omega
   obtain ⟨gb,ob,bd,eA,hgb,hnc,hbi,hB⟩:=(H.out.bodies.bd Q9.out).at_ hlt;subst eA;obtain ⟨A',m,c',d0,d1,hM,hnm⟩:=hB;have hbm:bd∈L.bodies:=List.mem_of_getElem? hbi;have hm9:m≤1000:=by rw [← hM.1];exact HPS.out bd hbm
   have OB:=Qh (HO.out bd hbm);have HM:=Qh hM;have HBI:=Qh hbi;have HNM:=Qh hnm;clear hbi hM hbm hnm;go_wp2_with fail;clear d0 d1;have q4:Below wb.heap.size wb ((wb.alloc (.cells #[ae bd.name,.slice A' m c'] 51)).alloc (.cells #[ae bd.name,.slice none 0 0] 51)):=((aa wb).alloc Qr _).alloc (by simp) _;have x6:Blk ((wb.alloc (.cells #[ae bd.name,.slice A' m c'] 51)).alloc (.cells #[ae bd.name,.slice none 0 0] 51)) (wb.heap.size+1) 51 #[ae bd.name,.slice none 0 0]:=ak _ _ _ (by simp);generalize ((wb.alloc (.cells #[ae bd.name,.slice A' m c'] 51)).alloc (.cells #[ae bd.name,.slice none 0 0] 51))=w4 at q4 x6 ⊢;generalize hg6:wb.heap.size+1=g6 at x6 ⊢;have HG6:=Qh (show wb.heap.size≤g6 by omega);clear hg6;go_loopw [31] (fun iv wr=>∃ (k:Nat) (A4:Option Addr) (c4:Nat),iv=.int .i64 (k:Nat)∧k≤m∧Blk wr g6 51 #[ae bd.name,.slice A4 k c4]∧ay 56 (MkC 130) 7 wr wb.heap.size (.slice A4 k c4) k (bd.pts.take k)∧Below wb.heap.size wb wr) (fun iv _=>m - (intOf iv).toNat)
   case atStart=>exact ⟨0,none,0,rfl,Nat.zero_le _,x6,ay.nil,q4⟩
   case round =>
    clear x6 q4;obtain ⟨k,A2,c2,rfl,hk,x6,hrm,qb⟩:=hrel;rename World=>w3;have X6a:=Qh x6;have RMa:=Qh hrm;have QBa:=Qh qb;clear x6 hrm qb;rcases Nat.lt_or_ge k m with hlt2 | hge2
    ·have hk1:((k:Int) < (m:Int))=True:=by simp;omega
     obtain ⟨gk,ok,mk,eA,hgk,hnc2,hki,hK⟩:=(HM.out.mk_ QBa.out).at_ hlt2;subst eA;obtain ⟨d0,⟨b1,E1,n1,y1,F1,m1,z1,d1,d2,d3,hx⟩,⟨b2,E2,n2,y2,F2,m2,z2,d4,d5,d6,hy⟩,hmn⟩:=hK;have TK:=Qh (show bd.pts.take (k+1)=bd.pts.take k ++ [mk] by rw [List.take_add_one,hki];rfl);have OM:=Qh (OB.out mk (List.mem_of_getElem? hki));have OM2:=Qh hmn;clear hki hmn;have HXa:=Qh hx;have HYa:=Qh hy;clear hx hy;rw [show ok+k * 7+1+1=ok+k * 7+2 by omega] at d2;rw [show ok+k * 7+1+2=ok+k * 7+3 by omega] at d3;rw [show ok+k * 7+4+1=ok+k * 7+5 by omega] at d5;rw [show ok+k * 7+4+2=ok+k * 7+6 by omega] at d6;go_wp2_with fail;clear d0 d1 d2 d3 d4 d5 d6;have qm:Below w3.heap.size w3 (w3.alloc (.cells #[ae mk.name,.bool b1,.slice E1 n1 y1,.slice F1 m1 z1,.bool b2,.slice E2 n2 y2,.slice F2 m2 z2] 56)):=(aa w3).alloc Qr _;have XM:=Qh (Blk.new w3 56 #[ae mk.name,.bool b1,.slice E1 n1 y1,.slice F1 m1 z1,.bool b2,.slice E2 n2 y2,.slice F2 m2 z2]);have X6:=Qh (X6a.out.below qm X6a.out.lt);have RM:=Qh (RMa.out.blw qm);have QB:=Qh (QBa.out.trans (qm.mono QBa.out.size));have HX:=Qh (HXa.out.belw qm);have HY:=Qh (HYa.out.belw qm);have HB5:=Qh (QB.out.size);generalize (w3.alloc (.cells #[ae mk.name,.bool b1,.slice E1 n1 y1,.slice F1 m1 z1,.bool b2,.slice E2 n2 y2,.slice F2 m2 z2] 56))=w5 at XM X6 RM QB HX HY HB5 ⊢;generalize w3.heap.size=gm at XM ⊢;clear qm X6a RMa QBa HXa HYa;change Code.wp _ _ _ (cY _ _ _ _ _ _ _ _ _ _ _ _ _ _ _ _ _ _ _ _ _ _ _ _ _ _ _ _ _ _ _ _ _ _ _ _ _ _ _ _ _ _ _ _ (fun ri=>List.getD (_ :: _ :: _ :: _ :: _ :: _ :: _ :: _ :: _ :: _ :: _ :: _ :: _ :: _ :: _ :: _ :: undef :: []) ri undef)) _;refine cE (x0:=_) [14,16] [15] (R:=R2 ((jq ((PEq (.pointer (some ⟨g6,1,none⟩))) :: (PEq (.slice A2 k c2)) :: (PEq (.pointer (some ⟨gm,0,none⟩))) :: (PEq (ae mk.name)) :: (PEq (.pointer (some ⟨gm,1,none⟩))) :: (PEq (.agg #[.bool b1,.slice E1 n1 y1,.slice F1 m1 z1])) :: (PEq (.agg #[.bool false,.slice none 0 0,.slice none 0 0])) :: (VRd mk.x) :: (PEq (.pointer (some ⟨gm,4,none⟩))) :: (PEq (.agg #[.bool b2,.slice E2 n2 y2,.slice F2 m2 z2])) :: (PEq (.agg #[.bool false,.slice none 0 0,.slice none 0 0])) :: (VRd mk.y) :: (VMc mk) :: (VMs mk) :: eK :: (PEq (.pointer (some ⟨g6,1,none⟩))) :: eK :: [])) :: (cg ((14,(fun v w1=>∃ A5 c5,v=.slice A5 (k+1) c5∧ay 56 (MkC 130) 7 w1 wb.heap.size v (k+1) (bd.pts.take k ++ [mk]))) :: (15,(PEq (.pointer (some ⟨g6,1,none⟩)))) :: [])) :: (cg ((15,(PEq (.pointer (some ⟨g6,1,none⟩)))) :: (16,(fun _ w1=>∃ A5 c5,Blk w1 g6 51 #[ae bd.name,.slice A5 (k+1) c5]∧ay 56 (MkC 130) 7 w1 wb.heap.size (.slice A5 (k+1) c5) (k+1) (bd.pts.take k ++ [mk]))) :: [])) :: [])) (T:=T2 ((fun w1=>Below w5.heap.size w5 w1) :: (fun w1=>Blk w1 g6 51 #[ae bd.name,.slice A2 k c2]∧Below wb.heap.size w5 w1) :: (fun w1=>Below wb.heap.size w5 w1) :: [])) (by kernel_rfl) ?_ ?_ (by decide) (jU (by decide)) (fj (by kernel_rfl)) (fk (by kernel_rfl)) (R2.grw ⟨jq.grw ⟨gEq _,gEq _,gEq _,gEq _,gEq _,gEq _,gEq _,gRd _,gEq _,gEq _,gEq _,gRd _,gMc _,gMs _,kW,gEq _,kW,trivial⟩,cg.grw ⟨(fun _ _ _ ⟨A5,c5,h0,h1⟩ hb=>⟨A5,c5,h0,h1.blw hb⟩),gEq _,trivial⟩,cg.grw ⟨gEq _,(fun _ _ _ ⟨A5,c5,h0,h1⟩ hb=>⟨A5,c5,h0.below hb h0.lt,h1.blw hb⟩),trivial⟩,trivial⟩) (T2.grw ⟨fun _ _ h hb=>h.trans (hb.mono h.size),fun _ _ h hb=>⟨h.1.below hb h.1.lt,h.2.trans (hb.mono (Nat.le_trans HB5.out h.2.size))⟩,fun _ _ h hb=>h.trans (hb.mono (Nat.le_trans HB5.out h.size)),trivial⟩) ?_ ?_ ?_ ?_
     ·exact aH ⟨(fun _ _=>rfl),(fun _ _=>rfl),(fun _ _=>rfl),(fun _ _=>rfl),(fun _ _=>rfl),(fun _ _=>rfl),(fun _ _=>rfl),(fun _ _=>rfl),(fun _ _=>rfl),(fun _ _=>rfl),(fun _ _=>rfl),(fun _ _=>rfl),(fun _ _=>rfl),(fun _ _=>rfl),(fun _ _=>rfl),(fun _ _=>rfl),(fun _ _=>rfl),trivial⟩
     ·exact aH (bT _ 0 (by kernel_rfl))
     ·exact (aa _).drew
     ·refine aH ⟨?_,?_,?_,?_,?_,?_,?_,?_,?_,?_,?_,?_,?_,?_,(fun h=>absurd (by decide) h),?_,(fun h=>absurd (by decide) h),trivial⟩
      ·intro _ k _ hk
       obtain rfl:=hk (by decide);intro xf wq hT hd K hK;(try dsimp only [cY]);go_simp;have hz:=hK.out _ _ rfl (aa _);exact hz
      ·intro _ k _ hk
       obtain rfl:=hk (by decide);intro xf wq hT hd K hK;have dq0:xf 0=.pointer (some ⟨g6,1,none⟩):=hd ⟨0,.data⟩ (by simp) rfl;have hT:Below w5.heap.size w5 wq:=hT;have hc:wq.cell? ⟨g6,1,none⟩=some (.slice A2 k c2):=(X6.out.below hT X6.out.lt).cell 1;(try dsimp only [cY]);(try simp only [dq0]);go_simp;have hz:=hK.out _ _ rfl (aa _);dsimp only [cY] at hz;simp only [dq0] at hz;exact hz
      ·intro _ k _ hk
       obtain rfl:=hk (by decide);intro xf wq hT hd K hK;(try dsimp only [cY]);go_simp;have hz:=hK.out _ _ rfl (aa _);exact hz
      ·intro _ k _ hk
       obtain rfl:=hk (by decide);intro xf wq hT hd K hK;have dq2:xf 2=.pointer (some ⟨gm,0,none⟩):=hd ⟨2,.data⟩ (by simp) rfl;have hT:Below w5.heap.size w5 wq:=hT;have hc:wq.cell? ⟨gm,0,none⟩=some (ae mk.name):=(XM.out.below hT XM.out.lt).cell 0;(try dsimp only [cY]);(try simp only [dq2]);go_simp;have hz:=hK.out _ _ rfl (aa _);dsimp only [cY] at hz;simp only [dq2] at hz;exact hz
      ·intro _ k _ hk
       obtain rfl:=hk (by decide);intro xf wq hT hd K hK;(try dsimp only [cY]);go_simp;have hz:=hK.out _ _ rfl (aa _);exact hz
      ·intro _ k _ hk
       obtain rfl:=hk (by decide);intro xf wq hT hd K hK;have dq4:xf 4=.pointer (some ⟨gm,1,none⟩):=hd ⟨4,.data⟩ (by simp) rfl;have hT:Below w5.heap.size w5 wq:=hT;have hc0:wq.cell? ⟨gm,1,none⟩=some (.bool b1):=(XM.out.below hT XM.out.lt).cell 1;have hc1:wq.cell? ⟨gm,2,none⟩=some (.slice E1 n1 y1):=(XM.out.below hT XM.out.lt).cell 2;have hc2:wq.cell? ⟨gm,3,none⟩=some (.slice F1 m1 z1):=(XM.out.below hT XM.out.lt).cell 3;(try dsimp only [cY]);(try simp only [dq4]);go_simp;have hz:=hK.out _ _ rfl (aa _);dsimp only [cY] at hz;simp only [dq4] at hz;exact hz
      ·intro _ k _ hk
       obtain rfl:=hk (by decide);intro xf wq hT hd K hK;(try dsimp only [cY]);go_simp;have hz:=hK.out _ _ rfl (aa _);exact hz
      ·intro _ k _ hk
       obtain rfl:=hk (by decide);intro xf wq hT hd K hK;have hT:Below w5.heap.size w5 wq:=hT;have dq5:xf 5=.agg #[.bool b1,.slice E1 n1 y1,.slice F1 m1 z1]:=hd ⟨5,.data⟩ (by simp) rfl;have dq6:xf 6=.agg #[.bool false,.slice none 0 0,.slice none 0 0]:=hd ⟨6,.data⟩ (by simp) rfl;(try dsimp only [cY]);(try simp only [dq5,dq6]);go_simp;go_at_call 60;(with_reducible refine (rt wq (HX.out.belw hT) OM.out.1).mono ?_);rintro e9 wr ⟨b3,A3,n3,c3,D3,m3,e3,rfl,h3,hbr⟩;have hz:=hK.out _ _ ⟨b3,A3,n3,c3,D3,m3,e3,rfl,h3⟩ hbr;dsimp only [cY] at hz;simp only [dq5,dq6] at hz;exact hz
      ·intro _ k _ hk
       obtain rfl:=hk (by decide);intro xf wq hT hd K hK;(try dsimp only [cY]);go_simp;have hz:=hK.out _ _ rfl (aa _);exact hz
      ·intro _ k _ hk
       obtain rfl:=hk (by decide);intro xf wq hT hd K hK;have dq8:xf 8=.pointer (some ⟨gm,4,none⟩):=hd ⟨8,.data⟩ (by simp) rfl;have hT:Below w5.heap.size w5 wq:=hT;have hc0:wq.cell? ⟨gm,4,none⟩=some (.bool b2):=(XM.out.below hT XM.out.lt).cell 4;have hc1:wq.cell? ⟨gm,5,none⟩=some (.slice E2 n2 y2):=(XM.out.below hT XM.out.lt).cell 5;have hc2:wq.cell? ⟨gm,6,none⟩=some (.slice F2 m2 z2):=(XM.out.below hT XM.out.lt).cell 6;(try dsimp only [cY]);(try simp only [dq8]);go_simp;have hz:=hK.out _ _ rfl (aa _);dsimp only [cY] at hz;simp only [dq8] at hz;exact hz
      ·intro _ k _ hk
       obtain rfl:=hk (by decide);intro xf wq hT hd K hK;(try dsimp only [cY]);go_simp;have hz:=hK.out _ _ rfl (aa _);exact hz
      ·intro _ k _ hk
       obtain rfl:=hk (by decide);intro xf wq hT hd K hK;have hT:Below w5.heap.size w5 wq:=hT;have dq9:xf 9=.agg #[.bool b2,.slice E2 n2 y2,.slice F2 m2 z2]:=hd ⟨9,.data⟩ (by simp) rfl;have dq10:xf 10=.agg #[.bool false,.slice none 0 0,.slice none 0 0]:=hd ⟨10,.data⟩ (by simp) rfl;(try dsimp only [cY]);(try simp only [dq9,dq10]);go_simp;go_at_call 60;(with_reducible refine (rt wq (HY.out.belw hT) OM.out.2).mono ?_);rintro e9 wr ⟨b3,A3,n3,c3,D3,m3,e3,rfl,h3,hbr⟩;have hz:=hK.out _ _ ⟨b3,A3,n3,c3,D3,m3,e3,rfl,h3⟩ hbr;dsimp only [cY] at hz;simp only [dq9,dq10] at hz;exact hz
      ·intro _ k _ hk
       obtain rfl:=hk (by decide);intro xf wq hT hd K hK;have dq3:xf 3=ae mk.name:=hd ⟨3,.data⟩ (by simp) rfl;obtain ⟨b3,A3,n3,c3,D3,m3,e3,e7,h3⟩:VRd mk.x (xf 7) wq:=hd ⟨7,.data⟩ (by simp) rfl;obtain ⟨b4,A4,n4,c4,D4,m4,e4,e11,h4⟩:VRd mk.y (xf 11) wq:=hd ⟨11,.data⟩ (by simp) rfl;(try dsimp only [cY]);(try simp only [dq3,e7,e11]);go_simp;have hz:=hK.out _ _ ⟨b3,A3,n3,c3,D3,m3,e3,b4,A4,n4,c4,D4,m4,e4,rfl,h3,h4⟩ (aa _);dsimp only [cY] at hz;simp only [dq3,e7,e11] at hz;exact hz
      ·intro _ k _ hk
       obtain rfl:=hk (by decide);intro xf wq hT hd K hK;obtain ⟨b3,A3,n3,c3,D3,m3,e3,b4,A4,n4,c4,D4,m4,e4,e12,h3,h4⟩:VMc mk (xf 12) wq:=hd ⟨12,.data⟩ (by simp) rfl;(try dsimp only [cY]);(try simp only [e12]);go_simp;have hb:=(aa wq).alloc Qr (.cells #[ae mk.name,.bool b3,.slice A3 n3 c3,.slice D3 m3 e3,.bool b4,.slice A4 n4 c4,.slice D4 m4 e4] 56);have hz:=hK.out (.slice (some ⟨wq.heap.size,0,none⟩) 1 1) (wq.alloc (.cells #[ae mk.name,.bool b3,.slice A3 n3 c3,.slice D3 m3 e3,.bool b4,.slice A4 n4 c4,.slice D4 m4 e4] 56)) ⟨wq.heap.size,b3,A3,n3,c3,D3,m3,e3,b4,A4,n4,c4,D4,m4,e4,rfl,Blk.new _ _ _,h3.belw hb,h4.belw hb⟩ hb;dsimp only [cY] at hz;simp only [e12] at hz;exact hz
      intro _ k hk _;obtain rfl | rfl | rfl:=(show k=0∨k=1∨k=2 by have hk:k≤2:=hk;omega)
      ·intro xf wq hT hd K hK
       (try dsimp only [cY]);go_simp;have hz:=hK.out _ _ rfl (aa _);exact hz
      ·intro xf wq hT hd K hK
       (try dsimp only [cY]);go_simp;have hz:=hK.out _ _ rfl (aa _);exact hz
      intro xf wq hT hd K hK;(try dsimp only [cY]);go_simp;have hz:=hK.out _ _ rfl (aa _);exact hz
     ·intro k i o hk ho
      obtain rfl | rfl:=(show k=0∨k=1 by have:=ii hk;have:k < 2:=this;omega)
      ·injection hk with hk
       subst hk;injection ho with ho;subst ho;intro xf wq D hn hT hD hd K hK;have hT:Below w5.heap.size w5 wq:=hT;have dq1:xf 1=.slice A2 k c2:=hd 1 (hD ⟨1,.data⟩ (by simp) rfl);obtain ⟨gs,b3,A3,n3,c3,D3,m3,e3,b4,A4,n4,c4,D4,m4,e4,e13,hbs,h3,h4⟩:VMs mk (xf 13) wq:=hd 13 (hD ⟨13,.data⟩ (by simp) rfl);obtain ⟨hl,xs,hown,hrow⟩:=(RM.out.blw hT);have hs5:=hT.size;have hlt6:=X6.out.lt;have hlb:=HB5.out;rw [if_pos (show Region.wanted _ _=true from rfl)];refine cd _ noW _ _ _ rfl wb.heap.size 56 im (.agg #[.string ⟨#[]⟩,.bool false,.slice none 0 0,.slice none 0 0,.bool false,.slice none 0 0,.slice none 0 0]) 7 128 Tryz.underlying49 HIM.out.1 HIM.out.2.1 HIM.out.2.2.1 HIM.out.2.2.2 rfl (by omega) rfl (.slice A2 k c2) k xs dq1 hown ⟨gs,0,none⟩ 1 1 [ae mk.name,.bool b3,.slice A3 n3 c3,.slice D3 m3 e3,.bool b4,.slice A4 n4 c4,.slice D4 m4 e4] e13 rfl (World.news_of_block hbs) (by simp [Value.oneCell']) rfl (by omega) (by unfold maxLen;omega) (by omega) (by omega) ?_;intro g5 cap w7 hown5 hgrow _;have hp:=gS hl hown hrow (a:=mk) (cs:=[ae mk.name,.bool b3,.slice A3 n3 c3,.slice D3 m3 e3,.bool b4,.slice A4 n4 c4,.slice D4 m4 e4]) ⟨b3,A3,n3,c3,D3,m3,e3,b4,A4,n4,c4,D4,m4,e4,rfl,h3,h4,OM2.out⟩ rfl hown5 hgrow (by omega) (fun _ _ _ ht x=>x.tch ht);have x6:Blk w7 g6 51 #[ae bd.name,.slice A2 k c2]:=(X6.out.below hT X6.out.lt).grw hgrow (hown.neb (X6.out.below hT X6.out.lt) (by decide));exact hK.out _ _ ⟨x6,(hT.mono HB5.out).trans hp.2.2⟩ ⟨_,_,rfl,hp.1⟩ (cg.all ⟨fun h=>absurd h hn,fun h=>hd 15 h,trivial⟩)
      injection hk with hk;subst hk;injection ho with ho;subst ho;intro xf wq D hn hT hD hd K hK;obtain ⟨x6,hT⟩:Blk wq g6 51 #[ae bd.name,.slice A2 k c2]∧Below wb.heap.size w5 wq:=hT;obtain ⟨A5,c5,e14,hrow⟩:∃ A5 c5,xf 14=.slice A5 (k+1) c5∧ay 56 (MkC 130) 7 wq wb.heap.size (xf 14) (k+1) (bd.pts.take k ++ [mk]):=hd 14 (hD ⟨14,.data⟩ (by simp) rfl);have dq15:xf 15=.pointer (some ⟨g6,1,none⟩):=hd 15 (hD ⟨15,.data⟩ (by simp) rfl);rw [e14] at hrow;have cz1:=x6.cell 1;have fz1:=x6.frozen 1;(try dsimp only [cY]);(try simp only [dq15,e14]);go_simp;have t1:=Tch.set (T:=bQ 51) x6 (by simp [bQ]) rfl 1 (.slice A5 (k+1) c5);have hz:=hK.out undef _ (show Below wb.heap.size w5 _ from hT.setCell (p:=⟨g6,1,none⟩) HG6.out (.slice A5 (k+1) c5)) ⟨A5,c5,x6.s21 _,hrow.tch t1 (by decide) (fun _ _ x=>x.tch t1)⟩ (cg.all ⟨fun _=>dq15,fun h=>absurd h hn,trivial⟩);dsimp only [cY] at hz;simp only [dq15,e14] at hz;exact hz
     intro xf w9 hT hr;obtain ⟨A5,c5,x6,hrow⟩:∃ A5 c5,Blk w9 g6 51 #[ae bd.name,.slice A5 (k+1) c5]∧ay 56 (MkC 130) 7 w9 wb.heap.size (.slice A5 (k+1) c5) (k+1) (bd.pts.take k ++ [mk]):=hr 16 (by decide);have hT:Below wb.heap.size w5 w9:=hT;clear hr;dsimp only [cY];go_wp2_with fail;go_roundw
     case rel=>exact ⟨k+1,A5,c5,by go_num,by omega,x6,by rw [TK.out];exact hrow,QB.out.trans hT⟩
     case measure=>simp [intOf];omega
    have hk1:((k:Int) < (m:Int))=False:=by simp;omega
    obtain rfl:k=m:=by omega
    have htk:bd.pts.take k=bd.pts:=List.take_of_length_le (by rw [HM.out.1];exact Qr);have hrm:=RMa.out;rw [htk] at hrm;have RM2:=Qh hrm;have x3:=X3.out.below QBa.out X3.out.lt;have xr3:=XR.out.below QBa.out XR.out.lt;have c3a:=x3.cell 1;have f3a:=x3.frozen 1;have x6:=X6a.out;have c60:=x6.cell 0;have c61:=x6.cell 1;obtain ⟨hlen,xs,hown0,hrow0,hdj⟩:=HBS.out
    have hdj2:Dj (xs ++ [ae bd.name,.slice A2 k c2]):=Dj.snoc hrow0 hdj (by rw [hown0.1,hlen]) fun g e=>by
     subst e;obtain ⟨_,ys,ho,_⟩:=RM2.out;exact (ho.at_ (g:=g) rfl).1
    have HDJ:=Qh hdj2;have hown:=hown0.belw QBa.out;have hrow:=hrow0.map_ fun _ _ x=>x.tch (Tch.below (T:=fun _=>false) QBa.out) rfl
    have q3:=Q9.out.trans (QBa.out.mono Q9.out.size);have hq3:=q3.size;have HTK2:=Qh (show L.bodies.take (i+1)=L.bodies.take i ++ [bd] by rw [List.take_add_one,HBI.out];rfl);have HBO:Hid (BdO w.heap.size w3 [ae bd.name,.slice A2 k c2] bd):=Qh ⟨A2,k,c2,rfl,RM2.out.base Q9.out.size,HNM.out⟩;clear htk hrm hown0 hrow0 hdj hdj2;go_wp2_with (at_builtin;refine bL _ rfl noW _ _ _ rfl w.heap.size 51 ib (.agg #[.string ⟨#[]⟩,.slice none 0 0]) 2 40 Tryz.underlying22 HIB.out.1 HIB.out.2.1 HIB.out.2.2.1 HIB.out.2.2.2 rfl (by omega) rfl _ i xs rfl (hown.belw ((Below.refl _ _).alloc Qr _)) ⟨w3.heap.size,0,none⟩ 1 1 [ae bd.name,.slice A2 k c2] rfl rfl (World.news_of_block (heap_alloc_new w3 _)) (by simp [Value.oneCell']) rfl (by omega) (by unfold maxLen;omega) (by omega) (by simp;omega) ?_;intro gx cap wz hown1 hgrow hor;have hal:=(aa w3).alloc Qr (.cells #[ae bd.name,.slice A2 k c2] 51);have hownA:=hown.belw hal;have x3z:=(x3.below hal x3.lt).grw hgrow (hownA.neb (x3.below hal x3.lt) (by decide));have c3z:=x3z.cell 1;have f3z:=x3z.frozen 1);have hal:=(aa w3).alloc Qr (.cells #[ae bd.name,.slice A2 k c2] 51);have ht:Tch (bQ 51) w3 wz:=(Tch.below hal).trans (Tch.grown (fun _ hu=>hu) (by simp [bQ]) (hown.belw hal) hgrow);have hbz:Below w.heap.size w wz:=(q3.trans (hal.mono hq3)).grown hgrow (by simp;omega) (fun k hk=>((hown.belw hal).at_ hk).1);have xrz:=(xr3.below hal xr3.lt).grw hgrow ((hown.belw hal).neb (xr3.below hal xr3.lt) (by decide));have hbs:jr w.heap.size wz (.slice (some ⟨gx,0,none⟩) (i+1) cap) (i+1) (L.bodies.take i ++ [bd]):=⟨by simp [hlen],_,hown1,(hrow.map_ fun _ _ x=>x.tch ht (by decide)).snoc (HBO.out.tch ht (by decide)) rfl,HDJ.out⟩;have hjz:=(HJ.out.blw QBa.out).tch ht (by decide) (fun _ _ x=>x);have hdz:=(HD.out.blw QBa.out).tch ht (by decide) (fun _ _ x=>x);have x3w:=(x3.below hal x3.lt).grw hgrow ((hown.belw hal).neb (x3.below hal x3.lt) (by decide));have t3:=Tch.set (T:=bQ 26) x3w (by simp [bQ]) rfl 1 (.slice (some ⟨gx,0,none⟩) (i+1) cap);go_roundw
    case rel=>exact ⟨i+1,_,_,by go_num,by omega,xrz.far (p:=⟨g3,1,none⟩) (by show w.heap.size+1≠g3;have:=HL3.out;omega) _,x3w.set_ 1 _,by rw [HTK2.out];exact hbs.tch t3 (by decide) (by decide),hjz.tch t3 (by decide) (fun _ _ x=>x),hdz.tch t3 (by decide) (fun _ _ x=>x),hbz.setCell (p:=⟨g3,1,none⟩) (by show w.heap.size≤g3;have:=HL3.out;omega) _⟩
    case measure=>simp [intOf];omega
  have hi1:((i:Int) < (n:Int))=False:=by simp;omega
  obtain rfl:i=n:=by omega
  have htk:L.bodies.take i=L.bodies:=List.take_of_length_le (by rw [H.out.bodies.1];exact Qr);have hbs:=HBS.out;rw [htk] at hbs;have x3:=X3.out;have xr:=XR.out;obtain ⟨c0,c1',c2',c3'⟩:=x3.c4;obtain ⟨d0,d1,d2,d3⟩:=xr.c4;have f0:=xr.f4;clear x3 htk;go_wp2_with fail;have t3:=pe xr ⟨rfl,rfl,rfl,rfl⟩ (ae L.name) (.slice A3 i c3) (.slice A1 p c1) (.slice A2 q c2);refine bodyPost_ret (v:=.agg #[ae L.name,.slice A3 i c3,.slice A1 p c1,.slice A2 q c2]) (by simp [results,Tryz.results32,go_sem, *] <;> trivial) rfl ?_;exact ⟨_,_,_,_,_,_,_,_,_,rfl,⟨hbs.tch t3 (by decide) (by decide),HJ.out.tch t3 (by decide) (fun _ _ x=>x),HD.out.tch t3 (by decide) (fun _ _ x=>x),H.out.name⟩,lb Q9.out (Nat.le_succ _) _ _ _ _⟩
def AJ:TypeId→Bool:=fun t=>t == 73 || t == 26 || t == 39
structure LgR (N:Nat→Prop) (B:Nat) (w w':World):Prop where
  bel:Below B w w'
  tch:Tch AJ w w'
  kp:∀ x,N x→w'.heap[x]?=w.heap[x]?
section
variable {N:Nat→Prop}{B:Nat}{w w' w2:World}
theorem LgR.refl (N:Nat→Prop) (B:Nat) (w:World):LgR N B w w:=⟨Below.refl _ _,Tch.refl _,fun _ _=>rfl⟩
theorem LgR.trans (h:LgR N B w w') (k:LgR N B w' w2):LgR N B w w2:=⟨h.bel.trans k.bel,h.tch.trans k.tch,fun x hx=>(k.kp x hx).trans (h.kp x hx)⟩
theorem LgR.below (hB:B≤w.heap.size) (hN:∀ x,N x→x < w.heap.size) (h:Below w.heap.size w w'):LgR N B w w':=⟨h.mono hB,Tch.below h,fun x hx=>h.block x (hN x hx)⟩
theorem LgR.grown {T0:TypeId}{size n:Nat}{v:Value}{xs:List Value}(h:OwJ noW w B T0 size v n xs) (hT:AJ T0=true) (hB:B≤w.heap.size) (hN:∀ x,N x→x < w.heap.size) (hv:∀ x,v.ownBlock=some x→¬ N x) (k:w.grownBy w' v.ownBlock):LgR N B w w' :=
 ⟨(Below.refl B w).grown k hB (fun _ e=>(h.at_ e).1),Tch.grown (fun _ hu=>hu) hT h k,fun x hx=>k.block x (hN x hx) (fun e=>hv x e.symm hx)⟩
theorem LgR.set {g:Nat}{cs:Array Value}(h:Blk w g 73 cs) (hc:cs.toList.all noW=true) (hB:B≤g) (hN:¬ N g) (i:Nat) (u:Value):LgR N B w (w.setCell ⟨g,i,none⟩ u) :=
 ⟨(Below.refl B w).setCell (p:=⟨g,i,none⟩) hB u,Tch.set h (by decide) hc i u,fun x hx=>Below.heap_setCell w ⟨g,i,none⟩ u x (fun e=>hN (by have e:x=g:=e;exact e ▸ hx))⟩
end
section
variable {α:Type}{T0:TypeId}{Pc:World→List Value→α→Prop}{s:Nat}{w w':World}{B:Nat}{v:Value}{n:Nat}{l:List α}{N:Nat→Prop}
theorem ay.gr {row:Option Nat}(h:ay T0 Pc s w B v n l) (k:w.grownBy w' row) (hne:∀ x,v.ownBlock=some x→row≠some x) (hP:∀ cs a,Pc w cs a→Pc w' cs a):ay T0 Pc s w' B v n l:=by
 obtain ⟨hl,xs,h1,h2⟩:=h;refine ⟨hl,xs,⟨h1.1,?_⟩,h2.map_ hP⟩;rcases h1.2 with h3 | ⟨g,cap,cur,rfl,h4,h5,h6⟩
 ·exact .inl h3
 exact .inr ⟨g,cap,cur,rfl,h4,(k.block g (lt_of_block h5) (fun e=>hne g rfl e.symm)).trans h5,h6⟩
theorem ay.neb (h:ay T0 Pc s w B v n l) {g:Nat}{T1:TypeId}{cs:Array Value}(x:Blk w g T1 cs) (ht:T1≠T0):some g≠v.ownBlock:=by
 obtain ⟨_,xs,h1,_⟩:=h;exact h1.neb x ht
def aW (N:Nat→Prop) (T0:TypeId) (Pc:World→List Value→α→Prop) (s:Nat) (w:World) (B:Nat) (v:Value) (n:Nat) (l:List α):Prop:=ay T0 Pc s w B v n l∧∀ x,v.ownBlock=some x→¬ N x
theorem aW.nil:aW N T0 Pc s w B (.slice none 0 0) 0 ([]:List α):=⟨ay.nil,fun _ e=>by cases e⟩
theorem aW.tch {T:TypeId→Bool}(h:aW N T0 Pc s w B v n l) (ht:Tch T w w') (hT:T T0=false) (hP:∀ cs a,Pc w cs a→Pc w' cs a):aW N T0 Pc s w' B v n l:=⟨h.1.tch ht hT hP,h.2⟩
theorem aW.blw [hH Pc] (h:aW N T0 Pc s w B v n l) (hb:Below w.heap.size w w'):aW N T0 Pc s w' B v n l:=⟨h.1.blw hb,h.2⟩
theorem aW.form (h:aW N T0 Pc s w B v n l):∃ A c,v=.slice A n c∧n≤c:=h.1.form
theorem aW.cut {A:Option Addr}{c:Nat}(h:aW N T0 Pc s w B (.slice A n c) n l) {m:Nat}(hm:m≤n):aW N T0 Pc s w B (.slice A m c) m (l.take m):=by
 cases A with
 | none =>
  obtain ⟨hl,xs,h1,h2⟩:=h.1;rcases h1.2 with ⟨e,hn⟩ | ⟨g,cap,cur,e,_⟩
  ·injection e with _ _ e
   subst e hn;obtain rfl:m=0:=by omega
   obtain rfl:l=[]:=List.eq_nil_of_length_eq_zero hl;exact aW.nil
  cases e
 | some a =>
  obtain ⟨g,o,p⟩:=a;obtain ⟨hl,xs,h1,h2⟩:=h.1;rcases h1.2 with ⟨e,hn⟩ | ⟨g',cap,cur,e,_⟩
  ·cases e
  injection e with e;injection e with e;injection e with e1 e2 e3;subst e1 e2 e3;exact ⟨h.1.cut hm,fun x e=>h.2 x (by simpa [Value.ownBlock] using e)⟩
end
structure dE (N:Nat→Prop) (B:Nat) (w:World) (gl:Nat) (c0 c1 c2 c3 v5 v6 v7:Value):Prop where
  blk:Blk w gl 73 #[c0,c1,c2,c3,v5,v6,v7]
  hB:B≤gl
  hN:∀ x,N x→x < w.heap.size
  n0:¬ N gl
  nw:noW c0=true∧noW c1=true∧noW c2=true∧noW c3=true∧noW v5=true∧noW v6=true∧noW v7=true
theorem dE.blw {N:Nat→Prop}{B:Nat}{w w':World}{gl:Nat}{c0 c1 c2 c3 v5 v6 v7:Value}(h:dE N B w gl c0 c1 c2 c3 v5 v6 v7) (hb:Below w.heap.size w w'):dE N B w' gl c0 c1 c2 c3 v5 v6 v7:=⟨h.blk.below hb h.blk.lt,h.hB,fun x hx=>Nat.lt_of_lt_of_le (h.hN x hx) hb.size,h.n0,h.nw⟩
theorem dE.grw {N:Nat→Prop}{B:Nat}{w w':World}{gl:Nat}{c0 c1 c2 c3 v5 v6 v7:Value}{row:Option Nat}(h:dE N B w gl c0 c1 c2 c3 v5 v6 v7) (k:w.grownBy w' row) (hne:some gl≠row):dE N B w' gl c0 c1 c2 c3 v5 v6 v7:=⟨h.blk.grw k hne,h.hB,fun x hx=>Nat.lt_of_lt_of_le (h.hN x hx) k.size,h.n0,h.nw⟩
theorem dE.all {N:Nat→Prop}{B:Nat}{w:World}{gl:Nat}{c0 c1 c2 c3 v5 v6 v7:Value}(h:dE N B w gl c0 c1 c2 c3 v5 v6 v7):(#[c0,c1,c2,c3,v5,v6,v7]:Array Value).toList.all noW=true:=by
 obtain ⟨a0,a1,a2,a3,a4,a5,a6⟩:=h.nw;simp [a0,a1,a2,a3,a4,a5,a6]
theorem dE.put {N:Nat→Prop}{B:Nat}{w:World}{gl:Nat}{c0 c1 c2 c3 v5 v6 v7:Value}(h:dE N B w gl c0 c1 c2 c3 v5 v6 v7) (i:Nat) (u:Value) {d0 d1 d2 d3 u5 u6 u7:Value}(e:(#[c0,c1,c2,c3,v5,v6,v7]:Array Value).setIfInBounds i u=#[d0,d1,d2,d3,u5,u6,u7]) (hw:noW d0=true∧noW d1=true∧noW d2=true∧noW d3=true∧noW u5=true∧noW u6=true∧noW u7=true):dE N B (w.setCell ⟨gl,i,none⟩ u) gl d0 d1 d2 d3 u5 u6 u7∧LgR N B w (w.setCell ⟨gl,i,none⟩ u)∧Tch (bQ 73) w (w.setCell ⟨gl,i,none⟩ u) :=
 ⟨⟨h.blk.set_at i u _ e,h.hB,fun x hx=>by simpa using h.hN x hx,h.n0,hw⟩,LgR.set h.blk h.all h.hB h.n0 i u,Tch.set h.blk (by simp [bQ]) h.all i u⟩
structure j6 (N:Nat→Prop) (B:Nat) (w:World) (gl:Nat) (g:io) (A:Option Addr) (n c:Nat) (C:Option Addr) (p d:Nat) (D:Option Addr) (q e:Nat) (v5 v6 v7:Value):Prop where
  core:dE N B w gl (ae g.now.name) (.slice A n c) (.slice C p d) (.slice D q e) v5 v6 v7
  now:LkY 130 w A n c C p d D q e g.now
  bef:aW N 26 (LkC 130) 4 w B v5 g.done.length g.before
  don:aW N 39 EdC 3 w B v6 g.done.length g.done
  und:aW N 39 EdC 3 w B v7 g.undone.length g.undone
  dis:∀ x,v7.ownBlock=some x→v6.ownBlock≠some x
theorem LkY.blw {k:Nat}{w w':World}{A B C:Option Addr}{n c p d q e:Nat}{L:ai}(h:LkY k w A n c B p d C q e L) (hb:Below w.heap.size w w'):LkY k w' A n c B p d C q e L:=h.tch (T:=fun _=>false) (Tch.below hb) rfl rfl rfl rfl
theorem LkY.lg {k:Nat}{w w':World}{A B C:Option Addr}{n c p d q e:Nat}{L:ai}{N:Nat→Prop}{B0:Nat}(h:LkY k w A n c B p d C q e L) (t:LgR N B0 w w'):LkY k w' A n c B p d C q e L:=h.tch t.tch (by decide) (by decide) (by decide) (by decide)
section
variable {N:Nat→Prop}{B:Nat}{w w':World}{gl:Nat}{g:io}{A C D:Option Addr}{n c p d q e:Nat}{v5 v6 v7:Value}
theorem j6.blw (h:j6 N B w gl g A n c C p d D q e v5 v6 v7) (hb:Below w.heap.size w w'):j6 N B w' gl g A n c C p d D q e v5 v6 v7:=⟨h.core.blw hb,h.now.blw hb,h.bef.blw hb,h.don.blw hb,h.und.blw hb,h.dis⟩
theorem j6.forms (h:j6 N B w gl g A n c C p d D q e v5 v6 v7):∃ A5 c5 A6 c6 A7 c7,v5=.slice A5 g.done.length c5∧v6=.slice A6 g.done.length c6∧v7=.slice A7 g.undone.length c7∧g.done.length≤c5∧g.done.length≤c6∧g.undone.length≤c7:=by
 obtain ⟨A5,c5,e5,h5⟩:=h.bef.form;obtain ⟨A6,c6,e6,h6⟩:=h.don.form;obtain ⟨A7,c7,e7,h7⟩:=h.und.form;exact ⟨A5,c5,A6,c6,A7,c7,e5,e6,e7,h5,h6,h7⟩
end
def js (N:Nat→Prop) (B:Nat) (w:World) (gl:Nat) (g:io):Prop:=∃ A n c C p d D q e v5 v6 v7,j6 N B w gl g A n c C p d D q e v5 v6 v7
theorem js.blw {N:Nat→Prop}{B:Nat}{w w':World}{gl:Nat}{g:io}(h:js N B w gl g) (hb:Below w.heap.size w w'):js N B w' gl g:=by
 obtain ⟨A,n,c,C,p,d,D,q,e,v5,v6,v7,h⟩:=h;exact ⟨A,n,c,C,p,d,D,q,e,v5,v6,v7,h.blw hb⟩
theorem js.more {N N':Nat→Prop}{B:Nat}{w w':World}{gl:Nat}{g:io}(h:js N B w gl g) (hb:Below w.heap.size w w') (hN:∀ x,N' x→x < w'.heap.size) (hk:∀ x,N' x→N x∨w.heap.size≤x):js N' B w' gl g:=by
 obtain ⟨A,n,c,C,p,d,D,q,e,v5,v6,v7,h⟩:=h
 have r:∀ {α:Type}{T0:TypeId}{Pc:World→List Value→α→Prop}{s n:Nat}{v:Value}{l:List α},aW N T0 Pc s w B v n l→∀ x,v.ownBlock=some x→¬ N' x:=by
  intro α T0 Pc s n v l hr x e hx;obtain ⟨_,xs,ho,_⟩:=hr.1;obtain ⟨_,cur,h3,_⟩:=ho.at_ e;have:=lt_of_block h3;rcases hk x hx with h1 | h1
  ·exact hr.2 x e h1
  omega
 have k:=h.blw hb;refine ⟨A,n,c,C,p,d,D,q,e,v5,v6,v7,⟨⟨k.core.blk,k.core.hB,hN,fun hx=>?_,k.core.nw⟩,k.now,⟨k.bef.1,r h.bef⟩,⟨k.don.1,r h.don⟩,⟨k.und.1,r h.und⟩,k.dis⟩⟩;rcases hk gl hx with h1 | h1
 ·exact h.core.n0 h1
 have:=h.core.blk.lt;omega
end Go.Proofs.YtndhgcfajlalhaaGreatDoor
