import Derived.BigQuiet
import Derived.Deep.RegionHeld3
import Derived.Deep.DrawnRows
import Derived.Laws.StructEq
import Derived.Test.YtndhgcfajlalhaaGreatDoorCards
import Derived.Test.YtndhgcfajlalhaaGreatDoorTie
import Derived.ProofKit
import Derived.WalkKit
import Derived.OpenShut
import Derived.Deep.DeepHandedRow
import Derived.Lib.LaidTab
import Derived.Shelf.Vars
import Derived.Deep.Slices
import Derived.SizedLaws
import Derived.ChangeMaps5
import Derived.Test.YtndhgcfajlalhaaGreatDoorEN5
set_option linter.unusedVariables false
set_option maxHeartbeats 8000000
set_option maxRecDepth 100000
/- Walks: the step of a log. -/
namespace Go.Proofs.YtndhgcfajlalhaaGreatDoor
open Go Go.RowKit Bn
attribute [local go_sem ↓] Go.wp_at_zero Go.wp_at_succ
def ApC (L:ai) (ed:ce) (x:Int) (L':ai):Prop:=∀ (w:World) (A:Option Addr) (n c:Nat) (C:Option Addr) (p d:Nat) (D:Option Addr) (q e:Nat),Tab w→Mx w→LkY 130 w A n c C p d D q e L→Calls Tryz.prog 15 #[.agg #[ae L.name,.slice A n c,.slice C p d,.slice D q e],.agg #[.int .i64 ed.kind,ae ed.name,ae ed.text]] w (la w (be x) L')
theorem ApC.go {L L':ai}{ed:ce}{x:Int}(h:ApC L ed x L') (w:World) (A:Option Addr) (n c:Nat) (C:Option Addr) (p d:Nat) (D:Option Addr) (q e:Nat) (htab:Tab w) (hmx:Mx w) (hY:LkY 130 w A n c C p d D q e L):Calls Tryz.prog 15 #[.agg #[ae L.name,.slice A n c,.slice C p d,.slice D q e],.agg #[.int .i64 ed.kind,ae ed.name,ae ed.text]] w (la w (be x) L'):=h w A n c C p d D q e htab hmx hY
def VAp (x:Int) (L:ai):Value→World→Prop:=fun v w=>∃ A n c C p d D q e,v=.tuple #[.agg #[ae L.name,.slice A n c,.slice C p d,.slice D q e],be x]∧LkY 130 w A n c C p d D q e L
theorem gAp (x:Int) (L:ai):Grw (VAp x L):=fun _ _ _ ⟨A,n,c,C,p,d,D,q,e,h0,h⟩ hb=>⟨A,n,c,C,p,d,D,q,e,h0,h.blw hb⟩
theorem VAp.tch1 {x:Int}{L:ai}{v:Value}{w w':World}(h:VAp x L v w) (t:Tch (bQ 26) w w'):VAp x L v w':=by
 obtain ⟨A,n,c,C,p,d,D,q,e,h0,h⟩:=h;exact ⟨A,n,c,C,p,d,D,q,e,h0,h.tch t (by decide) (by decide) (by decide) (by decide)⟩
def VLv (L:ai):Value→World→Prop:=fun v w=>∃ A n c C p d D q e,v=.agg #[ae L.name,.slice A n c,.slice C p d,.slice D q e]∧LkY 130 w A n c C p d D q e L
theorem gLv (L:ai):Grw (VLv L):=fun _ _ _ ⟨A,n,c,C,p,d,D,q,e,h0,h⟩ hb=>⟨A,n,c,C,p,d,D,q,e,h0,h.blw hb⟩
def VPl (W:World) (L:ai):Value→World→Prop:=fun v w=>∃ x A n c C p d D q e,v=.pointer (some ⟨x,0,none⟩)∧W.heap.size≤x∧Blk w x 26 #[ae L.name,.slice A n c,.slice C p d,.slice D q e]∧LkY 130 w A n c C p d D q e L
theorem gPl (W:World) (L:ai):Grw (VPl W L):=fun _ _ _ ⟨x,A,n,c,C,p,d,D,q,e,h0,h1,h2,h3⟩ hb=>⟨x,A,n,c,C,p,d,D,q,e,h0,h1,h2.below hb h2.lt,h3.blw hb⟩
theorem vy {w w1 w2:World}{row:Option Nat}(h:Below w.heap.size w w1) (k:w1.grownBy w2 row):w.grownBy w2 row:=⟨k.os.trans h.os,k.tape.trans h.tape,k.output.trans h.output,Nat.le_trans h.size k.size,fun x hx hne=>(k.block x (Nat.lt_of_lt_of_le hx h.size) hne).trans (h.block x hx)⟩
theorem nc {w w1 w2:World}{row:Option Nat}(k:w.grownBy w1 row) (h:Below w1.heap.size w1 w2):w.grownBy w2 row:=⟨h.os.trans k.os,h.tape.trans k.tape,h.output.trans k.output,Nat.le_trans k.size h.size,fun x hx hne=>(h.block x (Nat.lt_of_lt_of_le hx k.size)).trans (k.block x hx hne)⟩
theorem nf {N:Nat→Prop}{w0 w:World}{v:Value}{g n c:Nat}(hor:v.ownBlock=some g∨g=w.heap.size) (h:∀ x,v.ownBlock=some x→¬ N x) (hN:∀ x,N x→x < w0.heap.size) (hs:w0.heap.size≤w.heap.size):∀ x,(Value.slice (some ⟨g,0,none⟩) n c).ownBlock=some x→¬ N x:=by
 intro x e hx;injection e with e;have e:g=x:=e;subst e;rcases hor with h1 | h1
 ·exact h _ h1 hx
 have:=hN _ hx;omega
def TLL:TypeId→Bool:=fun t=>t == 73 || t == 26
def TLE:TypeId→Bool:=fun t=>t == 73 || t == 39
theorem zg {t:TypeId}(h:bQ 26 t=true):TLL t=true:=by
 have h:(t == 26)=true:=h;unfold TLL;rw [h];simp
theorem zh {t:TypeId}(h:bQ 73 t=true):TLL t=true:=by
 have h:(t == 73)=true:=h;unfold TLL;rw [h];simp
theorem zi {t:TypeId}(h:bQ 39 t=true):TLE t=true:=by
 have h:(t == 39)=true:=h;unfold TLE;rw [h];simp
theorem zj {t:TypeId}(h:bQ 73 t=true):TLE t=true:=by
 have h:(t == 73)=true:=h;unfold TLE;rw [h];simp
theorem LgR.more {N:Nat→Prop}{B:Nat}{w w1 w2:World}{gl:Nat}{c0 c1 c2 c3 v5 v6 v7:Value}(h:LgR N B w w1) (k:dE N B w1 gl c0 c1 c2 c3 v5 v6 v7) (hb:Below w1.heap.size w1 w2):LgR N B w w2:=h.trans (LgR.below (by have:=k.hB;have:=k.blk.lt;omega) k.hN hb)
theorem ru {N:Nat→Prop}{B:Nat}{w:World}{gl:Nat}{c0 c1 c2 c3 v5 v6 v7:Value}{L:ai}{bf:List ai}{dn un:List ce}{m k:Nat}{A C D:Option Addr}{n c p d q e:Nat}(h:dE N B w gl c0 c1 c2 c3 v5 v6 v7) (h5:aW N 26 (LkC 130) 4 w B v5 m bf) (h6:aW N 39 EdC 3 w B v6 m dn) (h7:aW N 39 EdC 3 w B v7 k un) (dis:∀ x,v7.ownBlock=some x→v6.ownBlock≠some x) (hY:LkY 130 w A n c C p d D q e L) :
 j6 N B ((((w.setCell ⟨gl,0,none⟩ (ae L.name)).setCell ⟨gl,1,none⟩ (.slice A n c)).setCell ⟨gl,2,none⟩ (.slice C p d)).setCell ⟨gl,3,none⟩ (.slice D q e)) gl ⟨L,bf,dn,un⟩ A n c C p d D q e v5 v6 v7∧LgR N B w ((((w.setCell ⟨gl,0,none⟩ (ae L.name)).setCell ⟨gl,1,none⟩ (.slice A n c)).setCell ⟨gl,2,none⟩ (.slice C p d)).setCell ⟨gl,3,none⟩ (.slice D q e)):=by
 obtain ⟨w0,w1,w2,w3,w5,w6,w7⟩:=h.nw;obtain ⟨p1,r1,t1⟩:=h.put 0 (ae L.name) (d0:=ae L.name) rfl ⟨rfl,w1,w2,w3,w5,w6,w7⟩;obtain ⟨p2,r2,t2⟩:=p1.put 1 (.slice A n c) (d1:=.slice A n c) rfl ⟨rfl,rfl,w2,w3,w5,w6,w7⟩;obtain ⟨p3,r3,t3⟩:=p2.put 2 (.slice C p d) (d2:=.slice C p d) rfl ⟨rfl,rfl,rfl,w3,w5,w6,w7⟩;obtain ⟨p4,r4,t4⟩:=p3.put 3 (.slice D q e) (d3:=.slice D q e) rfl ⟨rfl,rfl,rfl,rfl,w5,w6,w7⟩;have t:=((t1.trans t2).trans t3).trans t4;have r:=((r1.trans r2).trans r3).trans r4;have em:m=dn.length:=h6.1.1.symm;have ek:k=un.length:=h7.1.1.symm;subst em ek;exact ⟨⟨p4,hY.lg r,h5.tch t (by decide) (fun _ _ x=>x.tch t (by decide) (by decide) (by decide) (by decide)),h6.tch t (by decide) (fun _ _ x=>x),h7.tch t (by decide) (fun _ _ x=>x),dis⟩,r⟩
def jX (N:Nat→Prop) (B:Nat) (w:World) (gl:Nat) (x:Int) (g':io) (e:Ending) (w':World):Prop:=e=.returned (be x)∧(x≠0→Below w.heap.size w w')∧(x=0→LgR N B w w'∧js N B w' gl g')
abbrev da (u0 u1 u2 u3 u4 u16 u17 u18 u19 u20 u21 u22 u23 u24 u25 u26 u27 u28 u29 u30 u31 u32 u33 u34 u35 u36 u37 u38 u39 u40 u41 u42 u43 u44 u45:Value) (xf:Nat→Value):Act:=⟨List.toArray (u0 :: u1 :: u2 :: u3 :: u4 :: xf 9 :: xf 11 :: xf 6 :: xf 0 :: xf 1 :: xf 2 :: xf 3 :: xf 4 :: xf 5 :: xf 7 :: xf 8 :: u16 :: u17 :: u18 :: u19 :: u20 :: u21 :: u22 :: u23 :: u24 :: u25 :: u26 :: u27 :: u28 :: u29 :: u30 :: u31 :: u32 :: u33 :: u34 :: u35 :: u36 :: u37 :: u38 :: u39 :: u40 :: u41 :: u42 :: u43 :: u44 :: u45 :: []),[]⟩
abbrev cC (u0 u1 u2 u3 u4 u5 u6 u7 u8 u9 u10 u11 u12 u13 u14 u15 u16 u17 u18 u32 u33 u34 u35 u36 u37 u38 u39 u40 u41 u42 u43 u44 u45:Value) (xf:Nat→Value):Act:=⟨List.toArray (u0 :: u1 :: u2 :: u3 :: u4 :: u5 :: u6 :: u7 :: u8 :: u9 :: u10 :: u11 :: u12 :: u13 :: u14 :: u15 :: u16 :: u17 :: u18 :: xf 0 :: xf 1 :: xf 2 :: xf 3 :: xf 4 :: xf 5 :: xf 6 :: xf 7 :: xf 8 :: xf 9 :: xf 10 :: xf 11 :: xf 12 :: u32 :: u33 :: u34 :: u35 :: u36 :: u37 :: u38 :: u39 :: u40 :: u41 :: u42 :: u43 :: u44 :: u45 :: []),[]⟩
abbrev cZ (u0 u1 u2 u3 u4 u5 u6 u7 u8 u9 u10 u11 u12 u13 u14 u15 u16 u17 u18 u19 u20 u21 u22 u23 u24 u25 u26 u27 u28 u29 u30 u31 u42 u43 u44 u45:Value) (xf:Nat→Value):Act:=⟨List.toArray (u0 :: u1 :: u2 :: u3 :: u4 :: u5 :: u6 :: u7 :: u8 :: u9 :: u10 :: u11 :: u12 :: u13 :: u14 :: u15 :: u16 :: u17 :: u18 :: u19 :: u20 :: u21 :: u22 :: u23 :: u24 :: u25 :: u26 :: u27 :: u28 :: u29 :: u30 :: u31 :: xf 0 :: xf 1 :: xf 2 :: xf 3 :: xf 4 :: xf 5 :: xf 6 :: xf 7 :: xf 8 :: xf 9 :: u42 :: u43 :: u44 :: u45 :: []),[]⟩
theorem vz (N:Nat→Prop) (B:Nat) (w:World) (gl:Nat) (g:io) (h:js N B w gl g) (ed:ce) (x:Int) (L':ai) (hA:ApC g.now ed x L') (hc:g.done.length≤1000) (htab:Tab w) (hmx:Mx w):Calls Tryz.prog 48 #[.pointer (some ⟨gl,0,none⟩),.agg #[.int .i64 ed.kind,ae ed.name,ae ed.text]] w (jX N B w gl x ⟨L',g.before ++ [g.now],g.done ++ [ed],g.undone⟩):=by
 obtain ⟨A,n,c,C,p,d,D,q,e,v5,v6,v7,h⟩:=h;obtain ⟨A5,c5,A6,c6,A7,c7,rfl,rfl,rfl,h5,h6,h7⟩:=h.forms;obtain ⟨ik,hi0,hz0,hz1,hz2⟩:=info_parts xI;have HIK:=Qh (And.intro hi0 (And.intro hz0 (And.intro hz1 hz2)));clear hi0 hz0 hz1 hz2;obtain ⟨ie,hi0,hz0,hz1,hz2⟩:=info_parts m9;have HIE:=Qh (And.intro hi0 (And.intro hz0 (And.intro hz1 hz2)));clear hi0 hz0 hz1 hz2;have HL0:=Qh h;have HA:=Qh hA;have HTab0:=Qh htab;have HM0:=Qh hmx;clear h hA htab hmx;go_in;go_wp2_with fail;have Q1:=Qh ((aa w).alloc Qr (.cells #[.int .i64 ed.kind,ae ed.name,ae ed.text] 39));have XE:=Qh (Blk.new w 39 #[.int .i64 ed.kind,ae ed.name,ae ed.text]);have HL:=Qh (HL0.out.blw Q1.out);have HTab:=Qh (HTab0.out.belw Q1.out);have HM:=Qh (HM0.out.belw Q1.out);have CORE1:=Qh HL0.out.core;generalize (w.alloc (.cells #[.int .i64 ed.kind,ae ed.name,ae ed.text] 39))=w1 at Q1 XE HL HTab HM ⊢;generalize w.heap.size=ge at XE ⊢;clear HL0 HTab0 HM0;change Code.wp _ _ _ (da _ _ _ _ _ _ _ _ _ _ _ _ _ _ _ _ _ _ _ _ _ _ _ _ _ _ _ _ _ _ _ _ _ _ _ (fun _=>undef)) _;refine cE (x0:=(fun _=>undef)) [10] [8,11] (R:=R2 ((jq ((PEq (.pointer (some ⟨gl,0,none⟩))) :: (PEq (.pointer (some ⟨gl,0,none⟩))) :: (PEq (.pointer (some ⟨gl,0,none⟩))) :: (PEq (.agg #[ae g.now.name,.slice A n c,.slice C p d,.slice D q e])) :: (PEq (.agg #[.int .i64 ed.kind,ae ed.name,ae ed.text])) :: (VAp x L') :: (VAp x L') :: (VLv L') :: (PEq (be x)) :: (fun v w=>∃ x,v=.pointer (some ⟨x,0,none⟩)∧w1.heap.size≤x∧Blk w x 26 #[.string ⟨#[]⟩,.slice none 0 0,.slice none 0 0,.slice none 0 0]) :: eK :: (PEq (be x)) :: [])) :: (cg ((6,(VAp x L')) :: (8,(PEq (be x))) :: (9,(VPl w1 L')) :: (11,(PEq (be x))) :: [])) :: [])) (T:=T2 ((fun w=>Below w1.heap.size w1 w) :: (fun w=>Below w1.heap.size w1 w) :: [])) (by kernel_rfl) ?_ ?_ (by decide) (jU (by decide)) (fj (by kernel_rfl)) (fk (by kernel_rfl)) (R2.grw ⟨jq.grw ⟨gEq _,gEq _,gEq _,gEq _,gEq _,gAp _ _,gAp _ _,gLv _,gEq _,(fun _ _ _ ⟨x,h0,h1,h2⟩ hb=>⟨x,h0,h1,h2.below hb h2.lt⟩),kW,gEq _,trivial⟩,cg.grw ⟨gAp _ _,gEq _,gPl _ _,gEq _,trivial⟩,trivial⟩) (T2.grw ⟨fun _ _ h hb=>h.trans (hb.mono h.size),fun _ _ h hb=>h.trans (hb.mono h.size),trivial⟩) ?_ ?_ ?_ ?_
 ·exact aH ⟨(fun _ _=>rfl),(fun _ _=>rfl),(fun _ _=>rfl),(fun _ _=>rfl),(fun _ _=>rfl),(fun _ _=>rfl),(fun _ _=>rfl),(fun _ _=>rfl),(fun _ _=>rfl),(fun _ _=>rfl),(fun _ _=>rfl),(fun _ _=>rfl),trivial⟩
 ·exact aH (bT _ 0 (by kernel_rfl))
 ·exact (aa _).drew
 ·refine aH ⟨?_,?_,?_,?_,?_,?_,?_,?_,?_,?_,(fun h=>absurd (by decide) h),?_,trivial⟩
  ·intro _ k _ hk
   obtain rfl:=hk (by decide);intro xf wq hT hd K hK;(try dsimp only [da]);go_simp;have hz:=hK.out _ _ rfl (aa _);exact hz
  ·intro _ k _ hk
   obtain rfl:=hk (by decide);intro xf wq hT hd K hK;have dq0:xf 0=.pointer (some ⟨gl,0,none⟩):=hd ⟨0,.data⟩ (by simp) rfl;(try dsimp only [da]);(try simp only [dq0]);go_simp;have hz:=hK.out _ _ rfl (aa _);dsimp only [da] at hz;simp only [dq0] at hz;exact hz
  ·intro _ k _ hk
   obtain rfl:=hk (by decide);intro xf wq hT hd K hK;have dq1:xf 1=.pointer (some ⟨gl,0,none⟩):=hd ⟨1,.data⟩ (by simp) rfl;(try dsimp only [da]);(try simp only [dq1]);go_simp;have hz:=hK.out _ _ rfl (aa _);dsimp only [da] at hz;simp only [dq1] at hz;exact hz
  ·intro _ k _ hk
   obtain rfl:=hk (by decide);intro xf wq hT hd K hK;have dq2:xf 2=.pointer (some ⟨gl,0,none⟩):=hd ⟨2,.data⟩ (by simp) rfl;have hT:Below w1.heap.size w1 wq:=hT;have hx:=HL.out.core.blk.below hT HL.out.core.blk.lt;have hc0:=hx.cell 0;have hc1:=hx.cell 1;have hc2:=hx.cell 2;have hc3:=hx.cell 3;(try dsimp only [da]);(try simp only [dq2]);go_simp;have hz:=hK.out _ _ rfl (aa _);dsimp only [da] at hz;simp only [dq2] at hz;exact hz
  ·intro _ k _ hk
   obtain rfl:=hk (by decide);intro xf wq hT hd K hK;have hT:Below w1.heap.size w1 wq:=hT;have hx:=XE.out.below hT XE.out.lt;have hc0:=hx.cell 0;have hc1:=hx.cell 1;have hc2:=hx.cell 2;(try dsimp only [da]);go_simp;have hz:=hK.out _ _ rfl (aa _);exact hz
  ·intro _ k _ hk
   obtain rfl:=hk (by decide);intro xf wq hT hd K hK;have hT:Below w1.heap.size w1 wq:=hT;have dq3:xf 3=.agg #[ae g.now.name,.slice A n c,.slice C p d,.slice D q e]:=hd ⟨3,.data⟩ (by simp) rfl;have dq4:xf 4=.agg #[.int .i64 ed.kind,ae ed.name,ae ed.text]:=hd ⟨4,.data⟩ (by simp) rfl;(try dsimp only [da]);(try simp only [dq3,dq4]);go_simp;go_at_call 15;(with_reducible refine (HA.out.go wq A n c C p d D q e (HTab.out.belw hT) (HM.out.belw hT) (HL.out.now.blw hT)).mono ?_);rintro e9 wr ⟨A1,n1,c1,B1,m1,d1,C1,k1,e1,rfl,hY,hbr⟩;have hz:=hK.out _ _ ⟨A1,n1,c1,B1,m1,d1,C1,k1,e1,rfl,hY⟩ hbr;dsimp only [da] at hz;simp only [dq3,dq4] at hz;exact hz
  ·intro _ k _ hk
   obtain rfl:=hk (by decide);intro xf wq hT hd K hK;obtain ⟨A1,n1,c1,B1,m1,d1,C1,k1,e1,e5,hY⟩:VAp x L' (xf 5) wq:=hd ⟨5,.data⟩ (by simp) rfl;(try dsimp only [da]);(try simp only [e5]);go_simp;have hz:=hK.out _ _ ⟨A1,n1,c1,B1,m1,d1,C1,k1,e1,rfl,hY⟩ (aa _);dsimp only [da] at hz;simp only [e5] at hz;exact hz
  ·intro _ k _ hk
   obtain rfl:=hk (by decide);intro xf wq hT hd K hK;obtain ⟨A1,n1,c1,B1,m1,d1,C1,k1,e1,e6,hY⟩:VAp x L' (xf 6) wq:=hd ⟨6,.data⟩ (by simp) rfl;(try dsimp only [da]);(try simp only [e6]);go_simp;have hz:=hK.out _ _ ⟨A1,n1,c1,B1,m1,d1,C1,k1,e1,rfl,hY⟩ (aa _);dsimp only [da] at hz;simp only [e6] at hz;exact hz
  ·intro _ k hk _
   obtain rfl | rfl:=(show k=0∨k=1 by have hk:k≤1:=hk;omega)
   ·intro xf wq hT hd K hK
    obtain ⟨A1,n1,c1,B1,m1,d1,C1,k1,e1,e6,hY⟩:VAp x L' (xf 6) wq:=hd ⟨6,.data⟩ (by simp) rfl;(try dsimp only [da]);(try simp only [e6]);go_simp;have hz:=hK.out _ _ rfl (aa _);dsimp only [da] at hz;simp only [e6] at hz;exact hz
   intro xf wq hT hd K hK;obtain ⟨A1,n1,c1,B1,m1,d1,C1,k1,e1,e6,hY⟩:VAp x L' (xf 6) wq:=hd ⟨6,.data⟩ (by simp) rfl;(try dsimp only [da]);(try simp only [e6]);go_simp;have hz:=hK.out _ _ rfl (aa _);dsimp only [da] at hz;simp only [e6] at hz;exact hz
  ·intro _ k _ hk
   obtain rfl:=hk (by decide);intro xf wq hT hd K hK;have hT:Below w1.heap.size w1 wq:=hT;(try dsimp only [da]);go_simp;have hz:=hK.out (.pointer (some ⟨wq.heap.size,0,none⟩)) (wq.alloc (.cells #[.string ⟨#[]⟩,.slice none 0 0,.slice none 0 0,.slice none 0 0] 26)) ⟨wq.heap.size,rfl,hT.size,Blk.new _ _ _⟩ ((aa wq).alloc Qr _);dsimp only [da] at hz;exact hz
  intro _ k hk _;obtain rfl | rfl:=(show k=0∨k=1 by have hk:k≤1:=hk;omega)
  ·intro xf wq hT hd K hK
   have dq8:xf 8=be x:=hd ⟨8,.data⟩ (by simp) rfl;(try dsimp only [da]);(try simp only [dq8]);go_simp;have hz:=hK.out _ _ rfl (aa _);dsimp only [da] at hz;simp only [dq8] at hz;exact hz
  intro xf wq hT hd K hK;have dq8:xf 8=be x:=hd ⟨8,.data⟩ (by simp) rfl;(try dsimp only [da]);(try simp only [dq8]);go_simp;have hz:=hK.out _ _ rfl (aa _);dsimp only [da] at hz;simp only [dq8] at hz;exact hz
 ·intro k i o hk ho
  obtain rfl:=(show k=0 by have:=ii hk;have:k < 1:=this;omega)
  ·injection hk with hk
   subst hk;injection ho with ho;subst ho;intro xf wq DD hn hT hD hd K hK;have hT:Below w1.heap.size w1 wq:=hT;obtain ⟨g5,e9,hg5,hb5⟩:∃ x,xf 9=.pointer (some ⟨x,0,none⟩)∧w1.heap.size≤x∧Blk wq x 26 #[.string ⟨#[]⟩,.slice none 0 0,.slice none 0 0,.slice none 0 0]:=hd 9 (hD ⟨9,.data⟩ (by simp) rfl);obtain ⟨A1,n1,c1,B1,m1,d1,C1,k1,e1,e7,hY⟩:VLv L' (xf 7) wq:=hd 7 (hD ⟨7,.data⟩ (by simp) rfl);obtain ⟨cz0,cz1,cz2,cz3⟩:=hb5.c4;obtain ⟨fz0,fz1,fz2,fz3⟩:=hb5.f4;(try dsimp only [da]);(try simp only [e7,e9]);go_simp;have t1:=pe hb5 ⟨rfl,rfl,rfl,rfl⟩ (ae L'.name) (.slice A1 n1 c1) (.slice B1 m1 d1) (.slice C1 k1 e1);have hz:=hK.out undef _ (show Below w1.heap.size w1 _ from lb hT hg5 (ae L'.name) (.slice A1 n1 c1) (.slice B1 m1 d1) (.slice C1 k1 e1)) trivial (cg.all ⟨fun h=>(hd 6 h:VAp x L' (xf 6) wq).tch1 t1,fun h=>hd 8 h,fun _=>⟨g5,A1,n1,c1,B1,m1,d1,C1,k1,e1,e9,hg5,hb5.s4 _ _ _ _,hY.tch t1 (by decide) (by decide) (by decide) (by decide)⟩,fun h=>hd 11 h,trivial⟩);dsimp only [da] at hz;simp only [e7,e9] at hz;exact hz
 intro xf w9 hT hr;obtain ⟨g5,A1,n1,c1,B1,m1,d1,C1,k1,e1,e9,hg5,hb5,hY⟩:VPl w1 L' (xf 9) w9:=hr 9 (by decide);have e11:xf 11=be x:=hr 11 (by decide);have hT:Below w1.heap.size w1 w9:=hT;have Q9:=Qh (Q1.out.trans (hT.mono Q1.out.size));have HL9:=Qh (HL.out.blw hT);have XE9:=Qh (XE.out.below hT XE.out.lt);have X5:=Qh hb5;have HY:=Qh hY;clear hr hT hb5 hY HA;dsimp only [da];rw [e9,e11];generalize xf 0=z0;generalize xf 1=z1;generalize xf 2=z2;generalize xf 3=z3;generalize xf 4=z4;generalize xf 5=z5;generalize xf 6=z6;generalize xf 7=z7;generalize xf 8=z8;generalize xf 10=z10;clear e9 e11;by_cases hx:x=0;rotate_left
 ·have hx2:=hx
  rw [eVp hx];go_wp2_with fail;refine bodyPost_ret (v:=.iface 58 (.int .i64 x)) (by simp [results,Tryz.results48,go_sem, *] <;> trivial) rfl ?_;exact ⟨by rw [eVp hx2],fun _=>Q9.out,fun h=>absurd h hx2⟩
 subst hx;rw [bo];have BEF:=Qh HL9.out.bef;have DON:=Qh HL9.out.don;have UND:=Qh HL9.out.und;have DIS:=Qh HL9.out.dis
 have N5:=Qh (show ¬ (g5=gl∨(Value.slice A5 g.done.length c5).ownBlock=some g5) from by
  rintro (h | h)
  ·have:=HL.out.core.blk.lt;omega
  obtain ⟨_,ys,ho,_⟩:=HL.out.bef.1;obtain ⟨_,cur,h4,_⟩:=ho.at_ h;have:=lt_of_block h4
  omega)
 go_wp2_with fail;change Code.wp _ _ _ (cC _ _ _ _ _ _ _ _ _ _ _ _ _ _ _ _ _ _ _ _ _ _ _ _ _ _ _ _ _ _ _ _ _ (fun _=>undef)) _;refine cE (x0:=(fun _=>undef)) [10,13] [0,11,12] (R:=R2 ((jq ((PEq (.pointer (some ⟨gl,0,none⟩))) :: (PEq (.pointer (some ⟨gl,0,none⟩))) :: (PEq (.pointer (some ⟨gl,0,none⟩))) :: (PEq (.pointer (some ⟨gl,4,none⟩))) :: (PEq (.slice A5 g.done.length c5)) :: (PEq (.pointer (some ⟨gl,0,none⟩))) :: (PEq (.pointer (some ⟨gl,0,none⟩))) :: (PEq (.pointer (some ⟨gl,0,none⟩))) :: (PEq (.agg #[ae g.now.name,.slice A n c,.slice C p d,.slice D q e])) :: (fun v w=>∃ gs,v=.slice (some ⟨gs,0,none⟩) 1 1∧Blk w gs 26 #[ae g.now.name,.slice A n c,.slice C p d,.slice D q e]) :: eK :: (PEq (.pointer (some ⟨gl,0,none⟩))) :: (PEq (.pointer (some ⟨gl,4,none⟩))) :: eK :: [])) :: (cg ((0,(PEq (.pointer (some ⟨gl,0,none⟩)))) :: (10,(fun v w=>∃ A' c',v=.slice A' (g.done.length+1) c'∧aW N 26 (LkC 130) 4 w B v (g.done.length+1) (g.before ++ [g.now]))) :: (11,(PEq (.pointer (some ⟨gl,0,none⟩)))) :: (12,(PEq (.pointer (some ⟨gl,4,none⟩)))) :: [])) :: (cg ((0,(PEq (.pointer (some ⟨gl,0,none⟩)))) :: (11,(PEq (.pointer (some ⟨gl,0,none⟩)))) :: (12,(PEq (.pointer (some ⟨gl,4,none⟩)))) :: [])) :: [])) (T:=T2 ((fun w=>Below w9.heap.size w9 w) :: (fun w=>w9.grownBy w (Value.slice A5 g.done.length c5).ownBlock) :: (fun w=>∃ A' c',dE N B w gl (ae g.now.name) (.slice A n c) (.slice C p d) (.slice D q e) (.slice A' (g.done.length+1) c') (.slice A6 g.done.length c6) (.slice A7 g.undone.length c7)∧aW N 26 (LkC 130) 4 w B (.slice A' (g.done.length+1) c') (g.done.length+1) (g.before ++ [g.now])∧LgR N B w9 w∧Tch TLL w9 w∧(∀ x,x < w9.heap.size→¬ (x=gl∨(Value.slice A5 g.done.length c5).ownBlock=some x)→w.heap[x]?=w9.heap[x]?)) :: [])) (by kernel_rfl) ?_ ?_ (by decide) (jU (by decide)) (fj (by kernel_rfl)) (fk (by kernel_rfl)) (R2.grw ⟨jq.grw ⟨gEq _,gEq _,gEq _,gEq _,gEq _,gEq _,gEq _,gEq _,gEq _,(fun _ _ _ ⟨x,h0,h1⟩ hb=>⟨x,h0,h1.below hb h1.lt⟩),kW,gEq _,gEq _,kW,trivial⟩,cg.grw ⟨gEq _,(fun _ _ _ ⟨A',c',h0,h1⟩ hb=>⟨A',c',h0,h1.blw hb⟩),gEq _,gEq _,trivial⟩,cg.grw ⟨gEq _,gEq _,gEq _,trivial⟩,trivial⟩) (T2.grw ⟨fun _ _ h hb=>h.trans (hb.mono h.size),fun _ _ h hb=>nc h hb,fun _ _ ⟨A',c',h0,h1,h2,h3,h4⟩ hb=>⟨A',c',h0.blw hb,h1.blw hb,h2.more h0 hb,h3.more hb,fun x h5 h6=>(hb.block x (Nat.lt_of_lt_of_le h5 h2.bel.size)).trans (h4 x h5 h6)⟩,trivial⟩) ?_ ?_ ?_ ?_
 ·exact aH ⟨(fun _ _=>rfl),(fun _ _=>rfl),(fun _ _=>rfl),(fun _ _=>rfl),(fun _ _=>rfl),(fun _ _=>rfl),(fun _ _=>rfl),(fun _ _=>rfl),(fun _ _=>rfl),(fun _ _=>rfl),(fun _ _=>rfl),(fun _ _=>rfl),(fun _ _=>rfl),(fun _ _=>rfl),trivial⟩
 ·exact aH (bT _ 0 (by kernel_rfl))
 ·exact (aa _).drew
 ·refine aH ⟨?_,?_,?_,?_,?_,?_,?_,?_,?_,?_,(fun h=>absurd (by decide) h),?_,?_,(fun h=>absurd (by decide) h),trivial⟩
  ·intro _ k hk _
   obtain rfl | rfl | rfl:=(show k=0∨k=1∨k=2 by have hk:k≤2:=hk;omega)
   ·intro xf wq hT hd K hK
    (try dsimp only [cC]);go_simp;have hz:=hK.out _ _ rfl (aa _);exact hz
   ·intro xf wq hT hd K hK
    (try dsimp only [cC]);go_simp;have hz:=hK.out _ _ rfl (aa _);exact hz
   intro xf wq hT hd K hK;(try dsimp only [cC]);go_simp;have hz:=hK.out _ _ rfl (aa _);exact hz
  ·intro _ k _ hk
   obtain rfl:=hk (by decide);intro xf wq hT hd K hK;(try dsimp only [cC]);go_simp;have hz:=hK.out _ _ rfl (aa _);exact hz
  ·intro _ k _ hk
   obtain rfl:=hk (by decide);intro xf wq hT hd K hK;have dq1:xf 1=.pointer (some ⟨gl,0,none⟩):=hd ⟨1,.data⟩ (by simp) rfl;(try dsimp only [cC]);(try simp only [dq1]);go_simp;have hz:=hK.out _ _ rfl (aa _);dsimp only [cC] at hz;simp only [dq1] at hz;exact hz
  ·intro _ k _ hk
   obtain rfl:=hk (by decide);intro xf wq hT hd K hK;have dq2:xf 2=.pointer (some ⟨gl,0,none⟩):=hd ⟨2,.data⟩ (by simp) rfl;(try dsimp only [cC]);(try simp only [dq2]);go_simp;have hz:=hK.out _ _ rfl (aa _);dsimp only [cC] at hz;simp only [dq2] at hz;exact hz
  ·intro _ k _ hk
   obtain rfl:=hk (by decide);intro xf wq hT hd K hK;have dq3:xf 3=.pointer (some ⟨gl,4,none⟩):=hd ⟨3,.data⟩ (by simp) rfl;have hT:Below w9.heap.size w9 wq:=hT;have hx:=HL9.out.core.blk.below hT HL9.out.core.blk.lt;have hc4:=hx.cell 4;(try dsimp only [cC]);(try simp only [dq3]);go_simp;have hz:=hK.out _ _ rfl (aa _);dsimp only [cC] at hz;simp only [dq3] at hz;exact hz
  ·intro _ k _ hk
   obtain rfl:=hk (by decide);intro xf wq hT hd K hK;(try dsimp only [cC]);go_simp;have hz:=hK.out _ _ rfl (aa _);exact hz
  ·intro _ k _ hk
   obtain rfl:=hk (by decide);intro xf wq hT hd K hK;have dq5:xf 5=.pointer (some ⟨gl,0,none⟩):=hd ⟨5,.data⟩ (by simp) rfl;(try dsimp only [cC]);(try simp only [dq5]);go_simp;have hz:=hK.out _ _ rfl (aa _);dsimp only [cC] at hz;simp only [dq5] at hz;exact hz
  ·intro _ k _ hk
   obtain rfl:=hk (by decide);intro xf wq hT hd K hK;have dq6:xf 6=.pointer (some ⟨gl,0,none⟩):=hd ⟨6,.data⟩ (by simp) rfl;(try dsimp only [cC]);(try simp only [dq6]);go_simp;have hz:=hK.out _ _ rfl (aa _);dsimp only [cC] at hz;simp only [dq6] at hz;exact hz
  ·intro _ k _ hk
   obtain rfl:=hk (by decide);intro xf wq hT hd K hK;have dq7:xf 7=.pointer (some ⟨gl,0,none⟩):=hd ⟨7,.data⟩ (by simp) rfl;have hT:Below w9.heap.size w9 wq:=hT;have hx:=HL9.out.core.blk.below hT HL9.out.core.blk.lt;have hc0:=hx.cell 0;have hc1:=hx.cell 1;have hc2:=hx.cell 2;have hc3:=hx.cell 3;(try dsimp only [cC]);(try simp only [dq7]);go_simp;have hz:=hK.out _ _ rfl (aa _);dsimp only [cC] at hz;simp only [dq7] at hz;exact hz
  ·intro _ k _ hk
   obtain rfl:=hk (by decide);intro xf wq hT hd K hK;have dq8:xf 8=.agg #[ae g.now.name,.slice A n c,.slice C p d,.slice D q e]:=hd ⟨8,.data⟩ (by simp) rfl;(try dsimp only [cC]);(try simp only [dq8]);go_simp;have hz:=hK.out (.slice (some ⟨wq.heap.size,0,none⟩) 1 1) (wq.alloc (.cells #[ae g.now.name,.slice A n c,.slice C p d,.slice D q e] 26)) ⟨wq.heap.size,rfl,Blk.new _ _ _⟩ ((aa wq).alloc Qr _);dsimp only [cC] at hz;simp only [dq8] at hz;exact hz
  ·intro _ k hk _
   obtain rfl | rfl | rfl:=(show k=0∨k=1∨k=2 by have hk:k≤2:=hk;omega)
   ·intro xf wq hT hd K hK
    have dq0:xf 0=.pointer (some ⟨gl,0,none⟩):=hd ⟨0,.data⟩ (by simp) rfl;(try dsimp only [cC]);(try simp only [dq0]);go_simp;have hz:=hK.out _ _ rfl (aa _);dsimp only [cC] at hz;simp only [dq0] at hz;exact hz
   ·intro xf wq hT hd K hK
    have dq0:xf 0=.pointer (some ⟨gl,0,none⟩):=hd ⟨0,.data⟩ (by simp) rfl;(try dsimp only [cC]);(try simp only [dq0]);go_simp;have hz:=hK.out _ _ rfl (aa _);dsimp only [cC] at hz;simp only [dq0] at hz;exact hz
   intro xf wq hT hd K hK;have dq0:xf 0=.pointer (some ⟨gl,0,none⟩):=hd ⟨0,.data⟩ (by simp) rfl;(try dsimp only [cC]);(try simp only [dq0]);go_simp;have hz:=hK.out _ _ rfl (aa _);dsimp only [cC] at hz;simp only [dq0] at hz;exact hz
  intro _ k hk _;obtain rfl | rfl | rfl:=(show k=0∨k=1∨k=2 by have hk:k≤2:=hk;omega)
  ·intro xf wq hT hd K hK
   have dq11:xf 11=.pointer (some ⟨gl,0,none⟩):=hd ⟨11,.data⟩ (by simp) rfl;(try dsimp only [cC]);(try simp only [dq11]);go_simp;have hz:=hK.out _ _ rfl (aa _);dsimp only [cC] at hz;simp only [dq11] at hz;exact hz
  ·intro xf wq hT hd K hK
   have dq11:xf 11=.pointer (some ⟨gl,0,none⟩):=hd ⟨11,.data⟩ (by simp) rfl;(try dsimp only [cC]);(try simp only [dq11]);go_simp;have hz:=hK.out _ _ rfl (aa _);dsimp only [cC] at hz;simp only [dq11] at hz;exact hz
  intro xf wq hT hd K hK;have dq11:xf 11=.pointer (some ⟨gl,0,none⟩):=hd ⟨11,.data⟩ (by simp) rfl;(try dsimp only [cC]);(try simp only [dq11]);go_simp;have hz:=hK.out _ _ rfl (aa _);dsimp only [cC] at hz;simp only [dq11] at hz;exact hz
 ·intro k i o hk ho
  obtain rfl | rfl:=(show k=0∨k=1 by have:=ii hk;have:k < 2:=this;omega)
  ·injection hk with hk
   subst hk;injection ho with ho;subst ho;intro xf wq DD hn hT hD hd K hK;have hT:Below w9.heap.size w9 wq:=hT;have dq4:xf 4=.slice A5 g.done.length c5:=hd 4 (hD ⟨4,.data⟩ (by simp) rfl);obtain ⟨gs,e9,hbs⟩:∃ gs,xf 9=.slice (some ⟨gs,0,none⟩) 1 1∧Blk wq gs 26 #[ae g.now.name,.slice A n c,.slice C p d,.slice D q e]:=hd 9 (hD ⟨9,.data⟩ (by simp) rfl);obtain ⟨hl,xs,hown,hrow⟩:=(BEF.out.1.blw hT);have hs9:=hT.size;have hB9:B≤w9.heap.size:=by have:=HL9.out.core.hB;have:=HL9.out.core.blk.lt;omega
   rw [if_pos (show Region.wanted _ _=true from rfl)];refine cd _ noW _ _ _ rfl B 26 ik (.agg #[.string ⟨#[]⟩,.slice none 0 0,.slice none 0 0,.slice none 0 0]) 4 88 Tryz.underlying71 HIK.out.1 HIK.out.2.1 HIK.out.2.2.1 HIK.out.2.2.2 rfl (by omega) rfl (.slice A5 g.done.length c5) g.done.length xs dq4 hown ⟨gs,0,none⟩ 1 1 [ae g.now.name,.slice A n c,.slice C p d,.slice D q e] e9 rfl (World.news_of_block hbs) (by simp [Value.oneCell']) rfl (by omega) (by unfold maxLen;omega) (by omega) (by omega) ?_;intro gz cap w7 hown5 hgrow hor;have hp:=gS hl hown hrow (a:=g.now) (cs:=[ae g.now.name,.slice A n c,.slice C p d,.slice D q e]) ⟨A,n,c,C,p,d,D,q,e,rfl,HL9.out.now.blw hT⟩ rfl hown5 hgrow (by omega) (fun _ _ _ ht x=>x.tch ht (by decide) (by decide) (by decide) (by decide));exact hK.out _ _ (show w9.grownBy w7 _ from vy hT hgrow) ⟨_,_,rfl,hp.1,nf hor BEF.out.2 HL9.out.core.hN hs9⟩ (cg.all ⟨fun h=>hd 0 h,fun h=>absurd h hn,fun h=>hd 11 h,fun h=>hd 12 h,trivial⟩)
  injection hk with hk;subst hk;injection ho with ho;subst ho;intro xf wq DD hn hT hD hd K hK;have hT:w9.grownBy wq (Value.slice A5 g.done.length c5).ownBlock:=hT;obtain ⟨A',c',e10,hrow⟩:∃ A' c',xf 10=.slice A' (g.done.length+1) c'∧aW N 26 (LkC 130) 4 wq B (xf 10) (g.done.length+1) (g.before ++ [g.now]):=hd 10 (hD ⟨10,.data⟩ (by simp) rfl);have dq12:xf 12=.pointer (some ⟨gl,4,none⟩):=hd 12 (hD ⟨12,.data⟩ (by simp) rfl);rw [e10] at hrow;obtain ⟨_,xs0,hown0,_⟩:=BEF.out.1;have hne:=hown0.neb HL9.out.core.blk (by decide);have hcore:=HL9.out.core.grw hT hne;have cz1:=hcore.blk.cell 4;have fz1:=hcore.blk.frozen 4;obtain ⟨p1,p2,p3⟩:=hcore.put 4 (.slice A' (g.done.length+1) c') (d0:=ae g.now.name) (d1:=.slice A n c) (d2:=.slice C p d) (d3:=.slice D q e) (u5:=.slice A' (g.done.length+1) c') (u6:=.slice A6 g.done.length c6) (u7:=.slice A7 g.undone.length c7) rfl ⟨rfl,rfl,rfl,rfl,rfl,rfl,rfl⟩;have hB9:B≤w9.heap.size:=by have:=HL9.out.core.hB;have:=HL9.out.core.blk.lt;omega
  have r1:=LgR.grown hown0 (by decide) hB9 HL9.out.core.hN BEF.out.2 hT;have t1:Tch (bQ 26) w9 wq:=Tch.grown (fun _ hu=>hu) (by simp [bQ]) hown0 hT;(try dsimp only [cC]);(try simp only [dq12,e10]);go_simp;have hz:=hK.out undef _ (show ∃ A' c',dE N B _ gl (ae g.now.name) (.slice A n c) (.slice C p d) (.slice D q e) (.slice A' (g.done.length+1) c') (.slice A6 g.done.length c6) (.slice A7 g.undone.length c7)∧aW N 26 (LkC 130) 4 _ B (.slice A' (g.done.length+1) c') (g.done.length+1) (g.before ++ [g.now])∧LgR N B w9 _∧Tch TLL w9 _∧(∀ x,x < w9.heap.size→¬ (x=gl∨(Value.slice A5 g.done.length c5).ownBlock=some x)→(World.heap _)[x]?=w9.heap[x]?) from ⟨A',c',p1,hrow.tch p3 (by decide) (fun _ _ x=>x.tch p3 (by decide) (by decide) (by decide) (by decide)),r1.trans p2,(t1.mono (fun _ h=>zg h)).trans (p3.mono (fun _ h=>zh h)),fun x h5 h6=>(Below.heap_setCell wq ⟨gl,4,none⟩ _ x (fun e=>h6 (.inl e))).trans (hT.block x h5 (fun e=>h6 (.inr e.symm)))⟩) trivial (cg.all ⟨fun h=>hd 0 h,fun h=>hd 11 h,fun h=>hd 12 h,trivial⟩);dsimp only [cC] at hz;simp only [dq12,e10] at hz;exact hz
 intro xf wa hT hr;obtain ⟨A8,c8,core8,bef8,r8,t8,k8⟩:∃ A' c',dE N B wa gl (ae g.now.name) (.slice A n c) (.slice C p d) (.slice D q e) (.slice A' (g.done.length+1) c') (.slice A6 g.done.length c6) (.slice A7 g.undone.length c7)∧aW N 26 (LkC 130) 4 wa B (.slice A' (g.done.length+1) c') (g.done.length+1) (g.before ++ [g.now])∧LgR N B w9 wa∧Tch TLL w9 wa∧(∀ x,x < w9.heap.size→¬ (x=gl∨(Value.slice A5 g.done.length c5).ownBlock=some x)→wa.heap[x]?=w9.heap[x]?):=hT;have CORE8:=Qh core8;have BEF8:=Qh bef8;have R8:=Qh r8;have DON8:=Qh (DON.out.tch t8 (by decide) (fun _ _ x=>x));have UND8:=Qh (UND.out.tch t8 (by decide) (fun _ _ x=>x));have XE8:Hid (Blk wa ge 39 #[.int .i64 ed.kind,ae ed.name,ae ed.text]):=Qh (t8.2 _ _ _ _ XE9.out (.inl (by decide)));have X58:Hid (Blk wa g5 26 #[ae L'.name,.slice A1 n1 c1,.slice B1 m1 d1,.slice C1 k1 e1]):=Qh ((k8 g5 X5.out.lt N5.out).trans X5.out);have HY8:=Qh (HY.out.lg r8);clear hr core8 bef8 r8 t8 DON UND BEF;dsimp only [cC];generalize xf 0=y0;generalize xf 1=y1;generalize xf 2=y2;generalize xf 3=y3;generalize xf 4=y4;generalize xf 5=y5;generalize xf 6=y6;generalize xf 7=y7;generalize xf 8=y8;generalize xf 9=y9;generalize xf 10=y10;generalize xf 11=y11;generalize xf 12=y12;go_wp2_with fail;change Code.wp _ _ _ (cZ _ _ _ _ _ _ _ _ _ _ _ _ _ _ _ _ _ _ _ _ _ _ _ _ _ _ _ _ _ _ _ _ _ _ _ _ (fun _=>undef)) _;refine cE (x0:=(fun _=>undef)) [7,10] [0,8,9] (R:=R2 ((jq ((PEq (.pointer (some ⟨gl,0,none⟩))) :: (PEq (.pointer (some ⟨gl,0,none⟩))) :: (PEq (.pointer (some ⟨gl,0,none⟩))) :: (PEq (.pointer (some ⟨gl,5,none⟩))) :: (PEq (.slice A6 g.done.length c6)) :: (PEq (.agg #[.int .i64 ed.kind,ae ed.name,ae ed.text])) :: (fun v w=>∃ gs,v=.slice (some ⟨gs,0,none⟩) 1 1∧Blk w gs 39 #[.int .i64 ed.kind,ae ed.name,ae ed.text]) :: eK :: (PEq (.pointer (some ⟨gl,0,none⟩))) :: (PEq (.pointer (some ⟨gl,5,none⟩))) :: eK :: [])) :: (cg ((0,(PEq (.pointer (some ⟨gl,0,none⟩)))) :: (7,(fun v w=>∃ A' c',v=.slice A' (g.done.length+1) c'∧(∀ x,v.ownBlock=some x→(Value.slice A6 g.done.length c6).ownBlock=some x∨wa.heap.size≤x)∧aW N 39 EdC 3 w B v (g.done.length+1) (g.done ++ [ed]))) :: (8,(PEq (.pointer (some ⟨gl,0,none⟩)))) :: (9,(PEq (.pointer (some ⟨gl,5,none⟩)))) :: [])) :: (cg ((0,(PEq (.pointer (some ⟨gl,0,none⟩)))) :: (8,(PEq (.pointer (some ⟨gl,0,none⟩)))) :: (9,(PEq (.pointer (some ⟨gl,5,none⟩)))) :: [])) :: [])) (T:=T2 ((fun w=>Below wa.heap.size wa w) :: (fun w=>wa.grownBy w (Value.slice A6 g.done.length c6).ownBlock) :: (fun w=>∃ A' c',dE N B w gl (ae g.now.name) (.slice A n c) (.slice C p d) (.slice D q e) (.slice A8 (g.done.length+1) c8) (.slice A' (g.done.length+1) c') (.slice A7 g.undone.length c7)∧aW N 26 (LkC 130) 4 w B (.slice A8 (g.done.length+1) c8) (g.done.length+1) (g.before ++ [g.now])∧aW N 39 EdC 3 w B (.slice A' (g.done.length+1) c') (g.done.length+1) (g.done ++ [ed])∧aW N 39 EdC 3 w B (.slice A7 g.undone.length c7) g.undone.length g.undone∧(∀ x,(Value.slice A7 g.undone.length c7).ownBlock=some x→(Value.slice A' (g.done.length+1) c').ownBlock≠some x)∧LgR N B wa w∧Tch TLE wa w) :: [])) (by kernel_rfl) ?_ ?_ (by decide) (jU (by decide)) (fj (by kernel_rfl)) (fk (by kernel_rfl)) (R2.grw ⟨jq.grw ⟨gEq _,gEq _,gEq _,gEq _,gEq _,gEq _,(fun _ _ _ ⟨x,h0,h1⟩ hb=>⟨x,h0,h1.below hb h1.lt⟩),kW,gEq _,gEq _,kW,trivial⟩,cg.grw ⟨gEq _,(fun _ _ _ ⟨A',c',h0,h2,h1⟩ hb=>⟨A',c',h0,h2,h1.blw hb⟩),gEq _,gEq _,trivial⟩,cg.grw ⟨gEq _,gEq _,gEq _,trivial⟩,trivial⟩) (T2.grw ⟨fun _ _ h hb=>h.trans (hb.mono h.size),fun _ _ h hb=>nc h hb,fun _ _ ⟨A',c',h0,h1,h2,h3,h4,h5,h6⟩ hb=>⟨A',c',h0.blw hb,h1.blw hb,h2.blw hb,h3.blw hb,h4,h5.more h0 hb,h6.more hb⟩,trivial⟩) ?_ ?_ ?_ ?_
 ·exact aH ⟨(fun _ _=>rfl),(fun _ _=>rfl),(fun _ _=>rfl),(fun _ _=>rfl),(fun _ _=>rfl),(fun _ _=>rfl),(fun _ _=>rfl),(fun _ _=>rfl),(fun _ _=>rfl),(fun _ _=>rfl),(fun _ _=>rfl),trivial⟩
 ·exact aH (bT _ 0 (by kernel_rfl))
 ·exact (aa _).drew
 ·refine aH ⟨?_,?_,?_,?_,?_,?_,?_,(fun h=>absurd (by decide) h),?_,?_,(fun h=>absurd (by decide) h),trivial⟩
  ·intro _ k hk _
   obtain rfl | rfl | rfl:=(show k=0∨k=1∨k=2 by have hk:k≤2:=hk;omega)
   ·intro xf wq hT hd K hK
    (try dsimp only [cZ]);go_simp;have hz:=hK.out _ _ rfl (aa _);exact hz
   ·intro xf wq hT hd K hK
    (try dsimp only [cZ]);go_simp;have hz:=hK.out _ _ rfl (aa _);exact hz
   intro xf wq hT hd K hK;(try dsimp only [cZ]);go_simp;have hz:=hK.out _ _ rfl (aa _);exact hz
  ·intro _ k _ hk
   obtain rfl:=hk (by decide);intro xf wq hT hd K hK;(try dsimp only [cZ]);go_simp;have hz:=hK.out _ _ rfl (aa _);exact hz
  ·intro _ k _ hk
   obtain rfl:=hk (by decide);intro xf wq hT hd K hK;have dq1:xf 1=.pointer (some ⟨gl,0,none⟩):=hd ⟨1,.data⟩ (by simp) rfl;(try dsimp only [cZ]);(try simp only [dq1]);go_simp;have hz:=hK.out _ _ rfl (aa _);dsimp only [cZ] at hz;simp only [dq1] at hz;exact hz
  ·intro _ k _ hk
   obtain rfl:=hk (by decide);intro xf wq hT hd K hK;have dq2:xf 2=.pointer (some ⟨gl,0,none⟩):=hd ⟨2,.data⟩ (by simp) rfl;(try dsimp only [cZ]);(try simp only [dq2]);go_simp;have hz:=hK.out _ _ rfl (aa _);dsimp only [cZ] at hz;simp only [dq2] at hz;exact hz
  ·intro _ k _ hk
   obtain rfl:=hk (by decide);intro xf wq hT hd K hK;have dq3:xf 3=.pointer (some ⟨gl,5,none⟩):=hd ⟨3,.data⟩ (by simp) rfl;have hT:Below wa.heap.size wa wq:=hT;have hx:=CORE8.out.blk.below hT CORE8.out.blk.lt;have hc5:=hx.cell 5;(try dsimp only [cZ]);(try simp only [dq3]);go_simp;have hz:=hK.out _ _ rfl (aa _);dsimp only [cZ] at hz;simp only [dq3] at hz;exact hz
  ·intro _ k _ hk
   obtain rfl:=hk (by decide);intro xf wq hT hd K hK;have hT:Below wa.heap.size wa wq:=hT;have hx:=XE8.out.below hT XE8.out.lt;have hc0:=hx.cell 0;have hc1:=hx.cell 1;have hc2:=hx.cell 2;(try dsimp only [cZ]);go_simp;have hz:=hK.out _ _ rfl (aa _);exact hz
  ·intro _ k _ hk
   obtain rfl:=hk (by decide);intro xf wq hT hd K hK;have dq5:xf 5=.agg #[.int .i64 ed.kind,ae ed.name,ae ed.text]:=hd ⟨5,.data⟩ (by simp) rfl;(try dsimp only [cZ]);(try simp only [dq5]);go_simp;have hz:=hK.out (.slice (some ⟨wq.heap.size,0,none⟩) 1 1) (wq.alloc (.cells #[.int .i64 ed.kind,ae ed.name,ae ed.text] 39)) ⟨wq.heap.size,rfl,Blk.new _ _ _⟩ ((aa wq).alloc Qr _);dsimp only [cZ] at hz;simp only [dq5] at hz;exact hz
  ·intro _ k hk _
   obtain rfl | rfl | rfl:=(show k=0∨k=1∨k=2 by have hk:k≤2:=hk;omega)
   ·intro xf wq hT hd K hK
    have dq0:xf 0=.pointer (some ⟨gl,0,none⟩):=hd ⟨0,.data⟩ (by simp) rfl;(try dsimp only [cZ]);(try simp only [dq0]);go_simp;have hz:=hK.out _ _ rfl (aa _);dsimp only [cZ] at hz;simp only [dq0] at hz;exact hz
   ·intro xf wq hT hd K hK
    have dq0:xf 0=.pointer (some ⟨gl,0,none⟩):=hd ⟨0,.data⟩ (by simp) rfl;(try dsimp only [cZ]);(try simp only [dq0]);go_simp;have hz:=hK.out _ _ rfl (aa _);dsimp only [cZ] at hz;simp only [dq0] at hz;exact hz
   intro xf wq hT hd K hK;have dq0:xf 0=.pointer (some ⟨gl,0,none⟩):=hd ⟨0,.data⟩ (by simp) rfl;(try dsimp only [cZ]);(try simp only [dq0]);go_simp;have hz:=hK.out _ _ rfl (aa _);dsimp only [cZ] at hz;simp only [dq0] at hz;exact hz
  intro _ k hk _;obtain rfl | rfl | rfl:=(show k=0∨k=1∨k=2 by have hk:k≤2:=hk;omega)
  ·intro xf wq hT hd K hK
   have dq8:xf 8=.pointer (some ⟨gl,0,none⟩):=hd ⟨8,.data⟩ (by simp) rfl;(try dsimp only [cZ]);(try simp only [dq8]);go_simp;have hz:=hK.out _ _ rfl (aa _);dsimp only [cZ] at hz;simp only [dq8] at hz;exact hz
  ·intro xf wq hT hd K hK
   have dq8:xf 8=.pointer (some ⟨gl,0,none⟩):=hd ⟨8,.data⟩ (by simp) rfl;(try dsimp only [cZ]);(try simp only [dq8]);go_simp;have hz:=hK.out _ _ rfl (aa _);dsimp only [cZ] at hz;simp only [dq8] at hz;exact hz
  intro xf wq hT hd K hK;have dq8:xf 8=.pointer (some ⟨gl,0,none⟩):=hd ⟨8,.data⟩ (by simp) rfl;(try dsimp only [cZ]);(try simp only [dq8]);go_simp;have hz:=hK.out _ _ rfl (aa _);dsimp only [cZ] at hz;simp only [dq8] at hz;exact hz
 ·intro k i o hk ho
  obtain rfl | rfl:=(show k=0∨k=1 by have:=ii hk;have:k < 2:=this;omega)
  ·injection hk with hk
   subst hk;injection ho with ho;subst ho;intro xf wq DD hn hT hD hd K hK;have hT:Below wa.heap.size wa wq:=hT;have dq4:xf 4=.slice A6 g.done.length c6:=hd 4 (hD ⟨4,.data⟩ (by simp) rfl);obtain ⟨gs,e9,hbs⟩:∃ gs,xf 6=.slice (some ⟨gs,0,none⟩) 1 1∧Blk wq gs 39 #[.int .i64 ed.kind,ae ed.name,ae ed.text]:=hd 6 (hD ⟨6,.data⟩ (by simp) rfl);obtain ⟨hl,xs,hown,hrow⟩:=(DON8.out.1.blw hT);have hs9:=hT.size;have hB9:B≤wa.heap.size:=by have:=CORE8.out.hB;have:=CORE8.out.blk.lt;omega
   rw [if_pos (show Region.wanted _ _=true from rfl)];refine cd _ noW _ _ _ rfl B 39 ie (.agg #[.int .i64 0,.string ⟨#[]⟩,.string ⟨#[]⟩]) 3 40 Tryz.underlying42 HIE.out.1 HIE.out.2.1 HIE.out.2.2.1 HIE.out.2.2.2 rfl (by omega) rfl (.slice A6 g.done.length c6) g.done.length xs dq4 hown ⟨gs,0,none⟩ 1 1 [.int .i64 ed.kind,ae ed.name,ae ed.text] e9 rfl (World.news_of_block hbs) (by simp [Value.oneCell']) rfl (by omega) (by unfold maxLen;omega) (by omega) (by omega) ?_;intro gz cap w7 hown5 hgrow hor;have hp:=gS hl hown hrow (a:=ed) (cs:=[.int .i64 ed.kind,ae ed.name,ae ed.text]) rfl rfl hown5 hgrow (by omega) (fun _ _ _ _ x=>x)
   exact hK.out _ _ (show wa.grownBy w7 _ from vy hT hgrow) ⟨_,_,rfl,fun x hx=>by
    injection hx with hx;subst hx;rcases hor with h | h
    ·exact .inl h
    exact .inr (by rw [h];exact hs9),hp.1,nf hor DON8.out.2 CORE8.out.hN hs9⟩ (cg.all ⟨fun h=>hd 0 h,fun h=>absurd h hn,fun h=>hd 8 h,fun h=>hd 9 h,trivial⟩)
  injection hk with hk;subst hk;injection ho with ho;subst ho;intro xf wq DD hn hT hD hd K hK;have hT:wa.grownBy wq (Value.slice A6 g.done.length c6).ownBlock:=hT;obtain ⟨A',c',e7,hor,hrow⟩:∃ A' c',xf 7=.slice A' (g.done.length+1) c'∧(∀ x,(xf 7).ownBlock=some x→(Value.slice A6 g.done.length c6).ownBlock=some x∨wa.heap.size≤x)∧aW N 39 EdC 3 wq B (xf 7) (g.done.length+1) (g.done ++ [ed]):=hd 7 (hD ⟨7,.data⟩ (by simp) rfl);have dq9:xf 9=.pointer (some ⟨gl,5,none⟩):=hd 9 (hD ⟨9,.data⟩ (by simp) rfl);rw [e7] at hrow hor;obtain ⟨_,xs0,hown0,_⟩:=DON8.out.1;have hne:=hown0.neb CORE8.out.blk (by decide);have hcore:=CORE8.out.grw hT hne;have cz1:=hcore.blk.cell 5;have fz1:=hcore.blk.frozen 5;obtain ⟨p1,p2,p3⟩:=hcore.put 5 (.slice A' (g.done.length+1) c') (d0:=ae g.now.name) (d1:=.slice A n c) (d2:=.slice C p d) (d3:=.slice D q e) (u5:=.slice A8 (g.done.length+1) c8) (u6:=.slice A' (g.done.length+1) c') (u7:=.slice A7 g.undone.length c7) rfl ⟨rfl,rfl,rfl,rfl,rfl,rfl,rfl⟩;have hB9:B≤wa.heap.size:=by have:=CORE8.out.hB;have:=CORE8.out.blk.lt;omega
  have r1:=LgR.grown hown0 (by decide) hB9 CORE8.out.hN DON8.out.2 hT;have t1:Tch (bQ 39) wa wq:=Tch.grown (fun _ hu=>hu) (by simp [bQ]) hown0 hT;have u1:ay 39 EdC 3 wq B (.slice A7 g.undone.length c7) g.undone.length g.undone:=UND8.out.1.gr hT (fun x h1 h2=>DIS.out x h1 h2) (fun _ _ x=>x);have u2:aW N 39 EdC 3 _ B (.slice A7 g.undone.length c7) g.undone.length g.undone:=⟨u1.tch p3 (by decide) (fun _ _ x=>x),UND8.out.2⟩;have b2:=(BEF8.out.tch t1 (by decide) (fun _ _ x=>x.tch t1 (by decide) (by decide) (by decide) (by decide))).tch p3 (by decide) (fun _ _ x=>x.tch p3 (by decide) (by decide) (by decide) (by decide))
  have dis2:∀ x,(Value.slice A7 g.undone.length c7).ownBlock=some x→(Value.slice A' (g.done.length+1) c').ownBlock≠some x:=by
   intro x h1 h2;rcases hor x h2 with h3 | h3
   ·exact DIS.out x h1 h3
   obtain ⟨_,xs1,hown1,_⟩:=UND8.out.1;obtain ⟨_,cur,h4,_⟩:=hown1.at_ h1;have:=lt_of_block h4;omega
  (try dsimp only [cZ]);(try simp only [dq9,e7]);go_simp;have hz:=hK.out undef _ (show ∃ A' c',dE N B _ gl (ae g.now.name) (.slice A n c) (.slice C p d) (.slice D q e) (.slice A8 (g.done.length+1) c8) (.slice A' (g.done.length+1) c') (.slice A7 g.undone.length c7)∧aW N 26 (LkC 130) 4 _ B (.slice A8 (g.done.length+1) c8) (g.done.length+1) (g.before ++ [g.now])∧aW N 39 EdC 3 _ B (.slice A' (g.done.length+1) c') (g.done.length+1) (g.done ++ [ed])∧aW N 39 EdC 3 _ B (.slice A7 g.undone.length c7) g.undone.length g.undone∧(∀ x,(Value.slice A7 g.undone.length c7).ownBlock=some x→(Value.slice A' (g.done.length+1) c').ownBlock≠some x)∧LgR N B wa _∧Tch TLE wa _ from ⟨A',c',p1,b2,hrow.tch p3 (by decide) (fun _ _ x=>x),u2,dis2,r1.trans p2,(t1.mono (fun _ h=>zi h)).trans (p3.mono (fun _ h=>zj h))⟩) trivial (cg.all ⟨fun h=>hd 0 h,fun h=>hd 8 h,fun h=>hd 9 h,trivial⟩);dsimp only [cZ] at hz;simp only [dq9,e7] at hz;exact hz
 intro xf wb hT hr;obtain ⟨A9,c9,core9,bef9,don9,und9,dis9,r9,t9⟩:∃ A' c',dE N B wb gl (ae g.now.name) (.slice A n c) (.slice C p d) (.slice D q e) (.slice A8 (g.done.length+1) c8) (.slice A' (g.done.length+1) c') (.slice A7 g.undone.length c7)∧aW N 26 (LkC 130) 4 wb B (.slice A8 (g.done.length+1) c8) (g.done.length+1) (g.before ++ [g.now])∧aW N 39 EdC 3 wb B (.slice A' (g.done.length+1) c') (g.done.length+1) (g.done ++ [ed])∧aW N 39 EdC 3 wb B (.slice A7 g.undone.length c7) g.undone.length g.undone∧(∀ x,(Value.slice A7 g.undone.length c7).ownBlock=some x→(Value.slice A' (g.done.length+1) c').ownBlock≠some x)∧LgR N B wa wb∧Tch TLE wa wb:=hT;have x5b:Blk wb g5 26 #[ae L'.name,.slice A1 n1 c1,.slice B1 m1 d1,.slice C1 k1 e1]:=t9.2 _ _ _ _ X58.out (.inl (by decide));have hYb:=HY8.out.lg r9;clear hr;dsimp only [cZ];have a0:=x5b.c4;have b0:=core9.blk.frozen 0;have b1:=core9.blk.frozen 1;have b2:=core9.blk.frozen 2;have b3:=core9.blk.frozen 3;have b00:=core9.blk.cell 0;have b01:=core9.blk.cell 1;have b02:=core9.blk.cell 2;have b03:=core9.blk.cell 3;have CORE9:=Qh core9;have BEF9:=Qh bef9;have DON9:=Qh don9;have UND9:=Qh und9;have HYB:=Qh hYb;have R9:=Qh r9;clear core9 bef9 don9 und9 hYb r9 t9 x5b;go_wp2_with fail;refine bodyPost_ret (v:=.nilIface) (by simp [results,Tryz.results48,go_sem, *] <;> trivial) rfl ?_;have hs:=ru CORE9.out BEF9.out DON9.out UND9.out dis9 HYB.out;refine ⟨by rw [bo],fun h=>absurd rfl h,fun _=>⟨((LgR.below (by have:=CORE1.out.hB;have:=CORE1.out.blk.lt;omega) CORE1.out.hN Q9.out).trans (R8.out.trans R9.out)).trans hs.2,_,_,_,_,_,_,_,_,_,_,_,_,hs.1⟩⟩
theorem ay.at_ {α:Type}{T0:TypeId}{Pc:World→List Value→α→Prop}{s:Nat}{w:World}{B n c i:Nat}{A:Option Addr}{l:List α}{a:α}(h:ay T0 Pc s w B (.slice A n c) n l) (hi:l[i]?=some a):∃ g cs,A=some ⟨g,0,none⟩∧Pc w cs a∧∀ j u,cs[j]?=some u→w.cell? ⟨g,i * s+j,none⟩=some u:=by
 obtain ⟨hl,xs,h1,css,e,hcl,hall,hp⟩:=h;have hi':i < n:=by rw [← hl];exact (List.getElem?_eq_some_iff.1 hi).1
 rcases h1.2 with ⟨h2,hn⟩ | ⟨g,cap,cur,h2,_,h3,h4,_,h6,h7,_⟩
 ·omega
 injection h2 with a1 _ a3;subst a1 a3;have hcs:css[i]?=some css[i]:=List.getElem?_eq_getElem (by omega);refine ⟨g,css[i],rfl,hp i a _ hi hcs,fun j u hu=>?_⟩;have hj:j < s:=by rw [← hall css[i] (List.getElem_mem _)];exact (List.getElem?_eq_some_iff.1 hu).1
 have h9:=ki hall hcs j hj;rw [hu,← e,← h7,List.getElem?_take] at h9;split at h9
 ·unfold World.cell?
  rw [h3];simpa using h9
 cases h9
theorem xJ {N:Nat→Prop}{B:Nat}{w:World}{gl:Nat}{v7:Value}{L:ai}{bf:List ai}{dn un:List ce}{m k:Nat}{A C D:Option Addr}{n c p d q e:Nat}{A5 A6:Option Addr}{c5 c6:Nat}(h:dE N B w gl (ae L.name) (.slice A n c) (.slice C p d) (.slice D q e) (.slice A5 (m+1) c5) (.slice A6 (m+1) c6) v7) (h5:aW N 26 (LkC 130) 4 w B (.slice A5 (m+1) c5) (m+1) bf) (h6:aW N 39 EdC 3 w B (.slice A6 (m+1) c6) (m+1) dn) (h7:aW N 39 EdC 3 w B v7 k un) (dis:∀ x,v7.ownBlock=some x→(Value.slice A6 (m+1) c6).ownBlock≠some x) (hY:LkY 130 w A n c C p d D q e L):j6 N B ((w.setCell ⟨gl,4,none⟩ (.slice A5 m c5)).setCell ⟨gl,5,none⟩ (.slice A6 m c6)) gl ⟨L,bf.take m,dn.take m,un⟩ A n c C p d D q e (.slice A5 m c5) (.slice A6 m c6) v7∧LgR N B w ((w.setCell ⟨gl,4,none⟩ (.slice A5 m c5)).setCell ⟨gl,5,none⟩ (.slice A6 m c6)):=by
 obtain ⟨w0,w1,w2,w3,w5,w6,w7⟩:=h.nw;obtain ⟨p1,r1,t1⟩:=h.put 4 (.slice A5 m c5) (d0:=ae L.name) (d1:=.slice A n c) (d2:=.slice C p d) (d3:=.slice D q e) (u5:=.slice A5 m c5) (u6:=.slice A6 (m+1) c6) rfl ⟨rfl,rfl,rfl,rfl,rfl,rfl,w7⟩;obtain ⟨p2,r2,t2⟩:=p1.put 5 (.slice A6 m c6) (d0:=ae L.name) (d1:=.slice A n c) (d2:=.slice C p d) (d3:=.slice D q e) (u5:=.slice A5 m c5) (u6:=.slice A6 m c6) rfl ⟨rfl,rfl,rfl,rfl,rfl,rfl,w7⟩;have t:=t1.trans t2;have r:=r1.trans r2;have em:(dn.take m).length=m:=by rw [List.length_take,h6.1.1];omega
 have ek:k=un.length:=h7.1.1.symm;subst ek;refine ⟨⟨p2,hY.lg r,?_,?_,h7.tch t (by decide) (fun _ _ x=>x),fun x e1 e2=>dis x e1 (by rw [← e2];cases A6 <;> rfl)⟩,r⟩
 ·show aW _ _ _ _ _ _ _ (dn.take m).length _
  rw [em];exact (h5.cut (Nat.le_succ m)).tch t (by decide) (fun _ _ x=>x.tch t (by decide) (by decide) (by decide) (by decide))
 show aW _ _ _ _ _ _ _ (dn.take m).length _;rw [em];exact (h6.cut (Nat.le_succ m)).tch t (by decide) (fun _ _ x=>x)
theorem vA {N:Nat→Prop}{B:Nat}{w:World}{gl:Nat}{v7:Value}{L:ai}{bf:List ai}{dn un:List ce}{m k:Nat}{A C D:Option Addr}{n c p d q e:Nat}{A5 A6:Option Addr}{c5 c6:Nat}(h:dE N B w gl (ae L.name) (.slice A n c) (.slice C p d) (.slice D q e) (.slice A5 (m+1) c5) (.slice A6 (m+1) c6) v7) (h5:aW N 26 (LkC 130) 4 w B (.slice A5 (m+1) c5) (m+1) bf) (h6:aW N 39 EdC 3 w B (.slice A6 (m+1) c6) (m+1) dn) (h7:aW N 39 EdC 3 w B v7 k un) (dis:∀ x,v7.ownBlock=some x→(Value.slice A6 (m+1) c6).ownBlock≠some x) (hY:LkY 130 w A n c C p d D q e L):j6 N B ((w.setCell ⟨gl,5,none⟩ (.slice A6 m c6)).setCell ⟨gl,4,none⟩ (.slice A5 m c5)) gl ⟨L,bf.take m,dn.take m,un⟩ A n c C p d D q e (.slice A5 m c5) (.slice A6 m c6) v7∧LgR N B w ((w.setCell ⟨gl,5,none⟩ (.slice A6 m c6)).setCell ⟨gl,4,none⟩ (.slice A5 m c5)):=by
 obtain ⟨w0,w1,w2,w3,w5,w6,w7⟩:=h.nw;obtain ⟨p1,r1,t1⟩:=h.put 5 (.slice A6 m c6) (d0:=ae L.name) (d1:=.slice A n c) (d2:=.slice C p d) (d3:=.slice D q e) (u5:=.slice A5 (m+1) c5) (u6:=.slice A6 m c6) rfl ⟨rfl,rfl,rfl,rfl,rfl,rfl,w7⟩;obtain ⟨p2,r2,t2⟩:=p1.put 4 (.slice A5 m c5) (d0:=ae L.name) (d1:=.slice A n c) (d2:=.slice C p d) (d3:=.slice D q e) (u5:=.slice A5 m c5) (u6:=.slice A6 m c6) rfl ⟨rfl,rfl,rfl,rfl,rfl,rfl,w7⟩;have t:=t1.trans t2;have r:=r1.trans r2;have em:(dn.take m).length=m:=by rw [List.length_take,h6.1.1];omega
 have ek:k=un.length:=h7.1.1.symm;subst ek;refine ⟨⟨p2,hY.lg r,?_,?_,h7.tch t (by decide) (fun _ _ x=>x),fun x e1 e2=>dis x e1 (by rw [← e2];cases A6 <;> rfl)⟩,r⟩
 ·show aW _ _ _ _ _ _ _ (dn.take m).length _
  rw [em];exact (h5.cut (Nat.le_succ m)).tch t (by decide) (fun _ _ x=>x.tch t (by decide) (by decide) (by decide) (by decide))
 show aW _ _ _ _ _ _ _ (dn.take m).length _;rw [em];exact (h6.cut (Nat.le_succ m)).tch t (by decide) (fun _ _ x=>x)
theorem pj {N:Nat→Prop}{B:Nat}{w w1 w2:World}{gl:Nat}{g:io}{A C D:Option Addr}{n c p d q e:Nat}{v5 v6 v7 v:Value}(e0:be 0=v) (r:LgR N B w w1) (h:j6 N B w2 gl g A n c C p d D q e v5 v6 v7∧LgR N B w1 w2):jX N B w gl 0 g (.returned v) w2.drew:=by
 have hb:Below w2.heap.size w2 w2.drew:=(aa w2).drew;exact ⟨by rw [e0],fun h=>absurd rfl h,fun _=>⟨(r.trans h.2).trans (LgR.below (by have:=h.1.core.hB;have:=h.1.core.blk.lt;omega) h.1.core.hN hb),_,_,_,_,_,_,_,_,_,_,_,_,h.1.blw hb⟩⟩
abbrev bV (u0 u1 u2 u3 u4 u5 u6 u7 u8 u9 u10 u11 u12 u13 u14 u15 u16 u17 u18 u19 u20 u21 u22 u23 u24 u25 u42 u43 u44 u45 u46 u47 u48 u49 u50 u51 u52 u53 u54 u55 u56 u57 u58 u59:Value) (xf:Nat→Value):Act:=⟨List.toArray (u0 :: u1 :: u2 :: u3 :: u4 :: u5 :: u6 :: u7 :: u8 :: u9 :: u10 :: u11 :: u12 :: u13 :: u14 :: u15 :: u16 :: u17 :: u18 :: u19 :: u20 :: u21 :: u22 :: u23 :: u24 :: u25 :: xf 0 :: xf 1 :: xf 2 :: xf 3 :: xf 4 :: xf 5 :: xf 6 :: xf 7 :: xf 8 :: xf 9 :: xf 10 :: xf 11 :: xf 12 :: xf 13 :: xf 14 :: xf 15 :: u42 :: u43 :: u44 :: u45 :: u46 :: u47 :: u48 :: u49 :: u50 :: u51 :: u52 :: u53 :: u54 :: u55 :: u56 :: u57 :: u58 :: u59 :: []),[]⟩
theorem zk (N:Nat→Prop) (B:Nat) (w:World) (gl:Nat) (g:io) (h:js N B w gl g) (m:Nat) (hm:g.done.length=m+1) (L1:ai) (hL:g.before[m]?=some L1) (e1:ce) (he:g.done[m]?=some e1) (hc:g.done.length≤1000) (hu:g.undone.length≤1000):Calls Tryz.prog 21 #[.pointer (some ⟨gl,0,none⟩)] w (jX N B w gl 0 ⟨L1,g.before.take m,g.done.take m,g.undone ++ [e1]⟩):=by
 obtain ⟨A,n,c,C,p,d,D,q,e,v5,v6,v7,h⟩:=h;obtain ⟨A5,c5,A6,c6,A7,c7,rfl,rfl,rfl,h5,h6,h7⟩:=h.forms;obtain ⟨ie,hi0,hz0,hz1,hz2⟩:=info_parts m9;have HIE:=Qh (And.intro hi0 (And.intro hz0 (And.intro hz1 hz2)));clear hi0 hz0 hz1 hz2;obtain ⟨gb,cs,eA,⟨A1,n1,c1,B1,m1,d1,C1,k1,f1,e0,hY⟩,hcs⟩:=h.bef.1.at_ hL;subst eA e0;obtain ⟨gd,cs,eA,e0,hds⟩:=h.don.1.at_ he;subst eA e0;have hB0:=h.core.blk;have hbf:=h.bef;have hdn:=h.don;have hun:=h.und;have hdi:=h.dis;have hco:=h.core;rw [hm] at hB0 hbf hdn hdi hco h5 h6;have d0:=hcs 0 _ rfl;have d1':=hcs 1 _ rfl;have d2:=hcs 2 _ rfl;have d3:=hcs 3 _ rfl;simp only [Nat.add_zero] at d0;have EC0:=Qh (And.intro (hds 0 _ rfl) (And.intro (hds 1 _ rfl) (hds 2 _ rfl)));obtain ⟨a0,a1,a2,a3⟩:w.cell? ⟨gl,4,none⟩=_∧w.cell? ⟨gl,5,none⟩=_∧w.cell? ⟨gl,6,none⟩=_∧w.cell? ⟨gl,0,none⟩=_:=⟨hB0.cell 4,hB0.cell 5,hB0.cell 6,hB0.cell 0⟩;have a4:=hB0.cell 1;have a5:=hB0.cell 2;have a6:=hB0.cell 3;have b0:=hB0.frozen 0;have b1:=hB0.frozen 1;have b2:=hB0.frozen 2;have b3:=hB0.frozen 3
 have hne:¬ gl=gb:=fun e=>by
  obtain ⟨_,xs,ho,_⟩:=hbf.1;exact ho.neb hB0 (by decide) (by rw [e];rfl)
 have hi1:((m:Int) < 0)=False:=by simp
 have hi2:((m:Int) < ((m+1:Nat):Int)):=by omega
 have hs:=ru hco hbf hdn hun hdi hY;have HS:=Qh hs;have HCO:=Qh hco;have HLT:=Qh h.core.blk.lt;clear h hcs hds hB0 hbf hdn hun hdi hco hs;go_in;have hmm:((g.done.length:Nat):Int)=(m:Int)+1:=by omega
 go_wp2_with fail;clear a0 a1 a2 a3 a4 a5 a6 b0 b1 b2 b3 d0 d1' d2 d3;generalize ((((w.setCell ⟨gl,0,none⟩ (ae L1.name)).setCell ⟨gl,1,none⟩ (.slice A1 n1 c1)).setCell ⟨gl,2,none⟩ (.slice B1 m1 d1)).setCell ⟨gl,3,none⟩ (.slice C1 k1 f1))=w5 at HS;have L5:=HS.out.1;have CORE:=Qh L5.core;have hd5:=L5.don;have hb5:=L5.bef;rw [hm] at hd5 hb5;obtain ⟨gd2,cs,eA,e0,hds⟩:=hd5.1.at_ he;injection eA with eA;injection eA with eA;subst eA e0;have EC:=Qh (And.intro (show w5.cell? ⟨gd,m * 3,none⟩=_ from hds 0 _ rfl) (And.intro (hds 1 _ rfl) (hds 2 _ rfl)));have BEF:=Qh hb5;have DON:=Qh hd5;have UND:=Qh L5.und;have DIS:=Qh L5.dis;have HY5:=Qh L5.now;have RS:=Qh HS.out.2;clear L5 hd5 hb5 hds EC0 HS HCO;change Code.wp _ _ _ _ w5;change Code.wp _ _ _ (bV _ _ _ _ _ _ _ _ _ _ _ _ _ _ _ _ _ _ _ _ _ _ _ _ _ _ _ _ _ _ _ _ _ _ _ _ _ _ _ _ _ _ _ _ (fun _=>undef)) _;refine cE (x0:=(fun _=>undef)) [13,16] [0,14,15] (R:=R2 ((jq ((PEq (.pointer (some ⟨gl,0,none⟩))) :: (PEq (.pointer (some ⟨gl,0,none⟩))) :: (PEq (.pointer (some ⟨gl,0,none⟩))) :: (PEq (.pointer (some ⟨gl,6,none⟩))) :: (PEq (.slice A7 g.undone.length c7)) :: (PEq (.pointer (some ⟨gl,0,none⟩))) :: (PEq (.pointer (some ⟨gl,0,none⟩))) :: (PEq (.pointer (some ⟨gl,5,none⟩))) :: (PEq (.slice (some ⟨gd,0,none⟩) (m+1) c6)) :: (PEq (.int .i64 (m:Nat))) :: (PEq (.pointer (some ⟨gd,m * 3,none⟩))) :: (PEq (.agg #[.int .i64 e1.kind,ae e1.name,ae e1.text])) :: (fun v w=>∃ gs,v=.slice (some ⟨gs,0,none⟩) 1 1∧Blk w gs 39 #[.int .i64 e1.kind,ae e1.name,ae e1.text]) :: eK :: (PEq (.pointer (some ⟨gl,0,none⟩))) :: (PEq (.pointer (some ⟨gl,6,none⟩))) :: eK :: [])) :: (cg ((0,(PEq (.pointer (some ⟨gl,0,none⟩)))) :: (13,(fun v w=>∃ A' c',v=.slice A' (g.undone.length+1) c'∧(∀ x,v.ownBlock=some x→(Value.slice A7 g.undone.length c7).ownBlock=some x∨w5.heap.size≤x)∧aW N 39 EdC 3 w B v (g.undone.length+1) (g.undone ++ [e1]))) :: (14,(PEq (.pointer (some ⟨gl,0,none⟩)))) :: (15,(PEq (.pointer (some ⟨gl,6,none⟩)))) :: [])) :: (cg ((0,(PEq (.pointer (some ⟨gl,0,none⟩)))) :: (14,(PEq (.pointer (some ⟨gl,0,none⟩)))) :: (15,(PEq (.pointer (some ⟨gl,6,none⟩)))) :: [])) :: [])) (T:=T2 ((fun w=>Below w5.heap.size w5 w) :: (fun w=>w5.grownBy w (Value.slice A7 g.undone.length c7).ownBlock) :: (fun w=>∃ A' c',dE N B w gl (ae L1.name) (.slice A1 n1 c1) (.slice B1 m1 d1) (.slice C1 k1 f1) (.slice (some ⟨gb,0,none⟩) (m+1) c5) (.slice (some ⟨gd,0,none⟩) (m+1) c6) (.slice A' (g.undone.length+1) c')∧aW N 26 (LkC 130) 4 w B (.slice (some ⟨gb,0,none⟩) (m+1) c5) (m+1) g.before∧aW N 39 EdC 3 w B (.slice (some ⟨gd,0,none⟩) (m+1) c6) (m+1) g.done∧aW N 39 EdC 3 w B (.slice A' (g.undone.length+1) c') (g.undone.length+1) (g.undone ++ [e1])∧(∀ x,(Value.slice A' (g.undone.length+1) c').ownBlock=some x→(Value.slice (some ⟨gd,0,none⟩) (m+1) c6).ownBlock≠some x)∧LgR N B w5 w) :: [])) (by kernel_rfl) ?_ ?_ (by decide) (jU (by decide)) (fj (by kernel_rfl)) (fk (by kernel_rfl)) (R2.grw ⟨jq.grw ⟨gEq _,gEq _,gEq _,gEq _,gEq _,gEq _,gEq _,gEq _,gEq _,gEq _,gEq _,gEq _,(fun _ _ _ ⟨x,h0,h1⟩ hb=>⟨x,h0,h1.below hb h1.lt⟩),kW,gEq _,gEq _,kW,trivial⟩,cg.grw ⟨gEq _,(fun _ _ _ ⟨A',c',h0,h2,h1⟩ hb=>⟨A',c',h0,h2,h1.blw hb⟩),gEq _,gEq _,trivial⟩,cg.grw ⟨gEq _,gEq _,gEq _,trivial⟩,trivial⟩) (T2.grw ⟨fun _ _ h hb=>h.trans (hb.mono h.size),fun _ _ h hb=>nc h hb,fun _ _ ⟨A',c',h0,h1,h2,h3,h4,h5⟩ hb=>⟨A',c',h0.blw hb,h1.blw hb,h2.blw hb,h3.blw hb,h4,h5.more h0 hb⟩,trivial⟩) ?_ ?_ ?_ ?_
 ·exact aH ⟨(fun _ _=>rfl),(fun _ _=>rfl),(fun _ _=>rfl),(fun _ _=>rfl),(fun _ _=>rfl),(fun _ _=>rfl),(fun _ _=>rfl),(fun _ _=>rfl),(fun _ _=>rfl),(fun _ _=>rfl),(fun _ _=>rfl),(fun _ _=>rfl),(fun _ _=>rfl),(fun _ _=>rfl),(fun _ _=>rfl),(fun _ _=>rfl),(fun _ _=>rfl),trivial⟩
 ·exact aH (bT _ 0 (by kernel_rfl))
 ·exact (aa _).drew
 ·refine aH ⟨?_,?_,?_,?_,?_,?_,?_,?_,?_,?_,?_,?_,?_,(fun h=>absurd (by decide) h),?_,?_,(fun h=>absurd (by decide) h),trivial⟩
  ·intro _ k hk _
   obtain rfl | rfl | rfl:=(show k=0∨k=1∨k=2 by have hk:k≤2:=hk;omega)
   ·intro xf wq hT hd K hK
    (try dsimp only [bV]);go_simp;have hz:=hK.out _ _ rfl (aa _);exact hz
   ·intro xf wq hT hd K hK
    (try dsimp only [bV]);go_simp;have hz:=hK.out _ _ rfl (aa _);exact hz
   intro xf wq hT hd K hK;(try dsimp only [bV]);go_simp;have hz:=hK.out _ _ rfl (aa _);exact hz
  ·intro _ k _ hk
   obtain rfl:=hk (by decide);intro xf wq hT hd K hK;(try dsimp only [bV]);go_simp;have hz:=hK.out _ _ rfl (aa _);exact hz
  ·intro _ k _ hk
   obtain rfl:=hk (by decide);intro xf wq hT hd K hK;have dq1:xf 1=.pointer (some ⟨gl,0,none⟩):=hd ⟨1,.data⟩ (by simp) rfl;(try dsimp only [bV]);(try simp only [dq1]);go_simp;have hz:=hK.out _ _ rfl (aa _);dsimp only [bV] at hz;simp only [dq1] at hz;exact hz
  ·intro _ k _ hk
   obtain rfl:=hk (by decide);intro xf wq hT hd K hK;have dq2:xf 2=.pointer (some ⟨gl,0,none⟩):=hd ⟨2,.data⟩ (by simp) rfl;(try dsimp only [bV]);(try simp only [dq2]);go_simp;have hz:=hK.out _ _ rfl (aa _);dsimp only [bV] at hz;simp only [dq2] at hz;exact hz
  ·intro _ k _ hk
   obtain rfl:=hk (by decide);intro xf wq hT hd K hK;have dq3:xf 3=.pointer (some ⟨gl,6,none⟩):=hd ⟨3,.data⟩ (by simp) rfl;have hT:Below w5.heap.size w5 wq:=hT;have hc:=(CORE.out.blk.below hT CORE.out.blk.lt).cell 6;(try dsimp only [bV]);(try simp only [dq3]);go_simp;have hz:=hK.out _ _ rfl (aa _);dsimp only [bV] at hz;simp only [dq3] at hz;exact hz
  ·intro _ k _ hk
   obtain rfl:=hk (by decide);intro xf wq hT hd K hK;(try dsimp only [bV]);go_simp;have hz:=hK.out _ _ rfl (aa _);exact hz
  ·intro _ k _ hk
   obtain rfl:=hk (by decide);intro xf wq hT hd K hK;have dq5:xf 5=.pointer (some ⟨gl,0,none⟩):=hd ⟨5,.data⟩ (by simp) rfl;(try dsimp only [bV]);(try simp only [dq5]);go_simp;have hz:=hK.out _ _ rfl (aa _);dsimp only [bV] at hz;simp only [dq5] at hz;exact hz
  ·intro _ k _ hk
   obtain rfl:=hk (by decide);intro xf wq hT hd K hK;have dq6:xf 6=.pointer (some ⟨gl,0,none⟩):=hd ⟨6,.data⟩ (by simp) rfl;(try dsimp only [bV]);(try simp only [dq6]);go_simp;have hz:=hK.out _ _ rfl (aa _);dsimp only [bV] at hz;simp only [dq6] at hz;exact hz
  ·intro _ k _ hk
   obtain rfl:=hk (by decide);intro xf wq hT hd K hK;have dq7:xf 7=.pointer (some ⟨gl,5,none⟩):=hd ⟨7,.data⟩ (by simp) rfl;have hT:Below w5.heap.size w5 wq:=hT;have hc:=(CORE.out.blk.below hT CORE.out.blk.lt).cell 5;(try dsimp only [bV]);(try simp only [dq7]);go_simp;have hz:=hK.out _ _ rfl (aa _);dsimp only [bV] at hz;simp only [dq7] at hz;exact hz
  ·intro _ k _ hk
   obtain rfl:=hk (by decide);intro xf wq hT hd K hK;(try dsimp only [bV]);go_simp;have hz:=hK.out _ _ rfl (aa _);exact hz
  ·intro _ k _ hk
   obtain rfl:=hk (by decide);intro xf wq hT hd K hK;have dq8:xf 8=.slice (some ⟨gd,0,none⟩) (m+1) c6:=hd ⟨8,.data⟩ (by simp) rfl;have dq9:xf 9=.int .i64 (m:Nat):=hd ⟨9,.data⟩ (by simp) rfl;have hi5:((m:Int) < (m:Int)+1)=True:=eq_true (by omega);(try dsimp only [bV]);(try simp only [dq8,dq9]);go_simp;have hz:=hK.out _ _ rfl (aa _);dsimp only [bV] at hz;simp only [dq8,dq9] at hz;exact hz
  ·intro _ k _ hk
   obtain rfl:=hk (by decide);intro xf wq hT hd K hK;have dq10:xf 10=.pointer (some ⟨gd,m * 3,none⟩):=hd ⟨10,.data⟩ (by simp) rfl;have hT:Below w5.heap.size w5 wq:=hT;have hc0:=aq EC.out.1 hT;have hc1:=aq EC.out.2.1 hT;have hc2:=aq EC.out.2.2 hT;(try dsimp only [bV]);(try simp only [dq10]);go_simp;have hz:=hK.out _ _ rfl (aa _);dsimp only [bV] at hz;simp only [dq10] at hz;exact hz
  ·intro _ k _ hk
   obtain rfl:=hk (by decide);intro xf wq hT hd K hK;have dq11:xf 11=.agg #[.int .i64 e1.kind,ae e1.name,ae e1.text]:=hd ⟨11,.data⟩ (by simp) rfl;(try dsimp only [bV]);(try simp only [dq11]);go_simp;have hz:=hK.out (.slice (some ⟨wq.heap.size,0,none⟩) 1 1) (wq.alloc (.cells #[.int .i64 e1.kind,ae e1.name,ae e1.text] 39)) ⟨wq.heap.size,rfl,Blk.new _ _ _⟩ ((aa wq).alloc Qr _);dsimp only [bV] at hz;simp only [dq11] at hz;exact hz
  ·intro _ k hk _
   obtain rfl | rfl | rfl:=(show k=0∨k=1∨k=2 by have hk:k≤2:=hk;omega)
   ·intro xf wq hT hd K hK
    have dq0:xf 0=.pointer (some ⟨gl,0,none⟩):=hd ⟨0,.data⟩ (by simp) rfl;(try dsimp only [bV]);(try simp only [dq0]);go_simp;have hz:=hK.out _ _ rfl (aa _);dsimp only [bV] at hz;simp only [dq0] at hz;exact hz
   ·intro xf wq hT hd K hK
    have dq0:xf 0=.pointer (some ⟨gl,0,none⟩):=hd ⟨0,.data⟩ (by simp) rfl;(try dsimp only [bV]);(try simp only [dq0]);go_simp;have hz:=hK.out _ _ rfl (aa _);dsimp only [bV] at hz;simp only [dq0] at hz;exact hz
   intro xf wq hT hd K hK;have dq0:xf 0=.pointer (some ⟨gl,0,none⟩):=hd ⟨0,.data⟩ (by simp) rfl;(try dsimp only [bV]);(try simp only [dq0]);go_simp;have hz:=hK.out _ _ rfl (aa _);dsimp only [bV] at hz;simp only [dq0] at hz;exact hz
  intro _ k hk _;obtain rfl | rfl | rfl:=(show k=0∨k=1∨k=2 by have hk:k≤2:=hk;omega)
  ·intro xf wq hT hd K hK
   have dq14:xf 14=.pointer (some ⟨gl,0,none⟩):=hd ⟨14,.data⟩ (by simp) rfl;(try dsimp only [bV]);(try simp only [dq14]);go_simp;have hz:=hK.out _ _ rfl (aa _);dsimp only [bV] at hz;simp only [dq14] at hz;exact hz
  ·intro xf wq hT hd K hK
   have dq14:xf 14=.pointer (some ⟨gl,0,none⟩):=hd ⟨14,.data⟩ (by simp) rfl;(try dsimp only [bV]);(try simp only [dq14]);go_simp;have hz:=hK.out _ _ rfl (aa _);dsimp only [bV] at hz;simp only [dq14] at hz;exact hz
  intro xf wq hT hd K hK;have dq14:xf 14=.pointer (some ⟨gl,0,none⟩):=hd ⟨14,.data⟩ (by simp) rfl;(try dsimp only [bV]);(try simp only [dq14]);go_simp;have hz:=hK.out _ _ rfl (aa _);dsimp only [bV] at hz;simp only [dq14] at hz;exact hz
 ·intro k i o hk ho
  obtain rfl | rfl:=(show k=0∨k=1 by have:=ii hk;have:k < 2:=this;omega)
  ·injection hk with hk
   subst hk;injection ho with ho;subst ho;intro xf wq DD hn hT hD hd K hK;have hT:Below w5.heap.size w5 wq:=hT;have dq4:xf 4=.slice A7 g.undone.length c7:=hd 4 (hD ⟨4,.data⟩ (by simp) rfl);obtain ⟨gs,e9,hbs⟩:∃ gs,xf 12=.slice (some ⟨gs,0,none⟩) 1 1∧Blk wq gs 39 #[.int .i64 e1.kind,ae e1.name,ae e1.text]:=hd 12 (hD ⟨12,.data⟩ (by simp) rfl);obtain ⟨hl,xs,hown,hrow⟩:=(UND.out.1.blw hT);have hs9:=hT.size;have hB9:B≤w5.heap.size:=by have:=CORE.out.hB;have:=CORE.out.blk.lt;omega
   rw [if_pos (show Region.wanted _ _=true from rfl)];refine cd _ noW _ _ _ rfl B 39 ie (.agg #[.int .i64 0,.string ⟨#[]⟩,.string ⟨#[]⟩]) 3 40 Tryz.underlying42 HIE.out.1 HIE.out.2.1 HIE.out.2.2.1 HIE.out.2.2.2 rfl (by omega) rfl (.slice A7 g.undone.length c7) g.undone.length xs dq4 hown ⟨gs,0,none⟩ 1 1 [.int .i64 e1.kind,ae e1.name,ae e1.text] e9 rfl (World.news_of_block hbs) (by simp [Value.oneCell']) rfl (by omega) (by unfold maxLen;omega) (by omega) (by omega) ?_;intro gz cap w7 hown5 hgrow hor;have hp:=gS hl hown hrow (a:=e1) (cs:=[.int .i64 e1.kind,ae e1.name,ae e1.text]) rfl rfl hown5 hgrow (by omega) (fun _ _ _ _ x=>x)
   exact hK.out _ _ (show w5.grownBy w7 _ from vy hT hgrow) ⟨_,_,rfl,fun x hx=>by
    injection hx with hx;subst hx;rcases hor with h | h
    ·exact .inl h
    exact .inr (by rw [h];exact hs9),hp.1,nf hor UND.out.2 CORE.out.hN hs9⟩ (cg.all ⟨fun h=>hd 0 h,fun h=>absurd h hn,fun h=>hd 14 h,fun h=>hd 15 h,trivial⟩)
  injection hk with hk;subst hk;injection ho with ho;subst ho;intro xf wq DD hn hT hD hd K hK;have hT:w5.grownBy wq (Value.slice A7 g.undone.length c7).ownBlock:=hT;obtain ⟨A',c',e7,hor,hrow⟩:∃ A' c',xf 13=.slice A' (g.undone.length+1) c'∧(∀ x,(xf 13).ownBlock=some x→(Value.slice A7 g.undone.length c7).ownBlock=some x∨w5.heap.size≤x)∧aW N 39 EdC 3 wq B (xf 13) (g.undone.length+1) (g.undone ++ [e1]):=hd 13 (hD ⟨13,.data⟩ (by simp) rfl);have dq15:xf 15=.pointer (some ⟨gl,6,none⟩):=hd 15 (hD ⟨15,.data⟩ (by simp) rfl);rw [e7] at hrow hor;obtain ⟨_,xs0,hown0,_⟩:=UND.out.1;have hne:=hown0.neb CORE.out.blk (by decide);have hcore:=CORE.out.grw hT hne;have cz1:=hcore.blk.cell 6;have fz1:=hcore.blk.frozen 6;obtain ⟨p1,p2,p3⟩:=hcore.put 6 (.slice A' (g.undone.length+1) c') (d0:=ae L1.name) (d1:=.slice A1 n1 c1) (d2:=.slice B1 m1 d1) (d3:=.slice C1 k1 f1) (u5:=.slice (some ⟨gb,0,none⟩) (m+1) c5) (u6:=.slice (some ⟨gd,0,none⟩) (m+1) c6) (u7:=.slice A' (g.undone.length+1) c') rfl ⟨rfl,rfl,rfl,rfl,rfl,rfl,rfl⟩;have hB9:B≤w5.heap.size:=by have:=CORE.out.hB;have:=CORE.out.blk.lt;omega
  have r1:=LgR.grown hown0 (by decide) hB9 CORE.out.hN UND.out.2 hT;have t1:Tch (bQ 39) w5 wq:=Tch.grown (fun _ hu=>hu) (by simp [bQ]) hown0 hT;have u1:ay 39 EdC 3 wq B (.slice (some ⟨gd,0,none⟩) (m+1) c6) (m+1) g.done:=DON.out.1.gr hT (fun x h1 h2=>DIS.out x h2 h1) (fun _ _ x=>x);have u2:aW N 39 EdC 3 _ B (.slice (some ⟨gd,0,none⟩) (m+1) c6) (m+1) g.done:=⟨u1.tch p3 (by decide) (fun _ _ x=>x),DON.out.2⟩;have b2:=(BEF.out.tch t1 (by decide) (fun _ _ x=>x.tch t1 (by decide) (by decide) (by decide) (by decide))).tch p3 (by decide) (fun _ _ x=>x.tch p3 (by decide) (by decide) (by decide) (by decide))
  have dis2:∀ x,(Value.slice A' (g.undone.length+1) c').ownBlock=some x→(Value.slice (some ⟨gd,0,none⟩) (m+1) c6).ownBlock≠some x:=by
   intro x h2 h1;rcases hor x h2 with h3 | h3
   ·exact DIS.out x h3 h1
   obtain ⟨_,xs1,hown1,_⟩:=DON.out.1;obtain ⟨_,cur,h4,_⟩:=hown1.at_ h1;have:=lt_of_block h4;omega
  (try dsimp only [bV]);(try simp only [dq15,e7]);go_simp;have hz:=hK.out undef _ (show ∃ A' c',dE N B _ gl (ae L1.name) (.slice A1 n1 c1) (.slice B1 m1 d1) (.slice C1 k1 f1) (.slice (some ⟨gb,0,none⟩) (m+1) c5) (.slice (some ⟨gd,0,none⟩) (m+1) c6) (.slice A' (g.undone.length+1) c')∧aW N 26 (LkC 130) 4 _ B (.slice (some ⟨gb,0,none⟩) (m+1) c5) (m+1) g.before∧aW N 39 EdC 3 _ B (.slice (some ⟨gd,0,none⟩) (m+1) c6) (m+1) g.done∧aW N 39 EdC 3 _ B (.slice A' (g.undone.length+1) c') (g.undone.length+1) (g.undone ++ [e1])∧(∀ x,(Value.slice A' (g.undone.length+1) c').ownBlock=some x→(Value.slice (some ⟨gd,0,none⟩) (m+1) c6).ownBlock≠some x)∧LgR N B w5 _ from ⟨A',c',p1,b2,u2,hrow.tch p3 (by decide) (fun _ _ x=>x),dis2,r1.trans p2⟩) trivial (cg.all ⟨fun h=>hd 0 h,fun h=>hd 14 h,fun h=>hd 15 h,trivial⟩);dsimp only [bV] at hz;simp only [dq15,e7] at hz;exact hz
 intro xf wa hT hr;obtain ⟨A8,c8,core8,bef8,don8,und8,dis8,r8⟩:∃ A' c',dE N B wa gl (ae L1.name) (.slice A1 n1 c1) (.slice B1 m1 d1) (.slice C1 k1 f1) (.slice (some ⟨gb,0,none⟩) (m+1) c5) (.slice (some ⟨gd,0,none⟩) (m+1) c6) (.slice A' (g.undone.length+1) c')∧aW N 26 (LkC 130) 4 wa B (.slice (some ⟨gb,0,none⟩) (m+1) c5) (m+1) g.before∧aW N 39 EdC 3 wa B (.slice (some ⟨gd,0,none⟩) (m+1) c6) (m+1) g.done∧aW N 39 EdC 3 wa B (.slice A' (g.undone.length+1) c') (g.undone.length+1) (g.undone ++ [e1])∧(∀ x,(Value.slice A' (g.undone.length+1) c').ownBlock=some x→(Value.slice (some ⟨gd,0,none⟩) (m+1) c6).ownBlock≠some x)∧LgR N B w5 wa:=hT;have CORE8:=Qh core8;have BEF8:=Qh bef8;have DON8:=Qh don8;have UND8:=Qh und8;have R8:=Qh r8;have DIS8:=Qh dis8;have b04:=core8.blk.cell 4;have b05:=core8.blk.cell 5;have g04:=core8.blk.frozen 4;have g05:=core8.blk.frozen 5;have hle:((m:Int)≤(c5:Int))=True:=by simp;omega
 clear hr core8 bef8 don8 und8 r8 dis8 UND DON BEF;dsimp only [bV];generalize xf 0=y0;generalize xf 1=y1;generalize xf 2=y2;generalize xf 3=y3;generalize xf 4=y4;generalize xf 5=y5;generalize xf 6=y6;generalize xf 7=y7;generalize xf 8=y8;generalize xf 9=y9;generalize xf 10=y10;generalize xf 11=y11;generalize xf 12=y12;generalize xf 13=y13;generalize xf 14=y14;generalize xf 15=y15;go_wp2_with fail;go_region
 all_goals
  go_wp2_with fail;refine bodyPost_ret (v:=.nilIface) (by simp [results,Tryz.results21,go_sem, *] <;> trivial) rfl ?_
  first
  | (have hs:=xJ CORE8.out BEF8.out DON8.out UND8.out DIS8.out (HY5.out.lg R8.out);exact pj bo (RS.out.trans R8.out) hs)
  | (have hs:=vA CORE8.out BEF8.out DON8.out UND8.out DIS8.out (HY5.out.lg R8.out);exact pj bo (RS.out.trans R8.out) hs)
structure zl (L:ai):Prop where
  ok:yc L
  nb:L.bodies.length≤1000
  nj:L.joints.length≤1000
  nd:L.drivers.length≤1000
  np:∀ b∈L.bodies,b.pts.length≤1000
theorem LkY.len {k:Nat}{w:World}{A B C:Option Addr}{n c p d q e:Nat}{L:ai}(h:LkY k w A n c B p d C q e L):L.bodies.length=n∧L.joints.length=p∧L.drivers.length=q:=⟨h.out.bodies.1,h.out.joints.1,h.out.drivers.1⟩
theorem zm (w:World) (A:Option Addr) (n c:Nat) (B:Option Addr) (p d:Nat) (C:Option Addr) (q e:Nat) (L:ai) (h:LkS 130 w A n c B p d C q e L) (hi:zl L):Calls Tryz.prog 32 #[.agg #[ae L.name,.slice A n c,.slice B p d,.slice C q e]] w (yd w L) :=
 vw w A n c B p d C q e L h hi.ok (by rw [← h.bodies.1];exact hi.nb) (by rw [← h.joints.1];exact hi.nj) (by rw [← h.drivers.1];exact hi.nd) hi.np
def BJ (w:World) (L:ai) (e:Ending) (w':World):Prop:=∃ A n c C p d D q f,e=.returned (.agg #[ae L.name,.slice A n c,.slice C p d,.slice D q f])∧LkY 130 w' A n c C p d D q f L∧Below w.heap.size w w'
theorem vB (N:Nat→Prop) (B:Nat) (w:World) (gl:Nat) (g:io) (h:js N B w gl g) (hi:zl g.now):Calls Tryz.prog 17 #[.pointer (some ⟨gl,0,none⟩)] w (BJ w g.now):=by
 obtain ⟨A,n,c,C,p,d,D,q,e,v5,v6,v7,h⟩:=h;have hb:=h.core.blk;have HY:=Qh h.now;have HI:=Qh hi;have hlt:=hb.lt;have q0:=(aa w).alloc Qr (.cells #[.string ⟨#[]⟩,.slice none 0 0,.slice none 0 0,.slice none 0 0] 26);have x0:Blk (w.alloc (.cells #[.string ⟨#[]⟩,.slice none 0 0,.slice none 0 0,.slice none 0 0] 26)) w.heap.size 26 #[.string ⟨#[]⟩,.slice none 0 0,.slice none 0 0,.slice none 0 0]:=Blk.new _ _ _;have c0:=hb.cell 0;have c1:=hb.cell 1;have c2:=hb.cell 2;have c3:=hb.cell 3;have hne:¬ gl=w.heap.size:=by omega
 have HY1:=Qh (HY.out.blw q0);clear h hb hi;go_in;go_wp2_with fail;clear c0 c1 c2 c3 hne;generalize (w.alloc (.cells #[.string ⟨#[]⟩,.slice none 0 0,.slice none 0 0,.slice none 0 0] 26))=w1 at q0 x0 HY1 ⊢;(with_reducible refine (zm w1 A n c C p d D q e g.now HY1.out.out HI.out).mono ?_);rintro e' w2 ⟨A2,n2,c2',C2,p2,d2,D2,q2,f2,rfl,hcp,hb2⟩;have x2:=x0.below hb2 x0.lt;have a0:=x2.c4;have b0:=x2.f4;have qb:=q0.trans (hb2.mono q0.size);clear hb2 x0 q0;go_wp2_with fail;refine bodyPost_ret (v:=.agg #[ae g.now.name,.slice A2 n2 c2',.slice C2 p2 d2,.slice D2 q2 f2]) (by simp [results,Tryz.results17,go_sem, *] <;> trivial) rfl ?_;exact ⟨_,_,_,_,_,_,_,_,_,rfl,hcp.lkY.tch (pe x2 ⟨rfl,rfl,rfl,rfl⟩ _ _ _ _) (by decide) (by decide) (by decide) (by decide),lb qb Qr _ _ _ _⟩
def AK (w:World) (l:List ce) (e:Ending) (w':World):Prop:=∃ A c,e=.returned (.slice A l.length c)∧SlS il 3 w' A l.length c l∧Below w.heap.size w w'
theorem zo (N:Nat→Prop) (B:Nat) (w:World) (gl:Nat) (g:io) (h:js N B w gl g) (hc:g.done.length≤1000):Calls Tryz.prog 14 #[.pointer (some ⟨gl,0,none⟩)] w (AK w g.done):=by
 obtain ⟨A,n,c,C,p,d,D,q,e,v5,v6,v7,h⟩:=h;obtain ⟨A5,c5,A6,c6,A7,c7,rfl,rfl,rfl,h5,h6,h7⟩:=h.forms;have c1:=h.core.blk.cell 5;have HS:=Qh h.don.1.eds;clear h;go_in;go_wp2_with fail;(with_reducible refine (qw w A6 g.done.length c6 g.done HS.out (by omega)).mono ?_);rintro e' w2 ⟨v,rfl,hrow,hb2⟩;obtain ⟨A2,c2,rfl,h2⟩:=hrow.form;go_wp2;go_ret;exact ⟨A2,c2,rfl,hrow.eds,hb2⟩
theorem ry {N:Nat→Prop}{B:Nat}{w:World}{gl:Nat}{g:io}{A C D:Option Addr}{n c p d q e:Nat}{v5 v6 v7 u7:Value}{un:List ce}(h:j6 N B w gl g A n c C p d D q e v5 v6 v7) (hu:aW N 39 EdC 3 w B u7 un.length un) (hd:∀ x,u7.ownBlock=some x→v6.ownBlock≠some x) (hw:noW u7=true):j6 N B (w.setCell ⟨gl,6,none⟩ u7) gl ⟨g.now,g.before,g.done,un⟩ A n c C p d D q e v5 v6 u7∧LgR N B w (w.setCell ⟨gl,6,none⟩ u7):=by
 obtain ⟨w0,w1,w2,w3,w5,w6,w7⟩:=h.core.nw;obtain ⟨p1,r1,t1⟩:=h.core.put 6 u7 (d0:=ae g.now.name) (d1:=.slice A n c) (d2:=.slice C p d) (d3:=.slice D q e) (u5:=v5) (u6:=v6) (u7:=u7) rfl ⟨w0,w1,w2,w3,w5,w6,hw⟩;exact ⟨⟨p1,h.now.lg r1,h.bef.tch t1 (by decide) (fun _ _ x=>x.tch t1 (by decide) (by decide) (by decide) (by decide)),h.don.tch t1 (by decide) (fun _ _ x=>x),hu.tch t1 (by decide) (fun _ _ x=>x),hd⟩,r1⟩
theorem jX.base {N:Nat→Prop}{B:Nat}{w w0:World}{gl:Nat}{x:Int}{g':io}{e:Ending}{w':World}(h:jX N B w gl x g' e w') (hb:Below w0.heap.size w0 w) (hB:B≤w0.heap.size) (hN:∀ x,N x→x < w0.heap.size):jX N B w0 gl x g' e w' :=
 ⟨h.1,fun hx=>hb.trans ((h.2.1 hx).mono hb.size),fun hx=>⟨(LgR.below hB hN hb).trans (h.2.2 hx).1,(h.2.2 hx).2⟩⟩
theorem BK (N:Nat→Prop) (B:Nat) (w:World) (gl:Nat) (g:io) (h:js N B w gl g) (ed:ce) (x:Int) (L':ai) (hA:ApC g.now ed x L') (hc:g.done.length < 256) (htab:Tab w) (hmx:Mx w):Calls Tryz.prog 20 #[.pointer (some ⟨gl,0,none⟩),.agg #[.int .i64 ed.kind,ae ed.name,ae ed.text]] w (jX N B w gl x ⟨L',g.before ++ [g.now],g.done ++ [ed],[]⟩):=by
 have H0:=Qh h;have HA:=Qh hA;obtain ⟨A,n,c,C,p,d,D,q,e,v5,v6,v7,h⟩:=h;obtain ⟨A5,c5,A6,c6,A7,c7,rfl,rfl,rfl,h5,h6,h7⟩:=h.forms;have q0:=(aa w).alloc Qr (.cells #[.int .i64 ed.kind,ae ed.name,ae ed.text] 39);have hcell:w.cell? ⟨gl,5,none⟩=some (.slice A6 g.done.length c6):=h.core.blk.cell 5;have hlt:=h.core.blk.lt;have hne0:¬ gl=w.heap.size:=by omega
 have HB:=Qh (And.intro h.core.hB (And.intro h.core.hN h.core.blk.lt));have HTab:=Qh (htab.belw q0);have HM:=Qh (hmx.belw q0);have HL1:=Qh (H0.out.blw q0);have hi1:((256:Int)≤(g.done.length:Nat))=False:=eq_false (by omega);have Q0:=Qh q0;clear h hA htab hmx;go_in;clear q0;go_wp2_with fail;generalize (w.alloc (.cells #[.int .i64 ed.kind,ae ed.name,ae ed.text] 39))=w1 at Q0 HTab HM HL1 ⊢;(with_reducible refine (vz N B w1 gl g HL1.out ed x L' HA.out (by omega) HTab.out HM.out).mono ?_);rintro e' w2 ⟨rfl,hne,heq⟩;clear hcell;by_cases hx:x=0
 ·subst hx
  obtain ⟨r2,A',n',c',C',p',d',D',q',f',u5,u6,u7,hL⟩:=heq rfl;rw [bo];have hl:=ry (un:=[]) hL aW.nil (fun x e=>by cases e) rfl;have b0:=hL.core.blk.cell 6;have b1:=hL.core.blk.frozen 6;have HLL:=Qh hl;have R2:=Qh r2;clear hL hl r2 heq hne;go_wp2;go_ret;exact ⟨by rw [bo];rfl,fun h=>absurd rfl h,fun _=>⟨((LgR.below (by have:=HB.out;omega) HB.out.2.1 Q0.out).trans R2.out).trans HLL.out.2,_,_,_,_,_,_,_,_,_,_,_,_,HLL.out.1⟩⟩
 have hb2:=hne hx;have HX:=Qh hx;rw [eVp hx];clear hne heq hx;go_wp2;go_ret;exact ⟨by rw [eVp HX.out];rfl,fun _=>Q0.out.trans (hb2.mono Q0.out.size),fun h=>absurd h HX.out⟩
theorem zp (N:Nat→Prop) (B:Nat) (w:World) (gl:Nat) (g:io) (h:js N B w gl g) (m:Nat) (hm:g.undone.length=m+1) (ed:ce) (he:g.undone[m]?=some ed) (x:Int) (L':ai) (hA:ApC g.now ed x L') (hc:g.done.length≤1000) (hu:g.undone.length≤1000) (htab:Tab w) (hmx:Mx w):Calls Tryz.prog 23 #[.pointer (some ⟨gl,0,none⟩)] w (jX N B w gl x ⟨L',g.before ++ [g.now],g.done ++ [ed],g.undone.take m⟩):=by
 have HL1:=Qh h;have HA:=Qh hA;have HTab:=Qh htab;have HM:=Qh hmx;obtain ⟨A,n,c,C,p,d,D,q,e,v5,v6,v7,h⟩:=h;obtain ⟨A5,c5,A6,c6,A7,c7,rfl,rfl,rfl,h5,h6,h7⟩:=h.forms;obtain ⟨gd,cs,eA,e0,hds⟩:=h.und.1.at_ he;subst eA e0;have hcell:=h.core.blk.cell 6;rw [hm] at hcell h7;have d0:w.cell? ⟨gd,m * 3,none⟩=_:=hds 0 _ rfl;have d1:=hds 1 _ rfl;have d2:=hds 2 _ rfl;have hmm:((g.undone.length:Nat):Int)=(m:Int)+1:=by omega
 have hi2:((m:Int) < (m:Int)+1)=True:=eq_true (by omega);have hi1:((m:Int) < 0)=False:=by simp
 clear h hA htab hmx hds;go_in;go_wp2_with fail;(with_reducible refine (vz N B w gl g HL1.out ed x L' HA.out hc HTab.out HM.out).mono ?_);rintro e' w2 ⟨rfl,hne,heq⟩;clear d0 d1 d2 hcell;by_cases hx:x=0
 ·subst hx
  obtain ⟨r2,A',n',c',C',p',d',D',q',f',u5,u6,u7,hL⟩:=heq rfl;obtain ⟨B5,k5,B6,k6,B7,k7,rfl,rfl,rfl,l5,l6,l7⟩:=hL.forms;rw [bo];have l7:g.undone.length≤k7:=l7;rw [hm] at l7;have b0:=hL.core.blk.cell 6;have b1:=hL.core.blk.frozen 6;have hcut:=hL.und.cut (m:=m) (by show m≤g.undone.length;omega);have em:(g.undone.take m).length=m:=by rw [List.length_take];omega
  have hl:=ry (un:=g.undone.take m) (u7:=.slice B7 m k7) hL (by rw [em];exact hcut) (fun x e1 e2=>hL.dis x (by rw [← e1];cases B7 <;> rfl) e2) rfl;have HLL:=Qh hl;have R2:=Qh r2;have b0:w2.cell? ⟨gl,6,none⟩=some (.slice B7 (m+1) k7):=by rw [← hm];exact b0
  have hle:((m:Int)≤(k7:Int))=True:=by simp;omega
  clear hL hl r2 heq hne hcut;go_wp2;go_ret;exact ⟨by rw [bo];rfl,fun h=>absurd rfl h,fun _=>⟨R2.out.trans HLL.out.2,_,_,_,_,_,_,_,_,_,_,_,_,HLL.out.1⟩⟩
 have hb2:=hne hx;have HX:=Qh hx;rw [eVp hx];clear hne heq hx;go_wp2;go_ret;exact ⟨by rw [eVp HX.out];rfl,fun _=>hb2,fun h=>absurd h HX.out⟩
/-! A log that does not exist. -/
theorem vC (w:World) (ed:ce):Calls Tryz.prog 20 #[.pointer none,.agg #[.int .i64 ed.kind,ae ed.name,ae ed.text]] w (aB w (be 1)):=by
 rw [eVp (by decide)];go_in;go_wp2;go_ret;exact ⟨rfl,(aa w).alloc Qr _⟩
theorem qx (w:World):Calls Tryz.prog 21 #[.pointer none] w (aB w (be 1)):=by
 rw [eVp (by decide)];go_in;go_wp2;go_ret;exact ⟨rfl,aa w⟩
theorem qA (w:World):Calls Tryz.prog 23 #[.pointer none] w (aB w (be 1)):=by
 rw [eVp (by decide)];go_in;go_wp2;go_ret;exact ⟨rfl,aa w⟩
theorem qB (w:World):Calls Tryz.prog 14 #[.pointer none] w (aB w (.slice none 0 0)):=by
 go_in;go_wp2;go_ret;exact ⟨rfl,aa w⟩
theorem ng (w:World):Calls Tryz.prog 22 #[.pointer none] w (aB w (.slice none 0 0)):=by
 go_in;go_wp2;go_ret;exact ⟨rfl,aa w⟩
theorem sV (w:World):Calls Tryz.prog 17 #[.pointer none] w (aB w (.agg #[.string ⟨#[]⟩,.slice none 0 0,.slice none 0 0,.slice none 0 0])):=by
 go_in;go_wp2_with fail;refine bodyPost_ret (v:=.agg #[.string ⟨#[]⟩,.slice none 0 0,.slice none 0 0,.slice none 0 0]) (by simp [results,Tryz.results17,go_sem, *] <;> trivial) rfl ?_;exact ⟨rfl,(aa w).alloc Qr _⟩
theorem AL:Tryz.prog.eqGuardType Tryz.prog.depth 39=false:=by kernel_rfl
theorem AM:Tryz.prog.stoodInHeld 39=false:=by kernel_rfl
theorem SlS.ed {w w':World}{A:Option Addr}{n c:Nat}{l:List ce}(h:SlS il 3 w A n c l) (hb:Below w.heap.size w w'):SlS il 3 w' A n c l:=h.belw (fun _ _ _ h=>h.belw hb) hb
theorem vD (w:World) (A:Option Addr) (n c:Nat) (l:List ce) (h:SlS il 3 w A n c l) (A':Option Addr) (c':Nat) (h':SlS il 3 w A' n c' l) (hn:n≤100000):Calls Tryz.prog 24 #[.slice A n c,.slice A' n c'] w (aB w (.bool true)):=by
 have H:=Qh h;have H':=Qh h';clear h h';go_in;go_wp2_with fail;go_loopw [5] (fun iv wr=>∃ i:Nat,iv=.int .i64 (i:Nat)∧i≤n∧Below w.heap.size w wr) (fun iv _=>n - (intOf iv).toNat)
 case atStart=>exact ⟨0,rfl,Nat.zero_le _,aa w⟩
 case round =>
  obtain ⟨i,rfl,hi,bwi⟩:=hrel;rename World=>wi;rcases Nat.lt_or_ge i n with hlt | hge
  ·have hi1:((i:Int) < (n:Int))=True:=by simp;omega
   have hi3:((i:Int) < (n:Int)):=by omega
   obtain ⟨g,o,x,e1,hg,hc,hxi,hX⟩:=(H.out.ed bwi).at_ hlt;subst e1;obtain ⟨g9,o9,y,e1,hg9,hc9,hyi,hY⟩:=(H'.out.ed bwi).at_ hlt;subst e1;rw [hxi] at hyi;injection hyi with hyi;subst hyi;obtain ⟨d0,d1,d2⟩:=hX;obtain ⟨f0,f1,f2⟩:=hY;have gt1:=AL;have gt2:=AM;clear hxi;go_wp2_with fail;go_quiet (fail);go_wp2_with fail;go_roundw
   case rel=>exact ⟨i+1,by go_num,by omega,by first | exact bwi | exact af bwi _⟩
   case measure=>simp [intOf];omega
  have hi1:((i:Int) < (n:Int))=False:=by simp;omega
  go_wp2;go_ret;exact ⟨rfl,bwi⟩
def kt (l:List Tkn):List (Nat × List UInt8):=l.map fun t=>(t.kind,t.text)
structure AtK (s:PS) (K:List (Nat × List UInt8)) (L:ai):Prop where
  x:s.x=0
  k:kt s.toks=K
  l:s.L=L
theorem AtK.head {s:PS}{k:Nat}{t:List UInt8}{K:List (Nat × List UInt8)}{L:ai}(h:AtK s ((k,t) :: K) L):∃ u r,s.toks=u :: r∧u.kind=k∧u.text=t∧kt r=K:=by
 have h1:=h.k;unfold kt at h1
 cases e:s.toks with
 | nil=>rw [e] at h1;cases h1
 | cons u r =>
  rw [e,List.map_cons] at h1;injection h1 with h2 h3;injection h2 with h4 h5;exact ⟨u,r,rfl,h4,h5,h3⟩
theorem AtK.next {s:PS}{k:Nat}{t:List UInt8}{K:List (Nat × List UInt8)}{L:ai}(h:AtK s ((k,t) :: K) L):s.next k=(some t,s):=by
 obtain ⟨u,r,e,h1,h2,_⟩:=h.head;unfold PS.next;rw [if_neg (by rw [h.x];simp),e];show (if u.kind=k then (some u.text,s) else _)=_;rw [if_pos h1,h2]
theorem AtK.drop {s:PS}{p:Nat × List UInt8}{K:List (Nat × List UInt8)}{L:ai}(h:AtK s (p :: K) L):AtK s.drop1 K L:=by
 obtain ⟨u,r,e,_,_,h3⟩:=AtK.head (k:=p.1) (t:=p.2) h;refine ⟨h.x,?_,h.l⟩;show kt (s.toks.drop 1)=K;rw [e];exact h3
theorem AtK.word {s:PS}{t:List UInt8}{K:List (Nat × List UInt8)}{L:ai}(h:AtK s ((0,t) :: K) L):s.word.1=t∧AtK s.word.2 K L:=by
 unfold PS.word;rw [h.next];exact ⟨rfl,h.drop⟩
theorem AtK.expect {s:PS}{k:Nat}{t:List UInt8}{K:List (Nat × List UInt8)}{L:ai}(h:AtK s ((k,t) :: K) L):AtK (s.expect k t) K L:=by
 unfold PS.expect;rw [h.next];show AtK (if t=t then s.drop1 else s.fail 2) K L;rw [if_pos rfl];exact h.drop
theorem AtK.number {s:PS}{t:List UInt8}{K:List (Nat × List UInt8)}{L:ai}(h:AtK s ((1,t) :: K) L) (hv:valX t=0):s.number.1=valQ t∧AtK s.number.2 K L:=by
 unfold PS.number;rw [h.next];show (if valX t≠0 then (0,s.fail (valX t)) else (valQ t,s.drop1):Rat × PS).1=_∧AtK (if valX t≠0 then (0,s.fail (valX t)) else (valQ t,s.drop1):Rat × PS).2 K L;rw [if_neg (by rw [hv];simp)];exact ⟨rfl,h.drop⟩
/-! Texts of numbers. -/
theorem rz (z:Int):∃ m D,isD D∧Lib.itoa z=sg m D∧sgI m (ap D)=z:=by
 obtain ⟨h1,h2⟩:=wY z;generalize Lib.itoa z=s at h1 h2 ⊢;refine ⟨bX s,bI s,?_,?_,?_⟩
 ·unfold okZ at h1
  rw [Bool.and_eq_true,Bool.and_eq_true,decide_eq_true_eq] at h1;exact ⟨h1.1.1,h1.1.2⟩
 ·unfold bX bI sg
  split <;> split <;> simp_all
 unfold dT at h2;unfold sgI;exact h2
theorem km {m m':Bool}{D D' r r':List UInt8}(h:isD D) (h':isD D') (e:sg m (D ++ r)=sg m' (D' ++ r')):m=m'∧D ++ r=D' ++ r':=by
 obtain ⟨a1,a2⟩:=ff (m:=m) (r:=r) h;obtain ⟨b1,b2⟩:=ff (m:=m') (r:=r') h';rw [e] at a1 a2;exact ⟨a1.symm.trans b1,a2.symm.trans b2⟩
theorem pk (q:Rat):∃ m D t,isD D∧aG q=sg m (D ++ t)∧((t=[]∧q=((sgI m (ap D):Int):Rat))∨∃ E,isD E∧t=47 :: E∧ap E≠0∧q=Rat.divInt (sgI m (ap D)) (ap E)):=by
 obtain ⟨m,D,hD,e1,e2⟩:=rz q.num;by_cases hd:q.den=1
 ·refine ⟨m,D,[],hD,?_,.inl ⟨rfl,?_⟩⟩
  ·rw [jM hd,e1,List.append_nil]
  rw [e2];exact Rat.ext (by simp) (by simp [hd])
 obtain ⟨m',E,hE,e3,e4⟩:=rz (q.den:Int);have hp:0 < q.den:=q.den_pos
 have hm':m'=false:=by
  cases m'
  ·rfl
  unfold sgI at e4;rw [if_pos rfl] at e4;omega
 subst hm'
 have e5:ap E=q.den:=by
  unfold sgI at e4;rw [if_neg (by decide)] at e4;omega
 refine ⟨m,D,47 :: E,hD,?_,.inr ⟨E,hE,rfl,by omega,?_⟩⟩
 ·rw [jN hd,e1,e3]
  cases m <;> rfl
 rw [e2,e5,Rat.divInt_ofNat];exact (Rat.mkRat_self q).symm
theorem vE {e:List UInt8}(he:∀ c t,e=c :: t→c=32∨c=59):dx e=0∧mI e=false∧∀ c t,e=c :: t→aM c=false:=by
 cases e with
 | nil=>exact ⟨rfl,rfl,fun c t h=>by cases h⟩
 | cons c t =>
  rcases he c t rfl with rfl | rfl
  ·refine ⟨?_,rfl,fun c t h=>by injection h with h _;subst h;decide⟩
   rw [dx,show ((32:UInt8) == 46 || (32:UInt8) == 47)=false from by decide];rfl
  refine ⟨?_,rfl,fun c t h=>by injection h with h _;subst h;decide⟩;rw [dx,show ((59:UInt8) == 46 || (59:UInt8) == 47)=false from by decide];rfl
theorem rA {m:Bool}{D t e:List UInt8}(hD:isD D) (ht:t=[]∨∃ E,isD E∧t=47 :: E) (he:∀ c t,e=c :: t→c=32∨c=59):bH (sg m (D ++ t) ++ e)=(sg m (D ++ t)).length:=by
 obtain ⟨t0,_,td⟩:=vE he;have hDp:0 < D.length:=List.length_pos_iff.2 hD.1
 have hte:∀ c r,t ++ e=c :: r→aM c=false:=by
  rcases ht with rfl | ⟨E,_,rfl⟩
  ·exact td
  intro c r h;injection h with h _;subst h;decide
 have htl:dx (t ++ e)=t.length:=by
  rcases ht with rfl | ⟨E,hE,rfl⟩
  ·exact t0
  ·have hE1:ci (E ++ e)=E.length:=by
    unfold ci;rw [kF e hE.2 td]
   have hEp:0 < E.length:=List.length_pos_iff.2 hE.1;rw [List.cons_append,dx,hE1,show ((47:UInt8) == 46 || (47:UInt8) == 47)=true from by decide,Bool.true_and,if_pos (by simpa using hEp),List.length_cons];omega
 have hdig:ci (D ++ (t ++ e))=D.length:=by
  unfold ci;rw [kF (t ++ e) hD.2 hte]
 have key:∀ s:List UInt8,cj s=(if m then 1 else 0)→s.drop (cj s)=D ++ (t ++ e)→bH s=(if m then 1 else 0)+D.length+t.length:=by
  intro s h1 h2;unfold bH;rw [h2,hdig,if_neg (by omega),← List.drop_drop,h2,List.drop_left,htl,h1]
 have:=key (sg m (D ++ t) ++ e) ?_ ?_
 ·rw [this]
  unfold sg;cases m <;> simp <;> omega
 ·cases m
  ·obtain ⟨c,r,rfl,hc⟩:=fR hD
   have h45:c≠45:=by rintro rfl;exact absurd hc (by decide)
   show cj (c :: (r ++ t ++ e))=0;unfold cj;split
   ·rename_i h1;injection h1 with h2;exact absurd h2 h45
   rfl
  rfl
 cases m
 ·obtain ⟨c,r,rfl,hc⟩:=fR hD
  have h45:c≠45:=by rintro rfl;exact absurd hc (by decide)
  have:cj (sg false (c :: r ++ t) ++ e)=0:=by
   show cj (c :: (r ++ t ++ e))=0;unfold cj;split
   ·rename_i h1;injection h1 with h2;exact absurd h2 h45
   rfl
  rw [this];show c :: r ++ t ++ e=_;rw [List.append_assoc]
 show D ++ t ++ e=_;rw [List.append_assoc]
theorem rB {q:Rat}(hl:(aG q).length≤60):valX (aG q)=0∧valQ (aG q)=q:=by
 obtain ⟨m,D,t,hD,hs,hq⟩:=pk q;have h:=rc (aG q)
 have hn:bH (aG q)=(aG q).length:=by
  have:=rA (m:=m) (D:=D) (t:=t) (e:=[]) hD (by rcases hq with ⟨h,_⟩ | ⟨E,hE,h,_⟩;exact .inl h;exact .inr ⟨E,hE,h⟩) (fun c t h=>by cases h);rw [List.append_nil] at this;rw [hs];exact this
 have hpos:(aG q).length≠0:=by
  obtain ⟨c,r,e,_⟩:=fR hD;rw [hs,e];cases m <;> simp [sg]
 generalize valX (aG q)=x at h ⊢;generalize valQ (aG q)=y at h ⊢;have no47:∀ {F:List UInt8},isD F→(47:UInt8) ∉ F:=fun h=>fz h (by decide)
 have no46:∀ {F:List UInt8},isD F→(46:UInt8) ∉ F:=fun h=>fz h (by decide)
 cases h with
 | large h1 _ _=>omega
 | bad _ hb _ _ =>
  rcases hb with hb | hb
  ·exact absurd hb hpos
  exact absurd hn hb
 | whole m' D' _ _ hD' hs' hx hy =>
  have e0:=hs.symm.trans hs';rw [show D'=D' ++ [] by simp] at e0;obtain ⟨rfl,e⟩:=km hD hD' e0;rcases hq with ⟨rfl,hq⟩ | ⟨E,hE,rfl,h0,hq⟩
  ·rw [List.append_nil,List.append_nil] at e
   subst e;exact ⟨hx,hy.trans hq.symm⟩
  exfalso;rw [List.append_nil] at e;exact no47 hD' (e ▸ List.mem_append_right _ (List.mem_cons_self))
 | quo0 m' D' E' _ _ hD' hE' hs' h0' _ _ =>
  exfalso;have e0:=hs.symm.trans hs';obtain ⟨rfl,e⟩:=km hD hD' e0;rcases hq with ⟨rfl,hq⟩ | ⟨E,hE,rfl,h0,hq⟩
  ·rw [List.append_nil] at e
   exact no47 hD (e ▸ List.mem_append_right _ (List.mem_cons_self))
  obtain ⟨_,e2⟩:=oB (no47 hD) (no47 hD') e;subst e2;exact h0 h0'
 | quo m' D' E' _ _ hD' hE' hs' h0' hx hy =>
  have e0:=hs.symm.trans hs';obtain ⟨rfl,e⟩:=km hD hD' e0;rcases hq with ⟨rfl,hq⟩ | ⟨E,hE,rfl,h0,hq⟩
  ·exfalso
   rw [List.append_nil] at e;exact no47 hD (e ▸ List.mem_append_right _ (List.mem_cons_self))
  obtain ⟨e1,e2⟩:=oB (no47 hD) (no47 hD') e;subst e1 e2;exact ⟨hx,hy.trans hq.symm⟩
 | dot m' D' E' _ _ hD' hE' hs' hx hy =>
  exfalso;have e0:=hs.symm.trans hs';obtain ⟨rfl,e⟩:=km hD hD' e0;have h46:(46:UInt8)∈D ++ t:=e ▸ List.mem_append_right _ (List.mem_cons_self);rcases List.mem_append.1 h46 with h | h
  ·exact no46 hD h
  rcases hq with ⟨rfl,hq⟩ | ⟨E,hE,rfl,h0,hq⟩
  ·cases h
  rcases List.mem_cons.1 h with h | h
  ·exact absurd h (by decide)
  exact no46 hE h
/-! Tokens of a text. -/
def Spl (s:List UInt8) (K:List (Nat × List UInt8)):Prop:=∀ line col,Bn.shape (tk s line col)=some K
theorem Spl.nil:Spl [] []:=fun _ _=>rfl
theorem Spl.line {s:List UInt8}{K:List (Nat × List UInt8)}(h:Spl s K):Spl (10 :: s) K:=fun line col=>by rw [j9];exact h _ _
theorem Spl.blank {s:List UInt8}{K:List (Nat × List UInt8)}(h:Spl s K):Spl (32 :: s) K:=fun line col=>by rw [iU (by decide)];exact h _ _
theorem Spl.tok {x s:List UInt8}{k:Nat}{K:List (Nat × List UInt8)}(h0:x≠[]) (hf:bc (x ++ s)=.ok k x.length) (h:Spl s K):Spl (x ++ s) ((k,x) :: K):=fun line col=>by
 obtain ⟨c,r,rfl⟩:=List.exists_cons_of_ne_nil h0;rw [List.cons_append] at hf;rw [List.cons_append,pR hf,pS,← List.cons_append,List.drop_left,List.take_left,h];rfl
theorem Spl.sign {c:UInt8}{s:List UInt8}{K:List (Nat × List UInt8)}(hc:cH c=true) (h:Spl s K):Spl (c :: s) ((2,[c]) :: K) :=
 Spl.tok (x:=[c]) (by simp) (by show bc (c :: s)=_;unfold bc;simp only [hc,if_true];rfl) h
theorem pl {c:UInt8}(h:ch c=true):cH c=false:=by
 cases hs:cH c
 ·rfl
 unfold cH at hs;simp only [Bool.or_eq_true,beq_iff_eq] at hs;rcases hs with ((e | e) | e) | e <;> subst e <;> exact absurd h (by decide)
theorem Spl.word {x s:List UInt8}{K:List (Nat × List UInt8)}(hx:aZ x=true) (hs:∀ c t,s=c :: t→aY c=false) (h:Spl s K):Spl (x ++ s) ((0,x) :: K):=by
 have ha:=vc hx;unfold aZ at hx;simp only [Bool.and_eq_true,decide_eq_true_eq] at hx;obtain ⟨⟨h1,h2⟩,h3⟩:=hx;refine Spl.tok ha.1 ?_ h
 cases x with
 | nil=>exact absurd rfl ha.1
 | cons c t =>
  have hl:ch c=true:=by
   rw [bp] at h1;split at h1
   ·assumption
   omega
  have ht:t.all aY=true:=List.all_eq_true.2 fun d hd=>ha.2 d (by simp [hd])
  have hw:bp (c :: (t ++ s))=(c :: t).length:=by
   rw [bp,if_pos hl,kF s ht hs,List.length_cons];omega
  show bc (c :: (t ++ s))=_;unfold bc;simp only [pl hl,hw,Bool.false_eq_true,if_false];rw [if_pos (by simp),if_neg (by omega)]
theorem zq {c:UInt8}(h:aM c=true∨c=45):cH c=false∧ch c=false:=by
 rcases h with h | rfl
 ·unfold aM at h
  simp only [Bool.and_eq_true,decide_eq_true_eq] at h;constructor
  ·cases hs:cH c
   ·rfl
   unfold cH at hs;simp only [Bool.or_eq_true,beq_iff_eq] at hs;rcases hs with ((e | e) | e) | e <;> subst e <;> exact absurd h (by decide)
  unfold ch;simp only [Bool.or_eq_false_iff,Bool.and_eq_false_iff,decide_eq_false_iff_not];omega
 decide
theorem Spl.num {q:Rat}{s:List UInt8}{K:List (Nat × List UInt8)}(hl:(aG q).length≤60) (hs:∀ c t,s=c :: t→c=32∨c=59) (h:Spl s K):Spl (aG q ++ s) ((1,aG q) :: K):=by
 obtain ⟨m,D,t,hD,e,hq⟩:=pk q
 have hn:bH (aG q ++ s)=(aG q).length:=by
  rw [e];exact rA hD (by rcases hq with ⟨h,_⟩ | ⟨E,hE,h,_⟩;exact .inl h;exact .inr ⟨E,hE,h⟩) hs
 have hc:∃ c r,aG q=c :: r∧(aM c=true∨c=45):=by
  obtain ⟨c,r,e2,h2⟩:=fR hD;rw [e,e2];cases m
  ·exact ⟨c,r ++ t,rfl,.inl h2⟩
  exact ⟨45,_,rfl,.inr rfl⟩
 obtain ⟨c,r,e3,h3⟩:=hc;obtain ⟨h4,h5⟩:=zq h3;refine Spl.tok (by rw [e3];simp) ?_ h;rw [e3] at hn hl ⊢;rw [List.cons_append] at hn ⊢;have hw:bp (c :: (r ++ s))=0:=by rw [bp,h5];rfl
 unfold bc;simp only [h4,hw,hn,Bool.false_eq_true,if_false];rw [if_neg (by omega),if_neg (by simp),if_neg (by omega),← List.cons_append,List.drop_left,(vE hs).2.1];rfl
noncomputable def vF (l:List Tkn):aj × PS :=
  let b:=((⟨l,L0,0⟩:PS).expect 0 kP).body
  (b.1,if b.2.x=0∧b.2.toks≠[] then b.2.fail 2 else b.2)
def B0:aj:=⟨[],[]⟩
inductive nh (s:List UInt8) (x:Int) (b:aj):Prop
  | split (l:List Tkn) (hs:bh s x l) (hx:x≠0) (hb:b=B0)
  | read (l:List Tkn) (hs:bh s 0 l) (hr:(vF l).2.x=x) (hx:x≠0) (hb:b=B0)
  | ok (l:List Tkn) (hs:bh s 0 l) (hr:(vF l).2.x=0) (hx:x=0) (hb:b=(vF l).1)
theorem nh.uniq {s:List UInt8}{x y:Int}{b d:aj}(h:nh s x b) (h':nh s y d):x=y∧b=d:=by
 cases h with
 | split l hs hx hL =>
  cases h' with
  | split l' hs' hx' hL'=>exact ⟨(hs.uniq hs').1,by rw [hL,hL']⟩
  | read l' hs' _ _ _=>exact absurd (hs.uniq hs').1 hx
  | ok l' hs' _ _ _=>exact absurd (hs.uniq hs').1 hx
 | read l hs hr hx hL =>
  cases h' with
  | split l' hs' hx' hL'=>exact absurd (hs.uniq hs').1.symm hx'
  | read l' hs' hr' hx' hL' =>
   obtain ⟨_,rfl⟩:=hs.uniq hs';exact ⟨hr.symm.trans hr',by rw [hL,hL']⟩
  | ok l' hs' hr' _ _ =>
   obtain ⟨_,rfl⟩:=hs.uniq hs';exact absurd (hr.symm.trans hr') hx
 | ok l hs hr hx hL =>
  cases h' with
  | split l' hs' hx' hL'=>exact absurd (hs.uniq hs').1.symm hx'
  | read l' hs' hr' hx' hL' =>
   obtain ⟨_,rfl⟩:=hs.uniq hs';exact absurd (hr'.symm.trans hr) hx'
  | ok l' hs' hr' hx' hL' =>
   obtain ⟨_,rfl⟩:=hs.uniq hs';exact ⟨by rw [hx,hx'],by rw [hL,hL']⟩
/-! The tokens of a linkage. -/
def ju (m:au):List (Nat × List UInt8):=[(0,m.name),(1,aG m.x.q),(1,aG m.y.q),(2,[59])]
def ld (b:aj):List (Nat × List UInt8):=(0,kP) :: (0,b.name) :: (2,[123]) :: (b.pts.flatMap ju ++ [(2,[125])])
def lf (bs:List aj) (i j:Int):List (Nat × List UInt8):=match bs[i.toNat]? with
  | some b=>(match b.pts[j.toNat]? with | some m=>[(0,b.name),(2,[46]),(0,m.name)] | none=>[])
  | none=>[]
def ip (bs:List aj) (j:aK):List (Nat × List UInt8) :=
  (0,if j.kind=1 then jR else sN) :: (0,j.name) :: (lf bs j.a j.point ++ (lf bs j.b j.on ++ ((if j.kind=1 then lf bs j.b j.to_ else []) ++ [(2,[59])])))
def fB (bs:List aj) (d:aQ):List (Nat × List UInt8):=[(0,gG),(0,d.name),(0,mc bs d.body),(2,[59])]
def lh (L:ai):List (Nat × List UInt8):=(0,bC) :: (0,L.name) :: (2,[59]) :: (L.bodies.flatMap ld ++ (L.joints.flatMap (ip L.bodies) ++ L.drivers.flatMap (fB L.bodies)))
theorem rC {bs:List aj}{i j:Nat}{b:aj}{m:au}(hb:bs[i]?=some b) (hm:b.pts[j]?=some m):lf bs (i:Nat) (j:Nat)=[(0,b.name),(2,[46]),(0,m.name)]:=by
 unfold lf;show (match bs[i]? with | some b=>(match b.pts[j]? with | some m=>[(0,b.name),(2,[46]),(0,m.name)] | none=>[]) | none=>[])=_;rw [hb];show (match b.pts[j]? with | some m=>[(0,b.name),(2,[46]),(0,m.name)] | none=>[])=_;rw [hm]
/-! Splitting. -/
theorem fF {p:UInt8→Prop}{c:UInt8}{t:List UInt8}(h:p c):∀ c' t',c :: t=c' :: t'→p c':=fun c' t' e=>by injection e with e _;subst e;exact h
def MkN (m:au):Prop:=(aG m.x.q).length≤60∧(aG m.y.q).length≤60
theorem Spl.mark {m:au}{s:List UInt8}{K:List (Nat × List UInt8)}(hm:aZ m.name=true) (hn:MkN m) (h:Spl s K):Spl (ba m ++ s) (ju m ++ K):=by
 unfold ba ju;simp only [List.cons_append,List.append_assoc,List.nil_append];exact .blank (.word hm (fF (by decide)) (.blank (.num hn.1 (fF (.inl rfl)) (.blank (.num hn.2 (fF (.inr rfl)) (.sign (by decide) h))))))
theorem Spl.marks {s:List UInt8}{K:List (Nat × List UInt8)}(h:Spl s K):∀ {l:List au},(∀ m∈l,aZ m.name=true∧MkN m)→Spl (l.flatMap ba ++ s) (l.flatMap ju ++ K)
 | [],_=>h
 | m :: l,hl=>by
  rw [List.flatMap_cons,List.flatMap_cons,List.append_assoc,List.append_assoc];have:=hl m (by simp);exact .mark this.1 this.2 (Spl.marks h fun x hx=>hl x (by simp [hx]))
theorem Spl.body {b:aj}{s:List UInt8}{K:List (Nat × List UInt8)}(hb:aZ b.name=true) (hp:∀ m∈b.pts,aZ m.name=true∧MkN m) (h:Spl s K):Spl (fc b ++ s) (ld b ++ K):=by
 unfold fc ld;simp only [List.cons_append,List.append_assoc,List.nil_append];have hm:Spl (b.pts.flatMap ba ++ 32 :: 125 :: s) (b.pts.flatMap ju ++ (2,[125]) :: K):=Spl.marks (.blank (.sign (by decide) h)) hp;exact Spl.word (x:=kP) (by decide) (fF (by decide)) (.blank (.word hb (fF (by decide)) (.blank (.sign (by decide) hm))))
theorem Spl.full {bs:List aj}{i j:Nat}{b:aj}{m:au}(hb:bs[i]?=some b) (hm:b.pts[j]?=some m) (n1:aZ b.name=true) (n2:aZ m.name=true) {s:List UInt8}{K:List (Nat × List UInt8)}(hs:∀ c t,s=c :: t→aY c=false) (h:Spl s K):Spl (fE bs (i:Nat) (j:Nat) ++ s) (lf bs (i:Nat) (j:Nat) ++ K):=by
 rw [kh hb hm,rC hb hm];simp only [List.cons_append,List.append_assoc,List.nil_append];exact .word n1 (fF (by decide)) (.sign (by decide) (.word n2 hs h))
theorem Spl.joint {bs:List aj}(hB:∀ b∈bs,BdF b) {j:aK}(hn:aZ j.name=true) (hj:kf bs j) {s:List UInt8}{K:List (Nat × List UInt8)}(h:Spl s K):Spl (aJ bs j ++ s) (ip bs j ++ K):=by
 obtain ⟨_,a,b,p,o,x,y,m1,m2,ea,eb,ep,eo,hx,hy,hm1,hm2,hk⟩:=hj;have bx:=hB x (List.mem_of_getElem? hx);have by_:=hB y (List.mem_of_getElem? hy);have n1:=(bx.pts m1 (List.mem_of_getElem? hm1)).name;have n2:=(by_.pts m2 (List.mem_of_getElem? hm2)).name;unfold aJ ip cK;rcases hk with ⟨k0,_⟩ | ⟨k1,t,m3,et,hm3⟩
 ·rw [if_neg (by omega),if_neg (by omega),if_neg (by omega),ea,eb,ep,eo]
  simp only [fC,List.cons_append,List.append_assoc,List.nil_append];exact Spl.word (x:=sN) (by decide) (fF (by decide)) (.blank (.word hn (fF (by decide)) (.blank (.full hx hm1 bx.name n1 (fF (by decide)) (.blank (.full hy hm2 by_.name n2 (fF (by decide)) (.sign (by decide) (.line h))))))))
 have n3:=(by_.pts m3 (List.mem_of_getElem? hm3)).name;rw [if_pos k1,if_pos k1,if_pos k1,ea,eb,ep,eo,et];simp only [fC,List.cons_append,List.append_assoc,List.nil_append];exact Spl.word (x:=jR) (by decide) (fF (by decide)) (.blank (.word hn (fF (by decide)) (.blank (.full hx hm1 bx.name n1 (fF (by decide)) (.blank (.full hy hm2 by_.name n2 (fF (by decide)) (.blank (.full hy hm3 by_.name n3 (fF (by decide)) (.sign (by decide) (.line h))))))))))
theorem Spl.driver {bs:List aj}(hB:∀ b∈bs,BdF b) {d:aQ}(hn:aZ d.name=true) (hd:je bs d) {s:List UInt8}{K:List (Nat × List UInt8)}(h:Spl s K):Spl (aR bs d ++ s) (fB bs d ++ K):=by
 obtain ⟨_,i,b,ei,hb⟩:=hd;have bb:=hB b (List.mem_of_getElem? hb);unfold aR fB;rw [ei,mQ hb];simp only [List.cons_append,List.append_assoc,List.nil_append];exact Spl.word (x:=gG) (by decide) (fF (by decide)) (.blank (.word hn (fF (by decide)) (.blank (.word bb.name (fF (by decide)) (.sign (by decide) (.line h))))))
theorem Spl.list {α:Type}{f:α→List UInt8}{g:α→List (Nat × List UInt8)}{s:List UInt8}{K:List (Nat × List UInt8)}(h:Spl s K):∀ {l:List α},(∀ a∈l,∀ s K,Spl s K→Spl (f a ++ s) (g a ++ K))→Spl (l.flatMap f ++ s) (l.flatMap g ++ K)
 | [],_=>h
 | a :: l,hl=>by
  rw [List.flatMap_cons,List.flatMap_cons,List.append_assoc,List.append_assoc];exact hl a (by simp) _ _ (Spl.list h fun x hx=>hl x (by simp [hx]))
theorem vG {l:List aj}(h:fQ l≠true):∀ b∈l,∀ m∈b.pts,MkN m:=by
 intro b hb m hm
 have h1:¬ fD m=true:=fun h2=>h (by
  unfold fQ;rw [List.any_eq_true]
  exact ⟨b,hb,List.any_eq_true.2 ⟨m,hm,h2⟩⟩)
 unfold fD at h1;simp only [Bool.or_eq_true,decide_eq_true_eq,not_or] at h1;exact ⟨by omega,by omega⟩
theorem Spl.out {s:List UInt8}{K:List (Nat × List UInt8)}(h:Spl s K) (hl:s.length≤65536):∃ l,bh s 0 l∧kt l=K:=by
 have h1:=h 1 1;have e:tk s 1 1=dV s:=rfl;rw [e] at h1
 cases ht:dV s with
 | err x=>rw [ht] at h1;cases h1
 | ok l =>
  rw [ht] at h1;injection h1 with h1;exact ⟨l,.ok hl ht rfl,h1⟩
/-! Reading. -/
theorem AtK.mark {s:PS}{m:au}{K:List (Nat × List UInt8)}{L:ai}(h:AtK s (ju m ++ K) L) (hn:MkN m) (hF:MkF m) (hW:MkW m):s.mark.1=m∧AtK s.mark.2 K L:=by
 obtain ⟨e1,h1⟩:=AtK.word h;obtain ⟨vx,vq⟩:=rB hn.1;obtain ⟨wx,wq⟩:=rB hn.2;obtain ⟨e2,h2⟩:=h1.number vx;obtain ⟨e3,h3⟩:=h2.number wx;unfold PS.mark;refine ⟨?_,h3.expect⟩;rw [e1,e2,e3,vq,wq,fH hW.1.1 hW.1.2 hF.x,fH hW.2.1 hW.2.2 hF.y]
theorem AtK.marks:∀ {l:List au}{f:Nat}{s:PS}{p:List au}{K:List (Nat × List UInt8)}{L:ai},(∀ m∈l,MkN m∧MkF m∧MkW m)→l.length < f→AtK s (l.flatMap ju ++ (2,[125]) :: K) L→(PS.marks f s p).1=p ++ l∧AtK (PS.marks f s p).2 K L
 | [],f,s,p,K,L,_,hf,h=>by
  have hs:s.signHead=true:=by
   obtain ⟨u,r,e,e1,_,_⟩:=AtK.head (k:=2) (t:=[125]) (K:=K) h;unfold PS.signHead;rw [e];show (u.kind == 2)=true;rw [e1];rfl
  rw [gH (by omega) h.x hs];exact ⟨by simp,AtK.expect h⟩
 | m :: l,f,s,p,K,L,hl,hf,h=>by
  rw [List.flatMap_cons,List.append_assoc] at h
  have hs:s.signHead=false:=by
   obtain ⟨u,r,e,e1,_,_⟩:=AtK.head (k:=0) (t:=m.name) h;unfold PS.signHead;rw [e];show (u.kind == 2)=false;rw [e1];rfl
  rw [List.length_cons] at hf;rw [dY (by omega) h.x hs];obtain ⟨h1,h2,h3⟩:=hl m (by simp);obtain ⟨e1,h4⟩:=AtK.mark h h1 h2 h3;obtain ⟨e2,h5⟩:=AtK.marks (l:=l) (f:=f - 1) (p:=p ++ [s.mark.1]) (fun x hx=>hl x (by simp [hx])) (by omega) h4;refine ⟨?_,h5⟩;rw [e2,e1];simp
theorem qC (l:List Tkn):(kt l).length=l.length:=by unfold kt;simp
theorem li:∀ (l:List au),l.length≤(l.flatMap ju).length
 | []=>by simp
 | m :: l=>by
  have:=li l;rw [List.flatMap_cons,List.length_append,List.length_cons];show _≤4+_;omega
theorem AtK.body {s:PS}{b:aj}{K:List (Nat × List UInt8)}{L:ai}(h:AtK s ((0,b.name) :: (2,[123]) :: (b.pts.flatMap ju ++ (2,[125]) :: K)) L) (hb:∀ m∈b.pts,MkN m∧MkF m∧MkW m):s.body.1=b∧AtK s.body.2 K L:=by
 have hlen:b.pts.length < s.toks.length+1:=by
  have h1:=congrArg List.length h.k;rw [qC] at h1;have:=li b.pts;simp only [List.length_cons,List.length_append] at h1;omega
 obtain ⟨e1,h1⟩:=h.word;obtain ⟨e2,h2⟩:=AtK.marks (p:=[]) hb hlen h1.expect;refine ⟨?_,h2⟩;show (⟨s.word.1,(PS.marks (s.toks.length+1) (s.word.2.expect 2 [123]) []).1⟩:aj)=b;rw [e1,e2];rfl
theorem gU {α:Type}{nm:α→List UInt8}{l:List α}(hd:∀ {i j:Nat}{a b:α},l[i]?=some a→l[j]?=some b→nm a=nm b→i=j) {i:Nat}{a:α}(ha:l[i]?=some a):l.findIdx? (fun b=>nm b == nm a)=some i:=by
 obtain ⟨hi,e⟩:=List.getElem?_eq_some_iff.1 ha;rw [List.findIdx?_eq_some_iff_getElem];refine ⟨hi,by rw [e];simp,fun j hj=>?_⟩;intro h;have h2:nm l[j]=nm a:=by simpa using h
 have:=hd (List.getElem?_eq_getElem (by omega:j < l.length)) ha h2;omega
theorem AtK.named {s:PS}{K:List (Nat × List UInt8)}{L:ai}{nm:List UInt8}{i:Nat}{only:Int}(h:AtK s ((0,nm) :: K) L) (hf:gZ L.bodies nm=some i) (ho:only < 0∨only=(i:Int)):(s.named only).1=(i:Int)∧AtK (s.named only).2 K L:=by
 obtain ⟨e1,h1⟩:=h.word;unfold PS.named;simp only;rw [if_neg (by rw [h1.x];simp),e1,h1.l,hf];show (i:Int)=(i:Int)∧AtK (if 0≤only∧(i:Int)≠only then s.word.2.fail 7 else s.word.2) K L;rw [if_neg (by rcases ho with h | h;omega;rw [h];simp)];exact ⟨rfl,h1⟩
theorem AtK.full {s:PS}{K:List (Nat × List UInt8)}{L:ai}{i j:Nat}{b:aj}{m:au}{only:Int}(hb:L.bodies[i]?=some b) (hm:b.pts[j]?=some m) (h:AtK s (lf L.bodies (i:Nat) (j:Nat) ++ K) L) (hf:gZ L.bodies b.name=some i) (hg:kO b.pts m.name=some j) (ho:only < 0∨only=(i:Int)):(s.full only).1=(i:Int)∧(s.full only).2.1=(j:Int)∧AtK (s.full only).2.2 K L:=by
 rw [rC hb hm] at h;obtain ⟨e1,h1⟩:=AtK.named (K:=(2,[46]) :: (0,m.name) :: K) h hf ho;obtain ⟨e2,h2⟩:=h1.expect.word;unfold PS.full;simp only;rw [if_neg (by rw [h2.x];simp),e1,e2,h2.l,kg (n:=i) rfl hb,hg];exact ⟨rfl,rfl,h2⟩
theorem AtK.addJ {s:PS}{K:List (Nat × List UInt8)}{L:ai}(h:AtK s K L) (j:aK):AtK (s.addJ j) K { L with joints:=L.joints ++ [j] }:=⟨h.x,h.k,by
 show ({ s.L with joints:=s.L.joints ++ [j] }:ai)=_
 rw [h.l]⟩
theorem AtK.joint {s:PS}{K:List (Nat × List UInt8)}{L:ai}(hB:∀ b∈L.bodies,BdF b) (hd:∀ {i j:Nat}{a b:aj},L.bodies[i]?=some a→L.bodies[j]?=some b→a.name=b.name→i=j) {j:aK}(hj:kf L.bodies j) (h:AtK s (ip L.bodies j ++ K) L):AtK s.item K { L with joints:=L.joints ++ [j] }:=by
 obtain ⟨_,a,b,p,o,x,y,m1,m2,ea,eb,ep,eo,hx,hy,hm1,hm2,hk⟩:=hj;have bx:=hB x (List.mem_of_getElem? hx);have by_:=hB y (List.mem_of_getElem? hy);have fx:gZ L.bodies x.name=some a:=gU (nm:=aj.name) hd hx;have fy:gZ L.bodies y.name=some b:=gU (nm:=aj.name) hd hy;have g1:kO x.pts m1.name=some p:=gU (nm:=au.name) bx.dist hm1;have g2:kO y.pts m2.name=some o:=gU (nm:=au.name) by_.dist hm2;unfold ip at h;rcases hk with ⟨k0,t0⟩ | ⟨k1,t,m3,et,hm3⟩
 ·rw [if_neg (by omega),if_neg (by omega),ea,eb,ep,eo] at h
  simp only [List.cons_append,List.append_assoc,List.nil_append] at h;obtain ⟨e0,h0⟩:=h.word;obtain ⟨e1,h1⟩:=h0.word;obtain ⟨e2,e3,h2⟩:=AtK.full (only:=-1) hx hm1 h1 fx g1 (.inl (by decide));obtain ⟨e4,e5,h3⟩:=AtK.full (only:=-1) hy hm2 h2 fy g2 (.inl (by decide));unfold PS.item;simp only;rw [e0,if_neg (by decide),if_pos rfl];unfold PS.joint;simp only [Bool.false_eq_true,if_false]
  have hj:(⟨j.name,0,(a:Int),(p:Int),(b:Int),(o:Int),0⟩:aK)=j:=by
   obtain ⟨jn,jk,ja,jp,jb,jo,jt⟩:=j;simp only at ea eb ep eo k0 t0;subst ea eb ep eo k0 t0;rfl
  rw [e1,e2,e3,e4,e5,hj];exact h3.expect.addJ j
 have g3:kO y.pts m3.name=some t:=gU (nm:=au.name) by_.dist hm3;rw [if_pos k1,if_pos k1,ea,eb,ep,eo,et] at h;simp only [List.cons_append,List.append_assoc,List.nil_append] at h;obtain ⟨e0,h0⟩:=h.word;obtain ⟨e1,h1⟩:=h0.word;obtain ⟨e2,e3,h2⟩:=AtK.full (only:=-1) hx hm1 h1 fx g1 (.inl (by decide));obtain ⟨e4,e5,h3⟩:=AtK.full (only:=-1) hy hm2 h2 fy g2 (.inl (by decide));obtain ⟨e6,e7,h4⟩:=AtK.full (only:=(b:Int)) hy hm3 h3 fy g3 (.inr rfl);unfold PS.item;simp only;rw [e0,if_neg (by decide),if_neg (by decide),if_pos rfl];unfold PS.joint;simp only [if_true]
 have hj:(⟨j.name,1,(a:Int),(p:Int),(b:Int),(o:Int),(t:Int)⟩:aK)=j:=by
  obtain ⟨jn,jk,ja,jp,jb,jo,jt⟩:=j;simp only at ea eb ep eo k1 et;subst ea eb ep eo k1 et;rfl
 rw [e4,e1,e2,e3,e5,e7,hj];exact h4.expect.addJ j
theorem AtK.driver {s:PS}{K:List (Nat × List UInt8)}{L:ai}(hd:∀ {i j:Nat}{a b:aj},L.bodies[i]?=some a→L.bodies[j]?=some b→a.name=b.name→i=j) {d:aQ}(hj:je L.bodies d) (h:AtK s (fB L.bodies d ++ K) L):AtK s.item K { L with drivers:=L.drivers ++ [d] }:=by
 obtain ⟨_,i,b,ei,hb⟩:=hj;have fb:gZ L.bodies b.name=some i:=gU (nm:=aj.name) hd hb;unfold fB at h;rw [ei,mQ hb] at h;simp only [List.cons_append,List.nil_append] at h;obtain ⟨e0,h0⟩:=h.word;obtain ⟨e1,h1⟩:=h0.word;obtain ⟨e2,h2⟩:=AtK.named (only:=-1) h1 fb (.inl (by decide));unfold PS.item;simp only;rw [e0,if_neg (by decide),if_neg (by decide),if_neg (by decide),if_pos rfl];unfold PS.driver;simp only;refine ⟨h2.expect.x,h2.expect.k,?_⟩;show ({ (PS.expect _ 2 [59]).L with drivers:=_ }:ai)=_;rw [h2.expect.l,e1,e2];obtain ⟨dn,db⟩:=d;simp only at ei;subst ei;rfl
theorem AtK.bodyI {s:PS}{K:List (Nat × List UInt8)}{L:ai}{b:aj}(hb:∀ m∈b.pts,MkN m∧MkF m∧MkW m) (h:AtK s (ld b ++ K) L):AtK s.item K { L with bodies:=L.bodies ++ [b] }:=by
 unfold ld at h;simp only [List.cons_append,List.append_assoc,List.nil_append] at h;obtain ⟨e0,h0⟩:=h.word;obtain ⟨e1,h1⟩:=AtK.body h0 hb;unfold PS.item;simp only;rw [e0,if_pos rfl];refine ⟨h1.x,h1.k,?_⟩;show ({ s.word.2.body.2.L with bodies:=_ }:ai)=_;rw [h1.l,e1]
def iq (s:PS) (L:ai):Prop:=∀ f,s.toks.length < f→(PS.items f s).x=0∧(PS.items f s).L=L
theorem iq.nil {s:PS}{L:ai}(h:AtK s [] L):iq s L:=fun f _=>by
 have e:s.toks=[]:=List.eq_nil_of_length_eq_zero (by have:=congrArg List.length h.k;rw [qC] at this;simpa using this);rw [mh (by rw [e];simp)];exact ⟨h.x,h.l⟩
theorem iq.step {s:PS}{p:Nat × List UInt8}{K K':List (Nat × List UInt8)}{M M' L:ai}(h:AtK s (p :: K) M) (h':AtK s.item K' M') (k:iq s.item L):iq s L:=fun f hf=>by
 obtain ⟨u,r,e,_,_,_⟩:=AtK.head (k:=p.1) (t:=p.2) h;have h1:=(oW s).2 h'.x;rw [kR (by omega) ⟨h.x,by rw [e];simp⟩];exact k _ (by omega)
theorem iq.list {α:Type}{g:α→List (Nat × List UInt8)}(add:ai→α→ai) (P:ai→Prop) {K:List (Nat × List UInt8)}{L:ai}:∀ (l:List α) (s:PS) (M:ai),(∀ a∈l,∃ p q,g a=p :: q)→(∀ a∈l,∀ s K M,P M→AtK s (g a ++ K) M→AtK s.item K (add M a)∧P (add M a))→P M→(∀ s,AtK s K (l.foldl add M)→P (l.foldl add M)→iq s L)→AtK s (l.flatMap g ++ K) M→iq s L
 | [],s,M,_,_,hp,hk,h=>hk s h hp
 | a :: l,s,M,hne,hs,hp,hk,h=>by
  rw [List.flatMap_cons,List.append_assoc] at h;obtain ⟨h1,h2⟩:=hs a (by simp) s _ M hp h;obtain ⟨p,q,e⟩:=hne a (by simp);rw [e,List.cons_append] at h;exact iq.step h h1 (iq.list add P l s.item (add M a) (fun x hx=>hne x (by simp [hx])) (fun x hx=>hs x (by simp [hx])) h2 hk h1)
theorem zr (l:List aj):∀ M:ai,l.foldl (fun M b=>{ M with bodies:=M.bodies ++ [b] }) M={ M with bodies:=M.bodies ++ l }:=by
 induction l with
 | nil=>intro M;simp
 | cons a l ih=>intro M;rw [List.foldl_cons,ih];simp
theorem zt (l:List aK):∀ M:ai,l.foldl (fun M b=>{ M with joints:=M.joints ++ [b] }) M={ M with joints:=M.joints ++ l }:=by
 induction l with
 | nil=>intro M;simp
 | cons a l ih=>intro M;rw [List.foldl_cons,ih];simp
theorem zu (l:List aQ):∀ M:ai,l.foldl (fun M b=>{ M with drivers:=M.drivers ++ [b] }) M={ M with drivers:=M.drivers ++ l }:=by
 induction l with
 | nil=>intro M;simp
 | cons a l ih=>intro M;rw [List.foldl_cons,ih];simp
theorem sW {l:List Tkn}{L:ai}(hk:kt l=lh L) (hF:LkF L) (hW:LkW L) (h60:fQ L.bodies≠true):(cV l).x=0∧(cV l).L=L:=by
 have hN:=vG h60;have h0:AtK (⟨l,L0,0⟩:PS) (lh L) L0:=⟨rfl,hk,rfl⟩;unfold lh at h0;obtain ⟨e1,h1⟩:=h0.expect.word;unfold cV;simp only
 have h2:AtK ({ (((⟨l,L0,0⟩:PS).expect 0 bC).word.2) with L:={ (((⟨l,L0,0⟩:PS).expect 0 bC).word.2).L with name:=(((⟨l,L0,0⟩:PS).expect 0 bC).word.1) } }:PS) ((2,[59]) :: (L.bodies.flatMap ld ++ (L.joints.flatMap (ip L.bodies) ++ L.drivers.flatMap (fB L.bodies)))) ⟨L.name,[],[],[]⟩:=⟨h1.x,h1.k,by
  show ({ (((⟨l,L0,0⟩:PS).expect 0 bC).word.2).L with name:=(((⟨l,L0,0⟩:PS).expect 0 bC).word.1) }:ai)=_
  rw [h1.l,e1];rfl⟩
 have h3:=h2.expect
 have hl:(({ (((⟨l,L0,0⟩:PS).expect 0 bC).word.2) with L:={ (((⟨l,L0,0⟩:PS).expect 0 bC).word.2).L with name:=(((⟨l,L0,0⟩:PS).expect 0 bC).word.1) } }:PS).expect 2 [59]).toks.length < l.length+1:=by
  have a1:=congrArg List.length h3.k;have a2:=congrArg List.length hk;unfold lh at a2;rw [qC] at a1 a2;rw [a1,a2];simp only [List.length_cons];omega
 generalize ({ (((⟨l,L0,0⟩:PS).expect 0 bC).word.2) with L:={ (((⟨l,L0,0⟩:PS).expect 0 bC).word.2).L with name:=(((⟨l,L0,0⟩:PS).expect 0 bC).word.1) } }:PS).expect 2 [59]=s at h3 hl ⊢
 have key:iq s L:=by
  refine iq.list (g:=ld) (fun M b=>{ M with bodies:=M.bodies ++ [b] }) (fun _=>True) L.bodies s _ (fun b _=>⟨_,_,rfl⟩) (fun b hb s K M _ h=>⟨AtK.bodyI (fun m hm=>⟨hN b hb m hm,(hF.body b hb).pts m hm,hW b hb m hm⟩) h,trivial⟩) trivial (fun s h _=>?_) h3;rw [zr,List.nil_append] at h;refine iq.list (g:=ip L.bodies) (fun M b=>{ M with joints:=M.joints ++ [b] }) (fun M=>M.bodies=L.bodies) L.joints s ⟨L.name,L.bodies,[],[]⟩ (fun b _=>⟨_,_,rfl⟩) (fun j hj s K M hM h=>⟨?_,hM⟩) rfl (fun s h hM=>?_) h
  ·rw [← hM] at h
   exact AtK.joint (by rw [hM];exact hF.body) (by rw [hM];exact hF.dist) (by rw [hM];exact hF.ok.joint j hj) h
  rw [zt,List.nil_append] at h;rw [← List.append_nil (L.drivers.flatMap _)] at h;refine iq.list (g:=fB L.bodies) (fun M b=>{ M with drivers:=M.drivers ++ [b] }) (fun M=>M.bodies=L.bodies) L.drivers s ⟨L.name,L.bodies,L.joints,[]⟩ (fun b _=>⟨_,_,rfl⟩) (fun d hd s K M hM h=>⟨?_,hM⟩) rfl (fun s h _=>?_) h
  ·rw [← hM] at h
   exact AtK.driver (by rw [hM];exact hF.dist) (by rw [hM];exact hF.ok.driver d hd) h
  rw [zu,List.nil_append] at h;exact iq.nil h
 exact key _ hl
def plT (t:Tkn):Tkn:=⟨t.kind,t.text,0,0⟩
def PS.st (s:PS):PS:={ s with toks:=s.toks.map plT }
structure zv where
  a:Nat
  s:Nat
  T:TypeId
  Z:Array Value
  PS:Array Value→World→Prop
structure xK where
  g:Nat
  s:Nat
  o:Nat
  T:TypeId
  Z:Array Value
  PS:Array Value→World→Prop
def BL (ops:Array Oper) (fr:(Nat→Value)→Act) (R:Nat→Value→World→Prop) (es:List zv) (ow:List xK) (B:Nat) (W:World) (L:Array Bool) (a:Act) (w:World):Prop :=
  ∃ x,a=fr x∧(Below B W w∧Below B W w)∧(∀ i,L.getD i false=true→R i (x i) w) ∧
  (∀ i o,ops[i]?=some o→L.getD i false=true→∀ e∈o.after,Region.binds .any e=true→L.getD e.on false=true) ∧
  (∀ f∈es,L.getD f.a false=true→∃ g c,x f.a=.pointer (some ⟨g,0,none⟩)∧W.heap.size≤g∧Blk w g f.T c∧(L.getD f.s false=false→c=f.Z)∧(L.getD f.s false=true→f.PS c w)) ∧
  (∀ f∈es,∀ f'∈es,f.a≠f'.a→L.getD f.a false=true→L.getD f'.a false=true→x f.a≠x f'.a) ∧
  (∀ f∈ow,∃ c,Blk w f.g f.T c∧(L.getD f.s false=false→c=f.Z)∧(L.getD f.s false=true→f.PS c w))

section
variable (P:Program) (ops:Array Oper) (Q:Exit→Act→World→Prop) (fr:(Nat→Value)→Act) (R:Nat→Value→World→Prop) (es:List zv) (ow:List xK) (B:Nat) (W:World)
def vH (i:Nat) (o:Oper):Prop:=(∀ f∈es,i≠f.a∧i≠f.s)∧(∀ f∈ow,i≠f.s) ∧
  ∀ x w,Below B W w→(∀ f∈ow,(∀ o',ops[f.s]?=some o'→∃ e∈o'.after,Region.binds .any e=true∧e.on=i)→Blk w f.g f.T f.Z)→(∀ e∈o.after,Region.binds .any e=true→R e.on (x e.on) w)→∀ K':Act→World→Prop,Shut (∀ v w',R i v w'→Below w.heap.size w w'→K' ((fr x).put o.dst v) w') →
    if Region.wanted o (yielded ops (fr x).tmps)=true then Oper.wp P o (fr x) w K' Q else K' ((fr x).put o.dst undef) w
def qD (i:Nat) (o:Oper):Prop:=∃ f∈es,i=f.a∧(∀ f'∈es,i≠f'.s)∧(∀ f'∈ow,i≠f'.s)∧(∀ f'∈es,f'.a=i→f'=f)∧(∀ v w,R i v w) ∧
  ∀ x w,∀ K':Act→World→Prop,Shut (K' ((fr x).put o.dst (.pointer (some ⟨w.heap.size,0,none⟩))) (w.alloc (.cells f.Z f.T))) →
    if Region.wanted o (yielded ops (fr x).tmps)=true then Oper.wp P o (fr x) w K' Q else K' ((fr x).put o.dst undef) w
def qE (i:Nat) (o:Oper):Prop:=∃ f∈es,i=f.s∧(∀ f'∈es,i≠f'.a)∧(∀ f'∈ow,i≠f'.s)∧(∀ f'∈es,f'.s=i→f'=f)∧(∀ f'∈es,f'.a=f.a→f'=f)∧True∧(∀ v w,R i v w)∧(∃ e∈o.after,Region.binds .any e=true∧e.on=f.a) ∧
  ∀ x w g,x f.a=.pointer (some ⟨g,0,none⟩)→Blk w g f.T f.Z→(∀ e∈o.after,Region.binds .any e=true→R e.on (x e.on) w) →
    ∃ us,(∀ w',Below B w w'→f.PS (wV f.Z 0 us) w')∧∀ K':Act→World→Prop,Shut (∀ v,K' ((fr x).put o.dst v) (dl w g 0 us)) →
      if Region.wanted o (yielded ops (fr x).tmps)=true then Oper.wp P o (fr x) w K' Q else K' ((fr x).put o.dst undef) w
def vI (i:Nat) (o:Oper):Prop:=∃ f∈ow,i=f.s∧(∀ f'∈es,i≠f'.a∧i≠f'.s)∧(∀ f'∈ow,f'.s=i→f'=f)∧True∧(∀ v w,R i v w) ∧
  ∀ x w,Blk w f.g f.T f.Z→(∀ e∈o.after,Region.binds .any e=true→R e.on (x e.on) w) →
    ∃ us,(∀ w',Below B w w'→f.PS (wV f.Z f.o us) w')∧∀ K':Act→World→Prop,Shut (∀ v,K' ((fr x).put o.dst v) (dl w f.g f.o us)) →
      if Region.wanted o (yielded ops (fr x).tmps)=true then Oper.wp P o (fr x) w K' Q else K' ((fr x).put o.dst undef) w
end
section
variable {P:Program}{ops:Array Oper}{Q:Exit→Act→World→Prop}{fr:(Nat→Value)→Act}{R:Nat→Value→World→Prop}{es:List zv}{ow:List xK}{B:Nat}
theorem lD {id:Nat}{w:World}{x0:Nat→Value}(hm:P.follows .mixedOrders=true)
 (hput:∀ i o,ops[i]?=some o→∀ x v,(fr x).put o.dst v=fr (upd x i v))
 (hac:∀ i o,ops[i]?=some o→∀ e∈o.after,Region.binds .any e=true→e.on < i)
 (hR:∀ i v w w',R i v w→Below B w w'→R i v w')
 (hPS:∀ f∈es,∀ c w w',f.PS c w→Below B w w'→f.PS c w')
 (hPO:∀ f∈ow,∀ c w w',f.PS c w→Below B w w'→f.PS c w')
 (hfs:∀ f∈es,f.a < ops.size∧f.s < ops.size)
 (hB:B≤w.heap.size)
 (hO:∀ f∈ow,Blk w f.g f.T f.Z∧B≤f.g)
 (hOd:∀ f∈ow,∀ f'∈ow,f.g=f'.g→f=f')
 (hstep:∀ i o,ops[i]?=some o→vH P ops Q fr R es ow B w i o∨qD P ops Q fr R es ow i o∨qE P ops Q fr R es ow B i o∨vI P ops Q fr R es ow B i o)
 (hend:∀ x w',Below B w w'→Below B w w'→w.heap.size≤w'.heap.size→(∀ f∈ow,∃ c,Blk w' f.g f.T c∧(ops.size≤f.s→c=f.Z)∧(f.s < ops.size→f.PS c w'))→(∀ i,i < ops.size→R i (x i) w')→(∀ f∈es,∃ g c,x f.a=.pointer (some ⟨g,0,none⟩)∧w.heap.size≤g∧Blk w' g f.T c∧f.PS c w')→(∀ f∈es,∀ f'∈es,f.a≠f'.a→x f.a≠x f'.a)→Q .normal (fr x) w') :
 (Code.region id ops true).wp P Q (fr x0) w:=by
 refine wp_region_any hm (jH (fun L a w'=>w.heap.size≤w'.heap.size∧BL ops fr R es ow B w L a w') ?_ ?_ _ _ _ _ (by simp) ?_ ?_)
 ·rintro L a w1 i hs hi ⟨hsz,x,rfl,⟨hkW,hb⟩,hr,hcl,hf,hd,how⟩
  obtain ⟨hun,o,ho,hall⟩:=mem_ready.1 hi
  have hlt:i < L.size:=by
   rcases Nat.lt_or_ge i L.size with h | h
   ·exact h
   rw [Array.getD_eq_getD_getElem?,Array.getElem?_eq_none h] at hun;cases hun
  have hunf:L.getD i false=false:=by
   rw [Array.getD_eq_getD_getElem?,Array.getElem?_eq_getElem hlt] at hun ⊢;exact hun
  have hdep:∀ e∈o.after,Region.binds .any e=true→R e.on (x e.on) w1:=fun e he hbd=>hr _ (hall e he hbd)
  have hcl':∀ i' o',ops[i']?=some o'→(L.setIfInBounds i true).getD i' false=true→∀ e∈o'.after,Region.binds .any e=true→(L.setIfInBounds i true).getD e.on false=true:=by
   intro i' o' ho' hl e he hbd;rw [ax hlt] at hl ⊢;by_cases h:i'=i
   ·subst h;rw [ho] at ho';injection ho' with ho';subst ho'
    rw [hall e he hbd];simp
   have:L.getD i' false=true:=by simpa [h] using hl
   rw [hcl i' o' ho' this e he hbd];simp
  refine wpOp_step ho fun K' hK=>?_
  have hsno:∀ f∈ow,(∀ o',ops[f.s]?=some o'→∃ e∈o'.after,Region.binds .any e=true∧e.on=i)→Blk w1 f.g f.T f.Z:=by
   intro f hfo hdd;obtain ⟨c,c1,c2,_⟩:=how f hfo
   have:L.getD f.s false=false:=by
    cases h:L.getD f.s false
    ·rfl
    exfalso
    have hlt2:f.s < ops.size:=by
     rcases Nat.lt_or_ge f.s L.size with h2 | h2
     ·omega
     rw [Array.getD_eq_getD_getElem?,Array.getElem?_eq_none h2] at h;cases h
    obtain ⟨e,he,hbd,hea⟩:=hdd _ (Array.getElem?_eq_getElem hlt2);have:=hcl f.s _ (Array.getElem?_eq_getElem hlt2) h e he hbd;rw [hea,hunf] at this;cases this
   rw [← c2 this];exact c1
  have howk:∀ w',Below B w1 w'→(∀ g t c,Blk w1 g t c→(∃ f∈ow,f.g=g)→Blk w' g t c)→(∀ f∈ow,i≠f.s)→∀ f∈ow,∃ c,Blk w' f.g f.T c∧((L.setIfInBounds i true).getD f.s false=false→c=f.Z)∧((L.setIfInBounds i true).getD f.s false=true→f.PS c w'):=by
   intro w' hkp hbl hne f hfo;obtain ⟨c,c1,c2,c3⟩:=how f hfo;have n2:=hne f hfo;refine ⟨c,hbl _ _ _ c1 ⟨f,hfo,rfl⟩,fun h=>c2 ?_,fun h=>hPO f hfo _ _ _ (c3 ?_) hkp⟩
   ·rw [ax hlt] at h;simpa [Ne.symm n2] using h
   rw [ax hlt] at h;simpa [Ne.symm n2] using h
  rcases hstep i o ho with ⟨hno,hnow,hv⟩ | ⟨f,hf1,rfl,hnos,hnow,huniq,hRi,hv⟩ | ⟨f,hf1,rfl,hnoa,hnow,huniq,huniqa,hT,hRi,⟨e,he,hbd,hea⟩,hv⟩ | ⟨f,hf1,rfl,hnoe,huniq,hT,hRi,hv⟩
  ·refine hv x w1 hkW hsno hdep K' (fun v w' hRv hbw=>hK _ _ ?_)
   have hkp:Below B w1 w':=(hbw.mono (Nat.le_trans hB hsz));refine ⟨Nat.le_trans hsz hbw.size,upd x i v,hput i o ho x v,⟨hkW.trans hkp,hb.trans (hbw.mono (Nat.le_trans hB hsz))⟩,fun j hj=>?_,hcl',fun f hfe hfa=>?_,fun f hfe f' hfe' hne h1 h2=>?_,howk w' hkp (fun g t c h _=>h.below hbw h.lt) hnow⟩
   ·by_cases h:j=i
    ·subst h;rw [eX];exact hRv
    rw [bm _ _ h];rw [ax hlt] at hj;exact hR _ _ _ _ (hr j (by simpa [h] using hj)) hkp
   ·rw [ax hlt] at hfa
    have n1:=(hno f hfe).1;have n2:=(hno f hfe).2;rw [bm _ _ (Ne.symm n1)];obtain ⟨g,c,e1,e2,e3,e4,e5⟩:=hf f hfe (by simpa [Ne.symm n1] using hfa);refine ⟨g,c,e1,e2,e3.below hbw e3.lt,fun h=>e4 ?_,fun h=>hPS f hfe _ _ _ (e5 ?_) hkp⟩
    ·rw [ax hlt] at h;simpa [Ne.symm n2] using h
    rw [ax hlt] at h;simpa [Ne.symm n2] using h
   rw [ax hlt] at h1 h2;have n1:=(hno f hfe).1;have n2:=(hno f' hfe').1;rw [bm _ _ (Ne.symm n1),bm _ _ (Ne.symm n2)];exact hd f hfe f' hfe' hne (by simpa [Ne.symm n1] using h1) (by simpa [Ne.symm n2] using h2)
  ·refine hv x w1 K' (hK _ _ ?_)
   have hkp:Below B w1 (w1.alloc (.cells f.Z f.T)):=((Below.refl B w1).alloc (Nat.le_trans hB hsz) _)
   have hsl:L.getD f.s false=false:=by
    cases h:L.getD f.s false
    ·rfl
    exfalso;obtain ⟨o',ho'⟩:∃ o',ops[f.s]?=some o':=⟨_,Array.getElem?_eq_getElem (hfs f hf1).2⟩;rcases hstep f.s o' ho' with ⟨hno,_⟩ | ⟨f2,hf2,e2,hnos2,_⟩ | ⟨f2,hf2,e2,_,_,hu2,_,_,_,⟨e,he,hbd,hea⟩,_⟩ | ⟨f2,hf2,e2,hno2,_⟩
    ·exact (hno f hf1).2 rfl
    ·exact hnos2 f hf1 rfl
    ·have:=hu2 f hf1 rfl
     subst this;have:=hcl f.s o' ho' h e he hbd;rw [hea] at this;rw [this] at hunf;cases hunf
    exact (hno2 f hf1).2 rfl
   refine ⟨by simp;omega,upd x f.a _,hput f.a o ho x _,⟨hkW.alloc (Nat.le_trans hB hsz) _,hb.alloc (Nat.le_trans hB hsz) _⟩,fun j hj=>?_,hcl',fun f' hfe hfa=>?_,fun f1 hfe f2 hfe' hne h1 h2=>?_,howk _ hkp (fun g t c h _=>h.alloc _) hnow⟩
   ·by_cases h:j=f.a
    ·subst h;exact hRi _ _
    rw [bm _ _ h];rw [ax hlt] at hj;exact hR _ _ _ _ (hr j (by simpa [h] using hj)) hkp
   ·by_cases h:f'.a=f.a
    ·have:=huniq f' hfe h
     subst this;rw [eX];refine ⟨_,_,rfl,hsz,Blk.new _ _ _,fun _=>rfl,fun h'=>?_⟩;rw [ax hlt,hsl] at h';have:f'.s=f'.a:=by simpa using h'
     exact absurd this.symm (hnos f' hfe)
    rw [bm _ _ h];rw [ax hlt] at hfa;have n2:=hnos f' hfe;obtain ⟨g,c,e1,e2,e3,e4,e5⟩:=hf f' hfe (by simpa [h] using hfa);refine ⟨g,c,e1,e2,e3.alloc _,fun h=>e4 ?_,fun h=>hPS f' hfe _ _ _ (e5 ?_) hkp⟩
    ·rw [ax hlt] at h;simpa [Ne.symm n2] using h
    rw [ax hlt] at h;simpa [Ne.symm n2] using h
   rw [ax hlt] at h1 h2
   have fresh:∀ f3∈es,f3.a≠f.a→L.getD f3.a false=true→x f3.a≠.pointer (some ⟨w1.heap.size,0,none⟩):=by
    intro f3 h3 hne3 hl3 heq;obtain ⟨g,c,e1,e2,e3,_⟩:=hf f3 h3 hl3;rw [e1] at heq;have hg:=e3.lt;injection heq with heq;injection heq with heq;injection heq with heq;omega
   by_cases c1:f1.a=f.a
   ·have c2:f2.a≠f.a:=fun h=>hne (c1.trans h.symm)
    rw [c1,eX,bm _ _ c2];exact (fresh f2 hfe' c2 (by simpa [c2] using h2)).symm
   rw [bm _ _ c1];by_cases c2:f2.a=f.a
   ·rw [c2,eX];exact fresh f1 hfe c1 (by simpa [c1] using h1)
   rw [bm _ _ c2];exact hd f1 hfe f2 hfe' hne (by simpa [c1] using h1) (by simpa [c2] using h2)
  ·have hal:L.getD f.a false=true:=by rw [← hea];exact hall e he hbd
   obtain ⟨g,c,e1,e2,e3,e4,e5⟩:=hf f hf1 hal;have hc:=e4 hunf;subst hc;obtain ⟨us,hus,hv⟩:=hv x w1 g e1 e3 hdep;refine hv K' (fun v=>hK _ _ ?_);have hkp:Below B w1 (dl w1 g 0 us):=dm (Nat.le_trans hB e2) us 0 w1 (Below.refl _ _);have hnb:∀ f3∈es,f3.a≠f.s:=fun f3 h3 h=>hnoa f3 h3 h.symm
   refine ⟨Nat.le_trans hsz (Nat.le_of_eq (iK us 0 w1).symm),upd x f.s v,hput f.s o ho x v,⟨hkW.trans hkp,dm (Nat.le_trans hB e2) us 0 w1 hb⟩,fun j hj=>?_,hcl',fun f' hfe hfa=>?_,fun f1 hfe f2 hfe' hne h1 h2=>?_,howk _ hkp (fun g2 t c h hex=>eC (by obtain ⟨f2,h2,rfl⟩:=hex;have:=(hO f2 h2).1.lt;omega) us 0 w1 h) hnow⟩
   ·by_cases h:j=f.s
    ·subst h;exact hRi _ _
    rw [bm _ _ h];rw [ax hlt] at hj;exact hR _ _ _ _ (hr j (by simpa [h] using hj)) hkp
   ·rw [bm _ _ (hnb f' hfe)]
    rw [ax hlt] at hfa;by_cases h:f'.a=f.a
    ·have:=huniqa f' hfe h
     subst this;refine ⟨g,_,e1,e2,jW us 0 w1 _ e3,fun h'=>?_,fun _=>hus _ hkp⟩;rw [ax hlt] at h';simp at h'
    have n2:f'.s≠f.s:=fun h2=>h (by rw [huniq f' hfe h2])
    obtain ⟨g',c',d1,d2,d3,d4,d5⟩:=hf f' hfe (by simpa [hnb f' hfe] using hfa)
    have hgg:g'≠g:=by
     rintro rfl;exact hd f' hfe f hf1 h (by simpa [hnb f' hfe] using hfa) hal (d1.trans e1.symm)
    refine ⟨g',c',d1,d2,eC hgg us 0 w1 d3,fun h=>d4 ?_,fun h=>hPS f' hfe _ _ _ (d5 ?_) hkp⟩
    ·rw [ax hlt] at h;simpa [n2] using h
    rw [ax hlt] at h;simpa [n2] using h
   rw [ax hlt] at h1 h2;rw [bm _ _ (hnb f1 hfe),bm _ _ (hnb f2 hfe')];exact hd f1 hfe f2 hfe' hne (by simpa [hnb f1 hfe] using h1) (by simpa [hnb f2 hfe'] using h2)
  obtain ⟨c,c1,c2,_⟩:=how f hf1;have hc:=c2 hunf;subst hc;obtain ⟨us,hus,hv⟩:=hv x w1 c1 hdep;refine hv K' (fun v=>hK _ _ ?_);have hkp:Below B w1 (dl w1 f.g f.o us):=dm (hO f hf1).2 us f.o w1 (Below.refl _ _);have hna:∀ f3∈es,f3.a≠f.s:=fun f3 h3 h=>(hnoe f3 h3).1 h.symm
  have hns:∀ f3∈es,f3.s≠f.s:=fun f3 h3 h=>(hnoe f3 h3).2 h.symm
  have hgl:=(hO f hf1).1.lt;refine ⟨Nat.le_trans hsz (Nat.le_of_eq (iK us f.o w1).symm),upd x f.s v,hput f.s o ho x v,⟨hkW.trans hkp,dm (hO f hf1).2 us f.o w1 hb⟩,fun j hj=>?_,hcl',fun f' hfe hfa=>?_,fun f1 hfe f2 hfe' hne h1 h2=>?_,fun f' hfo=>?_⟩
  ·by_cases h:j=f.s
   ·subst h;exact hRi _ _
   rw [bm _ _ h];rw [ax hlt] at hj;exact hR _ _ _ _ (hr j (by simpa [h] using hj)) hkp
  ·rw [bm _ _ (hna f' hfe)]
   rw [ax hlt] at hfa;have n2:=hns f' hfe;obtain ⟨g',c',d1,d2,d3,d4,d5⟩:=hf f' hfe (by simpa [hna f' hfe] using hfa);refine ⟨g',c',d1,d2,eC (by omega) us f.o w1 d3,fun h=>d4 ?_,fun h=>hPS f' hfe _ _ _ (d5 ?_) hkp⟩
   ·rw [ax hlt] at h;simpa [n2] using h
   rw [ax hlt] at h;simpa [n2] using h
  ·rw [ax hlt] at h1 h2
   rw [bm _ _ (hna f1 hfe),bm _ _ (hna f2 hfe')];exact hd f1 hfe f2 hfe' hne (by simpa [hna f1 hfe] using h1) (by simpa [hna f2 hfe'] using h2)
  by_cases h:f'.s=f.s
  ·have:=huniq f' hfo h
   subst this;refine ⟨_,jW us f'.o w1 _ c1,fun h'=>?_,fun _=>hus _ hkp⟩;rw [ax hlt] at h';simp at h'
  obtain ⟨c',d3,d4,d5⟩:=how f' hfo;have hgg:f'.g≠f.g:=fun h2=>h (by rw [hOd f' hfo f hf1 h2])
  refine ⟨c',eC hgg us f.o w1 d3,fun h2=>d4 ?_,fun h2=>hPO f' hfo _ _ _ (d5 ?_) hkp⟩
  ·rw [ax hlt] at h2;simpa [h] using h2
  rw [ax hlt] at h2;simpa [h] using h2
 ·rintro L a w1 hs hr0 ⟨hsz,x,rfl,⟨hkW,hb⟩,hr,hcl,hf,hd,how⟩
  have hallL:∀ i,i < ops.size→L.getD i false=true:=by
   intro i
   induction i using Nat.strongRecOn with
   | ind i ih =>
    intro hi;cases h:L.getD i false
    ·exfalso
     have:i∈Region.ready .any ops L:=by
      refine mem_ready.2 ⟨?_,ops[i],Array.getElem?_eq_getElem hi,fun e he hbd=>?_⟩
      ·rw [Array.getD_eq_getD_getElem?,Array.getElem?_eq_getElem (by omega)] at h ⊢;exact h
      have h1:=hac i _ (Array.getElem?_eq_getElem hi) e he hbd;exact ih e.on h1 (by omega)
     rw [hr0] at this;cases this
    rfl
  refine hend x w1 hkW hb hsz (fun f hfo=>?_) (fun i hi=>hr i (hallL i hi)) (fun f hfe=>?_) (fun f hfe f' hfe' hne=>hd f hfe f' hfe' hne (hallL _ (hfs f hfe).1) (hallL _ (hfs f' hfe').1))
  ·obtain ⟨c,c1,c2,c3⟩:=how f hfo
   refine ⟨c,c1,fun h=>c2 ?_,fun h=>c3 (hallL _ h)⟩;rw [Array.getD_eq_getD_getElem?,Array.getElem?_eq_none (by omega)];rfl
  obtain ⟨g,c,e1,e2,e3,_,e5⟩:=hf f hfe (hallL _ (hfs f hfe).1);exact ⟨g,c,e1,e2,e3,e5 (hallL _ (hfs f hfe).2)⟩
 ·simp
 ·have hz:∀ j,(Array.replicate ops.size false).getD j false=false:=by
   intro j;rw [Array.getD_eq_getD_getElem?,Array.getElem?_replicate];split <;> rfl
  refine ⟨Qr,x0,rfl,⟨(Below.refl B w).drew,(Below.refl B w).drew⟩,fun i h=>?_,fun i o _ h=>?_,fun f _ h=>?_,fun f _ f' _ _ h=>?_,fun f hfo=>⟨_,(hO f hfo).1.drew,fun _=>rfl,fun h=>?_⟩⟩ <;> rw [hz] at h <;> cases h
end

theorem vJ {ow:List xK}(h:ow.Pairwise (fun f f'=>f.g≠f'.g)):∀ f∈ow,∀ f'∈ow,f.g=f'.g→f=f':=by
 induction ow with
 | nil=>intro f hf;cases hf
 | cons a l ih =>
  obtain ⟨h1,h2⟩:=List.pairwise_cons.1 h;intro f hf f' hf' he;rcases List.mem_cons.1 hf with h3 | h3
  ·rcases List.mem_cons.1 hf' with h4 | h4
   ·rw [h3,h4]
   exact absurd (h3 ▸ he) (h1 _ h4)
  rcases List.mem_cons.1 hf' with h4 | h4
  ·exact absurd (h4 ▸ he).symm (h1 _ h3)
  exact ih h2 f h3 f' h4 he
def rD (B:Nat):List (Value→World→Prop)→Prop
  | []=>True
  | p :: l=>(∀ v w w',p v w→Below B w w'→p v w')∧rD B l
theorem rD.get {B:Nat}:∀ (l:List (Value→World→Prop)),rD B l→∀ i v w w',l.getD i (fun _ _=>True) v w→Below B w w'→l.getD i (fun _ _=>True) v w':=by
 intro l
 induction l with
 | nil=>intro _ i v w w' _ _;simp
 | cons p l ih =>
  intro h i v w w' hp hk
  cases i with
  | zero=>exact h.1 v w w' hp hk
  | succ i=>exact ih h.2 i v w w' hp hk
theorem bEq {B:Nat}(u:Value):∀ v w w',PEq u v w→Below B w w'→PEq u v w':=fun _ _ _ h _=>h
theorem xM {B:Nat}:∀ v w w',eK v w→Below B w w'→eK v w':=fun _ _ _ h _=>h
end Go.Proofs.YtndhgcfajlalhaaGreatDoor
namespace Bn
theorem zw {l l':List Nat}(hn:l.length=l'.length) (h:∀ i,i < l.length→wd l i=wd l' i):l=l':=by
 refine List.ext_getElem hn fun i h1 h2=>?_
 have:=h i h1;rw [kn h1,kn h2] at this;exact this
theorem AN {l l':List Nat}(hn:l.length=l'.length) (h:l≠l'):∃ i,i < l.length∧wd l i≠wd l' i:=by
 apply Classical.byContradiction;intro hc;apply h;refine zw hn fun i hi=>?_
 apply Classical.byContradiction;intro e;exact hc ⟨i,hi,e⟩
end Bn

/- Walks: fields that differ. -/
namespace Go.Proofs.YtndhgcfajlalhaaGreatDoor
open Go Go.RowKit Bn
attribute [local go_sem ↓] Go.wp_at_zero Go.wp_at_succ
theorem lj (w:World) (A n c l) (wa:Wd w A n c l) (A' n' c' l') (wb:Wd w A' n' c' l') (hne:l≠l') (hn:n≤1000000000) (hn':n'≤1000000000) :
 Calls Tryz.prog 117 #[.slice A n c,.slice A' n' c'] w (aB w (.bool false)):=by
 by_cases hnn:n'=n
 ·subst hnn
  obtain ⟨j,hj,hjn⟩:=AN (by rw [← wa.2.1,← wb.2.1]) hne;rw [← wa.2.1] at hj;have HA:=Qh wa;have HB:=Qh wb;have HJ:=Qh hjn;clear wa wb hne hjn;go_in;go_wp2_with fail;go_loopw [5] (fun iv wr=>∃ (i q:Nat),i≤j∧iv=.int .i64 (i:Nat)∧wr=w.drewN q) (fun iv _=>n' - (intOf iv).toNat)
  case atStart=>exact ⟨0,0,Nat.zero_le _,rfl,rfl⟩
  case round =>
   obtain ⟨i,q,hi,rfl,rfl⟩:=hrel;have hlt:i < n':=by omega
   obtain ⟨g,o,rfl,hc1⟩:=HA.out.at_ (by omega);obtain ⟨g',o',rfl,hc2⟩:=HB.out.at_ (by omega);have h1:=hc1 i hlt;have h2:=hc2 i hlt;have hi0:(0:Int)≤(i:Int):=by omega
   have hi1:(i:Int) < (n':Int):=by omega
   have HIJ:=Qh (show i=j→wd l i≠wd l' i by rintro rfl;exact HJ.out);generalize wd l i=x at h1 HIJ;generalize wd l' i=y at h2 HIJ;clear hc1 hc2;by_cases hxy:x=y
   ·subst hxy
    have hij:i < j:=by
     rcases Nat.lt_or_ge i j with h | h
     ·exact h
     exact absurd rfl (HIJ.out (by omega))
    go_wp2_with fail;go_quiet (fail);go_wp2;go_roundw
    case rel=>exact ⟨i+1,_,by omega,by go_num,rfl⟩
    case measure=>simp [intOf];omega
   have hxy2:¬ (x:Int)=(y:Int):=by omega
   go_wp2_with fail;go_quiet (fail);go_wp2;go_ret;exact cQ rfl (by repeat (first | exact Below.refl _ _ | refine af ?_ _))
 have e1:((n:Int) == (n':Int))=false:=by simp;omega
 have e2:¬ (n:Int)=(n':Int):=by omega
 clear wa wb;go_in;go_wp2;go_ret;exact cQ rfl (aa w)
theorem sX (w:World) (b:Bool) (A:Option Addr) (n c:Nat) (D:Option Addr) (m e:Nat) (r:RD) (k:Nat) (h:QD w b A n c D m e r k) (b':Bool) (A':Option Addr) (n' c':Nat) (D':Option Addr) (m' e':Nat) (r':RD) (k':Nat) (h':QD w b' A' n' c' D' m' e' r' k') (hne:b≠b') (hk:k≤1000000) (hk':k'≤1000000) :
 Calls Tryz.prog 81 #[.agg #[.bool b,.slice A n c,.slice D m e],.agg #[.bool b',.slice A' n' c',.slice D' m' e']] w (aB w (.bool false)):=by
 obtain ⟨e1,ha,hd,hk1,hk2⟩:=h;obtain ⟨e1',ha',hd',hk1',hk2'⟩:=h';have HE:(b == b')=false:=by simpa using hne
 have HE2:¬ b=b':=hne;clear ha hd ha' hd' e1 e1';go_in;go_wp2;go_ret;exact cQ rfl (((aa w).alloc Qr _).alloc (by simp) _)
theorem sY (w:World) (b:Bool) (A:Option Addr) (n c:Nat) (D:Option Addr) (m e:Nat) (r:RD) (k:Nat) (h:QD w b A n c D m e r k) (b':Bool) (A':Option Addr) (n' c':Nat) (D':Option Addr) (m' e':Nat) (r':RD) (k':Nat) (h':QD w b' A' n' c' D' m' e' r' k') (hbb:b=b') (hne:r.num≠r'.num) (hk:k≤1000000) (hk':k'≤1000000) :
 Calls Tryz.prog 81 #[.agg #[.bool b,.slice A n c,.slice D m e],.agg #[.bool b',.slice A' n' c',.slice D' m' e']] w (aB w (.bool false)):=by
 obtain ⟨e1,ha,hd,hk1,hk2⟩:=h;obtain ⟨e1',ha',hd',hk1',hk2'⟩:=h';subst hbb;have HE:(b == b)=true:=by simp
 have HA:=Qh (And.intro ha ha');have HD:=Qh (And.intro hd hd');have HN:=Qh hne;clear ha ha' hd hd' hne e1 e1';go_in;go_wp2_with fail;(with_reducible refine (lj _ A n c r.num ?_ A' n' c' r'.num ?_ ?_ ?_ ?_).mono ?_);(exact HA.out.1.keep (((Kp.refl _).alloc _).alloc _));(exact HA.out.2.keep (((Kp.refl _).alloc _).alloc _));(exact HN.out);(omega);(omega);rintro e w1 ⟨rfl,hb⟩;have q1:Below w.heap.size w w1:=(((Below.refl _ _).alloc Qr _).alloc (by simp) _).trans (hb.mono (by simp <;> omega));have x0:Blk w1 w.heap.size 54 #[.bool b,.slice A n c,.slice D m e]:=((ak w _ _ rfl).alloc _).below hb (by simp <;> omega);have x1:Blk w1 (w.heap.size+1) 54 #[.bool b,.slice A' n' c',.slice D' m' e']:=(ak _ _ _ (by simp)).below hb (by simp);have c02:w1.cell? ⟨w.heap.size,2,none⟩=some (.slice D m e):=x0.cell 2;have c12:w1.cell? ⟨w.heap.size+1,2,none⟩=some (.slice D' m' e'):=x1.cell 2;clear hb;go_wp2;go_ret;exact ⟨rfl,q1⟩
theorem sZ (w:World) (b:Bool) (A:Option Addr) (n c:Nat) (D:Option Addr) (m e:Nat) (r:RD) (k:Nat) (h:QD w b A n c D m e r k) (b':Bool) (A':Option Addr) (n' c':Nat) (D':Option Addr) (m' e':Nat) (r':RD) (k':Nat) (h':QD w b' A' n' c' D' m' e' r' k') (hbb:b=b') (hnn:r.num=r'.num) (hne:r.den≠r'.den) (hk:k≤1000000) (hk':k'≤1000000) :
 Calls Tryz.prog 81 #[.agg #[.bool b,.slice A n c,.slice D m e],.agg #[.bool b',.slice A' n' c',.slice D' m' e']] w (aB w (.bool false)):=by
 obtain ⟨e1,ha,hd,hk1,hk2⟩:=h;obtain ⟨e1',ha',hd',hk1',hk2'⟩:=h';rw [← hnn] at ha';subst hbb;have HE:(b == b)=true:=by simp
 have HA:=Qh (And.intro ha ha');have HD:=Qh (And.intro hd hd');have HN:=Qh hne;clear ha ha' hd hd' hne e1 e1';go_in;go_wp2_with fail;(with_reducible refine (mD _ A n c r.num ?_ A' n' c' ?_ ?_).mono ?_);(exact HA.out.1.keep (((Kp.refl _).alloc _).alloc _));(exact HA.out.2.keep (((Kp.refl _).alloc _).alloc _));(omega);rintro e w1 ⟨rfl,hb⟩;have q1:Below w.heap.size w w1:=(((Below.refl _ _).alloc Qr _).alloc (by simp) _).trans (hb.mono (by simp <;> omega));have x0:Blk w1 w.heap.size 54 #[.bool b,.slice A n c,.slice D m e]:=((ak w _ _ rfl).alloc _).below hb (by simp <;> omega);have x1:Blk w1 (w.heap.size+1) 54 #[.bool b,.slice A' n' c',.slice D' m' e']:=(ak _ _ _ (by simp)).below hb (by simp);have c02:w1.cell? ⟨w.heap.size,2,none⟩=some (.slice D m e):=x0.cell 2;have c12:w1.cell? ⟨w.heap.size+1,2,none⟩=some (.slice D' m' e'):=x1.cell 2;clear hb;go_wp2_with fail;(with_reducible refine (lj _ D m e r.den ?_ D' m' e' r'.den ?_ ?_ ?_ ?_).mono ?_);(exact HD.out.1.belw q1);(exact HD.out.2.belw q1);(exact HN.out);(omega);(omega);rintro e w2 ⟨rfl,hb2⟩;go_wp2;go_ret;exact ⟨rfl,q1.trans (hb2.mono q1.size)⟩
theorem vK (w:World) (b:Bool) (A:Option Addr) (n c:Nat) (D:Option Addr) (m e:Nat) (b':Bool) (A':Option Addr) (n' c':Nat) (D':Option Addr) (m' e':Nat) (r:RD) (k k':Nat) (h:QD w b A n c D m e r k) (h':QD w b' A' n' c' D' m' e' r k') (hk:k≤1000000) :
 Calls Tryz.prog 81 #[.agg #[.bool b,.slice A n c,.slice D m e],.agg #[.bool b',.slice A' n' c',.slice D' m' e']] w (aB w (.bool true)):=by
 obtain ⟨e1,ha,hd,hk1,hk2⟩:=h;obtain ⟨e1',ha',hd',_,_⟩:=h';subst e1 e1';have HE:(r.neg == r.neg)=true:=by simp
 have HA:=Qh (And.intro ha ha');have HD:=Qh (And.intro hd hd');clear ha ha' hd hd';go_in;go_wp2_with fail;(with_reducible refine (mD _ A n c r.num ?_ A' n' c' ?_ ?_).mono ?_);(exact HA.out.1.keep (((Kp.refl _).alloc _).alloc _));(exact HA.out.2.keep (((Kp.refl _).alloc _).alloc _));(omega);rintro e w1 ⟨rfl,hb⟩;have q1:Below w.heap.size w w1:=(((Below.refl _ _).alloc Qr _).alloc (by simp) _).trans (hb.mono (by simp <;> omega));have x0:Blk w1 w.heap.size 54 #[.bool r.neg,.slice A n c,.slice D m e]:=((ak w _ _ rfl).alloc _).below hb (by simp <;> omega);have x1:Blk w1 (w.heap.size+1) 54 #[.bool r.neg,.slice A' n' c',.slice D' m' e']:=(ak _ _ _ (by simp)).below hb (by simp);have c02:w1.cell? ⟨w.heap.size,2,none⟩=some (.slice D m e):=x0.cell 2;have c12:w1.cell? ⟨w.heap.size+1,2,none⟩=some (.slice D' m' e'):=x1.cell 2;clear hb;go_wp2_with fail;(with_reducible refine (mD _ D m e r.den ?_ D' m' e' ?_ ?_).mono ?_);(exact HD.out.1.belw q1);(exact HD.out.2.belw q1);(omega);rintro e w2 ⟨rfl,hb2⟩;go_wp2;go_ret;exact ⟨rfl,q1.trans (hb2.mono q1.size)⟩
theorem rE (w:World) (b:Bool) (A:Option Addr) (n c:Nat) (D:Option Addr) (m e:Nat) (b':Bool) (A':Option Addr) (n' c':Nat) (D':Option Addr) (m' e':Nat) (r r':RD) (k k':Nat) (h:QD w b A n c D m e r k) (h':QD w b' A' n' c' D' m' e' r' k') (hk:k≤1000000) (hk':k'≤1000000) (v:Bool) (hv:v=true ↔ r=r') :
 Calls Tryz.prog 81 #[.agg #[.bool b,.slice A n c,.slice D m e],.agg #[.bool b',.slice A' n' c',.slice D' m' e']] w (aB w (.bool v)):=by
 by_cases e1:r=r'
 ·subst e1
  rw [hv.2 rfl];exact vK w b A n c D m e b' A' n' c' D' m' e' r k k' h h' hk
 have hvf:v=false:=by cases v;rfl;exact absurd (hv.1 rfl) e1
 subst hvf;by_cases eb:b=b'
 ·by_cases en:r.num=r'.num
  ·refine sZ w b A n c D m e r k h b' A' n' c' D' m' e' r' k' h' eb en (fun ed=>e1 ?_) hk hk'
   have hn:r.neg=r'.neg:=by rw [h.1,h'.1,eb]
   obtain ⟨a1,a2,a3⟩:=r;obtain ⟨b1,b2,b3⟩:=r';simp only at hn en ed;rw [hn,en,ed]
  exact sY w b A n c D m e r k h b' A' n' c' D' m' e' r' k' h' eb en hk hk'
 exact sX w b A n c D m e r k h b' A' n' c' D' m' e' r' k' h' eb hk hk'
def vL (w:World) (g o:Nat) (s:Value) (b1:Bool) (A1:Option Addr) (n1 c1:Nat) (D1:Option Addr) (m1 e1:Nat) (b2:Bool) (A2:Option Addr) (n2 c2:Nat) (D2:Option Addr) (m2 e2:Nat):Prop :=
  w.cell? ⟨g,o,none⟩=some s∧w.cell? ⟨g,o+1,none⟩=some (.bool b1)∧w.cell? ⟨g,o+2,none⟩=some (.slice A1 n1 c1)∧w.cell? ⟨g,o+3,none⟩=some (.slice D1 m1 e1)∧w.cell? ⟨g,o+4,none⟩=some (.bool b2)∧w.cell? ⟨g,o+5,none⟩=some (.slice A2 n2 c2)∧w.cell? ⟨g,o+6,none⟩=some (.slice D2 m2 e2)
section
variable {w w':World}{g o:Nat}{s:Value}{b1 b2:Bool}{A1 D1 A2 D2:Option Addr}{n1 c1 m1 e1 n2 c2 m2 e2:Nat}
theorem vM (h0:w.cell? ⟨g,o,none⟩=some s) (h1:w.cell? ⟨g,o+1,none⟩=some (.bool b1)) (h2:w.cell? ⟨g,o+1+1,none⟩=some (.slice A1 n1 c1)) (h3:w.cell? ⟨g,o+1+2,none⟩=some (.slice D1 m1 e1)) (h4:w.cell? ⟨g,o+4,none⟩=some (.bool b2)) (h5:w.cell? ⟨g,o+4+1,none⟩=some (.slice A2 n2 c2)) (h6:w.cell? ⟨g,o+4+2,none⟩=some (.slice D2 m2 e2)):vL w g o s b1 A1 n1 c1 D1 m1 e1 b2 A2 n2 c2 D2 m2 e2:=⟨h0,h1,h2,h3,h4,h5,h6⟩
theorem jY (h:vL w g o s b1 A1 n1 c1 D1 m1 e1 b2 A2 n2 c2 D2 m2 e2) (hb:Below w.heap.size w w') :
 w'.cell? ⟨g,o,none⟩=some s∧w'.cell? ⟨g,o+1,none⟩=some (.bool b1)∧w'.cell? ⟨g,o+2,none⟩=some (.slice A1 n1 c1)∧w'.cell? ⟨g,o+3,none⟩=some (.slice D1 m1 e1)∧w'.cell? ⟨g,o+4,none⟩=some (.bool b2)∧w'.cell? ⟨g,o+5,none⟩=some (.slice A2 n2 c2)∧w'.cell? ⟨g,o+6,none⟩=some (.slice D2 m2 e2) :=
 ⟨aq h.1 hb,aq h.2.1 hb,aq h.2.2.1 hb,aq h.2.2.2.1 hb,aq h.2.2.2.2.1 hb,aq h.2.2.2.2.2.1 hb,aq h.2.2.2.2.2.2 hb⟩
end
theorem ni (p:Prop):∃ v:Bool,v=true ↔ p:=by
 by_cases h:p
 ·exact ⟨true,by simp [h]⟩
 exact ⟨false,by simp [h]⟩
theorem AO:Tryz.prog.eqGuardType Tryz.prog.depth 81=false:=by kernel_rfl
theorem AP:Tryz.prog.stoodInHeld 81=false:=by kernel_rfl
theorem AQ:Tryz.prog.eqGuardType Tryz.prog.depth 86=false:=by kernel_rfl
theorem AR:Tryz.prog.stoodInHeld 86=false:=by kernel_rfl
theorem gV {α:Type}{l m:List α}{i:Nat}{a:α}(h:l.take i=m.take i) (h1:l[i]?=some a) (h2:m[i]?=some a):l.take (i+1)=m.take (i+1):=by rw [List.take_add_one,List.take_add_one,h,h1,h2]
theorem vN (w:World) (A:Option Addr) (n c:Nat) (a:aj) (h:SlS (dz 1000000) 7 w A n c a.pts) (A':Option Addr) (n' c':Nat) (b:aj) (h':SlS (dz 1000000) 7 w A' n' c' b.pts) (hn:n≤1000) (v:Bool) (hv:v=true ↔ a=b) :
 Calls Tryz.prog 45 #[.agg #[ae a.name,.slice A n c],.agg #[ae b.name,.slice A' n' c']] w (aB w (.bool v)):=by
 have H:=Qh (And.intro h h');have HV:=Qh hv;clear h h' hv;by_cases en:a.name=b.name
 ·by_cases el:n=n'
  ·subst el
   have hs:(a.name == b.name)=true:=beq_iff_eq.2 en;have HN:=Qh en;have hnc:=H.out.1.2.1;have hnc':=H.out.2.2.1;have HLA:=Qh H.out.1.1;have HLB:=Qh H.out.2.1;clear en;go_in;go_wp2_with fail;go_loopw [5] (fun iv wr=>∃ i:Nat,iv=.int .i64 (i:Nat)∧i≤n∧Hid (a.pts.take i=b.pts.take i)∧Blk wr w.heap.size 51 #[ae a.name,.slice A n c]∧Blk wr (w.heap.size+1) 51 #[ae b.name,.slice A' n c']∧Below w.heap.size w wr) (fun iv _=>n - (intOf iv).toNat)
   case atStart=>exact ⟨0,rfl,Nat.zero_le _,Qh rfl,(ak w _ _ rfl).alloc _,ak _ _ _ (by simp),((aa w).alloc Qr _).alloc (by simp) _⟩
   case round =>
    obtain ⟨i,rfl,hi,HI,xa,xb,bwa⟩:=hrel;rename World=>wa;have hla:w.heap.size < wa.heap.size:=xa.lt;have hlb:w.heap.size+1 < wa.heap.size:=xb.lt;rcases Nat.lt_or_ge i n with hlt | hge
    ·have hi1:((i:Int) < (n:Int))=True:=by simp;omega
     obtain ⟨g,o,x,e1,hg,_,hxi,hX⟩:=H.out.1.at_ hlt;subst e1;obtain ⟨g9,o9,y,e1,hg9,_,hyi,hY⟩:=H.out.2.at_ hlt;subst e1;have ca1:=xa.cell 1;obtain ⟨d0,⟨b1,A1,n1,c1,D1,m1,e1,d1,d2,d3,hQ1⟩,⟨b2,A2,n2,c2,D2,m2,e2,d4,d5,d6,hQ2⟩,_⟩:=hX;obtain ⟨f0,⟨b3,A3,n3,c3,D3,m3,e3,f1,f2,f3,hQ3⟩,⟨b4,A4,n4,c4,D4,m4,e4,f4,f5,f6,hQ4⟩,_⟩:=hY;have HM1:=Qh (vM d0 d1 d2 d3 d4 d5 d6);have HM2:=Qh (vM f0 f1 f2 f3 f4 f5 f6);have HQ:=Qh (And.intro hQ1 (And.intro hQ2 (And.intro hQ3 hQ4)));have HXI:=Qh (And.intro hxi hyi);clear d0 d1 d2 d3 d4 d5 d6 f0 f1 f2 f3 f4 f5 f6 hQ1 hQ2 hQ3 hQ4 hxi hyi;go_wp2_with fail;clear ca1;have hi2:((i:Int) < (n:Int)):=by omega
     refine lD (B:=w.heap.size) (fr:=fun xf=>⟨List.toArray (.agg #[ae a.name,.slice (some ⟨g,o,none⟩) n c] :: .agg #[ae b.name,.slice (some ⟨g9,o9,none⟩) n c'] :: .pointer (some ⟨w.heap.size,0,none⟩) :: .pointer (some ⟨w.heap.size+1,0,none⟩) :: u4 :: .int .i64 (i:Nat) :: xf 10 :: xf 11 :: .pointer (some ⟨w.heap.size,0,none⟩) :: ae a.name :: .pointer (some ⟨w.heap.size+1,0,none⟩) :: ae b.name :: .bool false :: .bool false :: .pointer (some ⟨w.heap.size,1,none⟩) :: .slice (some ⟨g,o,none⟩) n c :: .int .i64 (n:Nat) :: .pointer (some ⟨w.heap.size+1,1,none⟩) :: .slice (some ⟨g9,o9,none⟩) n c' :: .int .i64 (n:Nat) :: .bool false :: .bool false :: .int .i64 (i:Nat) :: .pointer (some ⟨w.heap.size,1,none⟩) :: .slice (some ⟨g,o,none⟩) n c :: .int .i64 (n:Nat) :: .bool true :: u27 :: u28 :: xf 0 :: xf 1 :: xf 2 :: xf 3 :: xf 4 :: xf 5 :: xf 6 :: xf 7 :: xf 8 :: xf 9 :: u39 :: u40 :: u41 :: u42 :: u43 :: u44 :: u45 :: u46 :: u47 :: u48 :: u49 :: u50 :: u51 :: u52 :: u53 :: u54 :: u55 :: u56 :: u57 :: u58 :: u59 :: []),[]⟩) (R:=fun ri=>List.getD ((PEq (.pointer (some ⟨w.heap.size,1,none⟩))) :: (PEq (.slice (some ⟨g,o,none⟩) n c)) :: (PEq (.int .i64 (i:Nat))) :: (PEq (.pointer (some ⟨g,o+i * 7,none⟩))) :: (PEq (.agg #[ae x.name,.bool b1,.slice A1 n1 c1,.slice D1 m1 e1,.bool b2,.slice A2 n2 c2,.slice D2 m2 e2])) :: (PEq (.pointer (some ⟨w.heap.size+1,1,none⟩))) :: (PEq (.slice (some ⟨g9,o9,none⟩) n c')) :: (PEq (.int .i64 (i:Nat))) :: (PEq (.pointer (some ⟨g9,o9+i * 7,none⟩))) :: (PEq (.agg #[ae y.name,.bool b3,.slice A3 n3 c3,.slice D3 m3 e3,.bool b4,.slice A4 n4 c4,.slice D4 m4 e4])) :: eK :: eK :: eK :: eK :: []) ri (fun _ _=>True)) (es:=[⟨10,12,56,#[.string ⟨#[]⟩,.bool false,.slice none 0 0,.slice none 0 0,.bool false,.slice none 0 0,.slice none 0 0],fun cz _=>cz=#[ae x.name,.bool b1,.slice A1 n1 c1,.slice D1 m1 e1,.bool b2,.slice A2 n2 c2,.slice D2 m2 e2]⟩,⟨11,13,56,#[.string ⟨#[]⟩,.bool false,.slice none 0 0,.slice none 0 0,.bool false,.slice none 0 0,.slice none 0 0],fun cz _=>cz=#[ae y.name,.bool b3,.slice A3 n3 c3,.slice D3 m3 e3,.bool b4,.slice A4 n4 c4,.slice D4 m4 e4]⟩]) (ow:=[⟨w.heap.size,14,0,51,#[ae a.name,.slice (some ⟨g,o,none⟩) n c],fun _ _=>True⟩,⟨w.heap.size+1,14,0,51,#[ae b.name,.slice (some ⟨g9,o9,none⟩) n c'],fun _ _=>True⟩]) (x0:=(upd (upd (upd (upd (upd (upd (upd (upd (upd (upd (upd (upd (fun _=>undef) 0 u29) 1 u30) 2 u31) 3 u32) 4 u33) 5 u34) 6 u35) 7 u36) 8 u37) 9 u38) 10 u6) 11 u7)) (by kernel_rfl)
      (aH ⟨fun _ _=>rfl,fun _ _=>rfl,fun _ _=>rfl,fun _ _=>rfl,fun _ _=>rfl,fun _ _=>rfl,fun _ _=>rfl,fun _ _=>rfl,fun _ _=>rfl,fun _ _=>rfl,fun _ _=>rfl,fun _ _=>rfl,fun _ _=>rfl,fun _ _=>rfl,trivial⟩) (aH (bT _ 0 (by kernel_rfl))) (rD.get _ ⟨bEq _,bEq _,bEq _,bEq _,bEq _,bEq _,bEq _,bEq _,bEq _,bEq _,xM,xM,xM,xM,trivial⟩)
      (fmc ⟨fun _ _ _ h _=>h,fmc ⟨fun _ _ _ h _=>h,fun _ h=>nomatch h⟩⟩) (fmc ⟨fun _ _ _ _ _=>True.intro,fmc ⟨fun _ _ _ _ _=>True.intro,fun _ h=>nomatch h⟩⟩) (fmc ⟨⟨by simp,by simp⟩,fmc ⟨⟨by simp,by simp⟩,fun _ h=>nomatch h⟩⟩) bwa.size
      (fmc ⟨⟨xa,Qr⟩,fmc ⟨⟨xb,by show w.heap.size≤w.heap.size+1;omega⟩,fun _ h=>nomatch h⟩⟩) (vJ (by simp <;> omega))
      (aH ⟨?_,?_,?_,?_,?_,?_,?_,?_,?_,?_,?_,?_,?_,?_,trivial⟩) ?_
     ·exact .inl ⟨by simp,by simp,fun xf wq hk hbl hd K hK=>by
       (try dsimp only);go_simp;have hz:=hK.out (.pointer (some ⟨w.heap.size,1,none⟩)) _ rfl (aa _)
       exact hz⟩
     ·exact .inl ⟨by simp,by simp,fun xf wq hk hbl hd K hK=>by
       have dq0:xf 0=.pointer (some ⟨w.heap.size,1,none⟩):=hd ⟨0,.data⟩ (by simp) rfl;have y:Blk wq w.heap.size 51 #[ae a.name,.slice (some ⟨g,o,none⟩) n c]:=hbl _ (List.Mem.head _) (by simp [Region.binds]);have hc1:wq.cell? ⟨w.heap.size,1,none⟩=some (.slice (some ⟨g,o,none⟩) n c):=y.cell 1;(try dsimp only);(try simp only [dq0]);go_simp;have hz:=hK.out (.slice (some ⟨g,o,none⟩) n c) _ rfl (aa _);simp only [dq0] at hz
       exact hz⟩
     ·exact .inl ⟨by simp,by simp,fun xf wq hk hbl hd K hK=>by
       (try dsimp only);go_simp;have hz:=hK.out (.int .i64 (i:Nat)) _ rfl (aa _)
       exact hz⟩
     ·exact .inl ⟨by simp,by simp,fun xf wq hk hbl hd K hK=>by
       have dq1:xf 1=.slice (some ⟨g,o,none⟩) n c:=hd ⟨1,.data⟩ (by simp) rfl;have dq2:xf 2=.int .i64 (i:Nat):=hd ⟨2,.data⟩ (by simp) rfl;(try dsimp only);(try simp only [dq1,dq2]);go_simp;have hz:=hK.out (.pointer (some ⟨g,o+i * 7,none⟩)) _ rfl (aa _);simp only [dq1,dq2] at hz
       exact hz⟩
     ·exact .inl ⟨by simp,by simp,fun xf wq hk hbl hd K hK=>by
       have dq3:xf 3=.pointer (some ⟨g,o+i * 7,none⟩):=hd ⟨3,.data⟩ (by simp) rfl;obtain ⟨k0,k1,k2,k3,k4,k5,k6⟩:=jY HM1.out (bwa.trans hk);(try dsimp only);(try simp only [dq3]);go_simp;have hz:=hK.out (.agg #[ae x.name,.bool b1,.slice A1 n1 c1,.slice D1 m1 e1,.bool b2,.slice A2 n2 c2,.slice D2 m2 e2]) _ rfl (aa _);simp only [dq3] at hz
       exact hz⟩
     ·exact .inl ⟨by simp,by simp,fun xf wq hk hbl hd K hK=>by
       (try dsimp only);go_simp;have hz:=hK.out (.pointer (some ⟨w.heap.size+1,1,none⟩)) _ rfl (aa _)
       exact hz⟩
     ·exact .inl ⟨by simp,by simp,fun xf wq hk hbl hd K hK=>by
       have dq5:xf 5=.pointer (some ⟨w.heap.size+1,1,none⟩):=hd ⟨5,.data⟩ (by simp) rfl;have y:Blk wq (w.heap.size+1) 51 #[ae b.name,.slice (some ⟨g9,o9,none⟩) n c']:=hbl _ (List.Mem.tail _ (List.Mem.head _)) (by simp [Region.binds]);have hc1:wq.cell? ⟨w.heap.size+1,1,none⟩=some (.slice (some ⟨g9,o9,none⟩) n c'):=y.cell 1;(try dsimp only);(try simp only [dq5]);go_simp;have hz:=hK.out (.slice (some ⟨g9,o9,none⟩) n c') _ rfl (aa _);simp only [dq5] at hz
       exact hz⟩
     ·exact .inl ⟨by simp,by simp,fun xf wq hk hbl hd K hK=>by
       (try dsimp only);go_simp;have hz:=hK.out (.int .i64 (i:Nat)) _ rfl (aa _)
       exact hz⟩
     ·exact .inl ⟨by simp,by simp,fun xf wq hk hbl hd K hK=>by
       have dq6:xf 6=.slice (some ⟨g9,o9,none⟩) n c':=hd ⟨6,.data⟩ (by simp) rfl;have dq7:xf 7=.int .i64 (i:Nat):=hd ⟨7,.data⟩ (by simp) rfl;(try dsimp only);(try simp only [dq6,dq7]);go_simp;have hz:=hK.out (.pointer (some ⟨g9,o9+i * 7,none⟩)) _ rfl (aa _);simp only [dq6,dq7] at hz
       exact hz⟩
     ·exact .inl ⟨by simp,by simp,fun xf wq hk hbl hd K hK=>by
       have dq8:xf 8=.pointer (some ⟨g9,o9+i * 7,none⟩):=hd ⟨8,.data⟩ (by simp) rfl;obtain ⟨k0,k1,k2,k3,k4,k5,k6⟩:=jY HM2.out (bwa.trans hk);(try dsimp only);(try simp only [dq8]);go_simp;have hz:=hK.out (.agg #[ae y.name,.bool b3,.slice A3 n3 c3,.slice D3 m3 e3,.bool b4,.slice A4 n4 c4,.slice D4 m4 e4]) _ rfl (aa _);simp only [dq8] at hz
       exact hz⟩
     ·exact .inr (.inl ⟨⟨10,12,56,#[.string ⟨#[]⟩,.bool false,.slice none 0 0,.slice none 0 0,.bool false,.slice none 0 0,.slice none 0 0],fun cz _=>cz=#[ae x.name,.bool b1,.slice A1 n1 c1,.slice D1 m1 e1,.bool b2,.slice A2 n2 c2,.slice D2 m2 e2]⟩,by simp,rfl,by simp,by simp,by simp,fun _ _=>True.intro,fun xf wq K hK=>by
       (try dsimp only);go_simp
       exact hK.out⟩)
     ·exact .inr (.inl ⟨⟨11,13,56,#[.string ⟨#[]⟩,.bool false,.slice none 0 0,.slice none 0 0,.bool false,.slice none 0 0,.slice none 0 0],fun cz _=>cz=#[ae y.name,.bool b3,.slice A3 n3 c3,.slice D3 m3 e3,.bool b4,.slice A4 n4 c4,.slice D4 m4 e4]⟩,by simp,rfl,by simp,by simp,by simp,fun _ _=>True.intro,fun xf wq K hK=>by
       (try dsimp only);go_simp
       exact hK.out⟩)
     ·exact .inr (.inr (.inl ⟨⟨10,12,56,#[.string ⟨#[]⟩,.bool false,.slice none 0 0,.slice none 0 0,.bool false,.slice none 0 0,.slice none 0 0],fun cz _=>cz=#[ae x.name,.bool b1,.slice A1 n1 c1,.slice D1 m1 e1,.bool b2,.slice A2 n2 c2,.slice D2 m2 e2]⟩,by simp,rfl,by simp,by simp,by simp,by simp,True.intro,fun _ _=>True.intro,⟨⟨10,.data⟩,by simp,rfl,rfl⟩,fun xf wq g7 hx hblk hd=>by
       have dq4:xf 4=.agg #[ae x.name,.bool b1,.slice A1 n1 c1,.slice D1 m1 e1,.bool b2,.slice A2 n2 c2,.slice D2 m2 e2]:=hd ⟨4,.data⟩ (by simp) rfl;dsimp only at hx hblk;refine ⟨[ae x.name,.bool b1,.slice A1 n1 c1,.slice D1 m1 e1,.bool b2,.slice A2 n2 c2,.slice D2 m2 e2],fun w' hk=>rfl,fun K hK=>?_⟩;have hc0:wq.cell? ⟨g7,0,none⟩=some (.string ⟨#[]⟩):=hblk.cell 0;have hc1:wq.cell? ⟨g7,1,none⟩=some (.bool false):=hblk.cell 1;have hc2:wq.cell? ⟨g7,2,none⟩=some (.slice none 0 0):=hblk.cell 2;have hc3:wq.cell? ⟨g7,3,none⟩=some (.slice none 0 0):=hblk.cell 3;have hc4:wq.cell? ⟨g7,4,none⟩=some (.bool false):=hblk.cell 4;have hc5:wq.cell? ⟨g7,5,none⟩=some (.slice none 0 0):=hblk.cell 5;have hc6:wq.cell? ⟨g7,6,none⟩=some (.slice none 0 0):=hblk.cell 6;have hf0:wq.frozen? ⟨g7,0,none⟩=false:=hblk.frozen 0;have hf1:wq.frozen? ⟨g7,1,none⟩=false:=hblk.frozen 1;have hf2:wq.frozen? ⟨g7,2,none⟩=false:=hblk.frozen 2;have hf3:wq.frozen? ⟨g7,3,none⟩=false:=hblk.frozen 3;have hf4:wq.frozen? ⟨g7,4,none⟩=false:=hblk.frozen 4;have hf5:wq.frozen? ⟨g7,5,none⟩=false:=hblk.frozen 5;have hf6:wq.frozen? ⟨g7,6,none⟩=false:=hblk.frozen 6;(try dsimp only);simp only [hx,dq4];go_simp;have hz:=hK.out undef;simp only [hx,dq4] at hz
       exact hz⟩))
     ·exact .inr (.inr (.inl ⟨⟨11,13,56,#[.string ⟨#[]⟩,.bool false,.slice none 0 0,.slice none 0 0,.bool false,.slice none 0 0,.slice none 0 0],fun cz _=>cz=#[ae y.name,.bool b3,.slice A3 n3 c3,.slice D3 m3 e3,.bool b4,.slice A4 n4 c4,.slice D4 m4 e4]⟩,by simp,rfl,by simp,by simp,by simp,by simp,True.intro,fun _ _=>True.intro,⟨⟨11,.data⟩,by simp,rfl,rfl⟩,fun xf wq g7 hx hblk hd=>by
       have dq9:xf 9=.agg #[ae y.name,.bool b3,.slice A3 n3 c3,.slice D3 m3 e3,.bool b4,.slice A4 n4 c4,.slice D4 m4 e4]:=hd ⟨9,.data⟩ (by simp) rfl;dsimp only at hx hblk;refine ⟨[ae y.name,.bool b3,.slice A3 n3 c3,.slice D3 m3 e3,.bool b4,.slice A4 n4 c4,.slice D4 m4 e4],fun w' hk=>rfl,fun K hK=>?_⟩;have hc0:wq.cell? ⟨g7,0,none⟩=some (.string ⟨#[]⟩):=hblk.cell 0;have hc1:wq.cell? ⟨g7,1,none⟩=some (.bool false):=hblk.cell 1;have hc2:wq.cell? ⟨g7,2,none⟩=some (.slice none 0 0):=hblk.cell 2;have hc3:wq.cell? ⟨g7,3,none⟩=some (.slice none 0 0):=hblk.cell 3;have hc4:wq.cell? ⟨g7,4,none⟩=some (.bool false):=hblk.cell 4;have hc5:wq.cell? ⟨g7,5,none⟩=some (.slice none 0 0):=hblk.cell 5;have hc6:wq.cell? ⟨g7,6,none⟩=some (.slice none 0 0):=hblk.cell 6;have hf0:wq.frozen? ⟨g7,0,none⟩=false:=hblk.frozen 0;have hf1:wq.frozen? ⟨g7,1,none⟩=false:=hblk.frozen 1;have hf2:wq.frozen? ⟨g7,2,none⟩=false:=hblk.frozen 2;have hf3:wq.frozen? ⟨g7,3,none⟩=false:=hblk.frozen 3;have hf4:wq.frozen? ⟨g7,4,none⟩=false:=hblk.frozen 4;have hf5:wq.frozen? ⟨g7,5,none⟩=false:=hblk.frozen 5;have hf6:wq.frozen? ⟨g7,6,none⟩=false:=hblk.frozen 6;(try dsimp only);simp only [hx,dq9];go_simp;have hz:=hK.out undef;simp only [hx,dq9] at hz
       exact hz⟩))
     intro y7 w7 kq hbl lw how _ hfl hds;obtain ⟨_,za,ez,_⟩:=how _ (List.Mem.head _);obtain rfl:=ez (by simp);obtain ⟨_,zb,ez,_⟩:=how _ (List.Mem.tail _ (List.Mem.head _));obtain rfl:=ez (by simp);obtain ⟨g6,_,eg6,Gg6,xg6,rfl⟩:=hfl _ (List.Mem.head _);obtain ⟨g7,_,eg7,Gg7,xg7,rfl⟩:=hfl _ (List.Mem.tail _ (List.Mem.head _));dsimp only at za zb eg6 Gg6 xg6 eg7 Gg7 xg7;clear how hfl hds ez;have bw7:=bwa.trans kq;have lg6:g6 < w7.heap.size:=xg6.lt;have lg7:g7 < w7.heap.size:=xg7.lt;(try dsimp only);simp only [eg6,eg7];clear eg6 eg7;obtain ⟨k0,k1,k2,k3,k4,k5,k6⟩:=xg6.c7;obtain ⟨l0,l1,l2,l3,l4,l5,l6⟩:=xg7.c7;by_cases hnm:x.name=y.name
     ·have hnb:(x.name == y.name)=true:=beq_iff_eq.2 hnm
      have HNM:=Qh hnm;clear hnm;obtain ⟨v1,hv1⟩:=ni (x.x=y.x);obtain ⟨v2,hv2⟩:=ni (x.y=y.y);have HV1:=Qh hv1;have HV2:=Qh hv2;clear hv1 hv2;go_wp2_with fail;(with_reducible refine (rE w7 b1 A1 n1 c1 D1 m1 e1 b3 A3 n3 c3 D3 m3 e3 x.x y.x 1000000 1000000 (HQ.out.1.belw bw7) (HQ.out.2.2.1.belw bw7) (by decide) (by decide) v1 HV1.out).mono ?_);rintro e' w8 ⟨rfl,hb8⟩;have bw8:=bw7.trans (hb8.mono bw7.size);have za8:=za.below hb8 za.lt;have zb8:=zb.below hb8 zb.lt;have y6:=xg6.below hb8 xg6.lt;have y7':=xg7.below hb8 xg7.lt;clear k0 k1 k2 k3 k4 k5 k6 l0 l1 l2 l3 l4 l5 l6;cases v1
      ·have hvf:v=false:=by
        cases v
        ·rfl
        exfalso;have:=HV.out.1 rfl;subst this;have h9:=HXI.out.1.symm.trans HXI.out.2;injection h9 with h9;subst h9;exact absurd (HV1.out.2 rfl) (by decide)
       subst hvf;go_wp2;go_ret;exact ⟨rfl,bw8⟩
      have lg6:g6 < w8.heap.size:=y6.lt;have lg7:g7 < w8.heap.size:=y7'.lt;obtain ⟨k0,k1,k2,k3,k4,k5,k6⟩:=y6.c7;obtain ⟨l0,l1,l2,l3,l4,l5,l6⟩:=y7'.c7;go_wp2_with fail;(with_reducible refine (rE w8 b2 A2 n2 c2 D2 m2 e2 b4 A4 n4 c4 D4 m4 e4 x.y y.y 1000000 1000000 (HQ.out.2.1.belw bw8) (HQ.out.2.2.2.belw bw8) (by decide) (by decide) v2 HV2.out).mono ?_);rintro e' w9 ⟨rfl,hb9⟩;have bw9:=bw8.trans (hb9.mono bw8.size);have za9:=za8.below hb9 za8.lt;have zb9:=zb8.below hb9 zb8.lt;clear k0 k1 k2 k3 k4 k5 k6 l0 l1 l2 l3 l4 l5 l6;cases v2
      ·have hvf:v=false:=by
        cases v
        ·rfl
        exfalso;have:=HV.out.1 rfl;subst this;have h9:=HXI.out.1.symm.trans HXI.out.2;injection h9 with h9;subst h9;exact absurd (HV2.out.2 rfl) (by decide)
       subst hvf;go_wp2;go_ret;exact ⟨rfl,bw9⟩
      ·have hxy:x=y:=by
        have e1:=HNM.out;have e2:=HV1.out.1 (by simp);have e3:=HV2.out.1 (by simp);obtain ⟨x1,x2,x3⟩:=x;obtain ⟨y1,y2,y3⟩:=y;simp only at e1 e2 e3;rw [e1,e2,e3]
       have HI2:Hid (a.pts.take (i+1)=b.pts.take (i+1)):=Qh (gV HI.out HXI.out.1 (by rw [hxy];exact HXI.out.2));clear hxy;go_wp2_with fail;go_roundw
       case rel=>exact ⟨i+1,by go_num,by omega,HI2,za9,zb9,bw9⟩
       case measure=>simp [intOf];omega
     have hnb:(x.name == y.name)=false:=beq_eq_false_iff_ne.2 hnm
     have hvf:v=false:=by
      cases v
      ·rfl
      exfalso;have:=HV.out.1 rfl;subst this;have h9:=HXI.out.1.symm.trans HXI.out.2;injection h9 with h9;exact hnm (by rw [h9])
     subst hvf;clear hnm;go_wp2;go_ret;exact ⟨rfl,bw7⟩
    have hi1:((i:Int) < (n:Int))=False:=by simp;omega
    have e2:a.pts=b.pts:=by
     have:=HI.out;rwa [List.take_of_length_le (by rw [HLA.out];exact hge),List.take_of_length_le (by rw [HLB.out];exact hge)] at this
    have hvt:v=true:=HV.out.2 (by
     have e1:=HN.out;obtain ⟨a1,a2⟩:=a;obtain ⟨b1,b2⟩:=b;simp only at e1 e2
     rw [e1,e2])
    subst hvt;have ca1:=xa.cell 1;clear e2;go_wp2;go_ret;exact ⟨rfl,bwa⟩
  have el2:((n:Int) == (n':Int))=false:=by simp;omega
  have el3:¬ (n:Int)=(n':Int):=by omega
  have hvf:v=false:=by
   cases v
   ·rfl
   exfalso;have:=HV.out.1 rfl;subst this;exact el (H.out.1.1.symm.trans H.out.2.1)
  subst hvf;have hs:(a.name == b.name)=true:=beq_iff_eq.2 en;clear en;go_in;go_wp2;go_ret;exact ⟨rfl,((aa w).alloc Qr _).alloc (by simp) _⟩
 have hs:(a.name == b.name)=false:=beq_eq_false_iff_ne.2 en
 have hvf:v=false:=by
  cases v
  ·rfl
  exact absurd (by rw [HV.out.1 rfl]) en
 subst hvf;clear en;go_in;go_wp2;go_ret;exact ⟨rfl,((aa w).alloc Qr _).alloc (by simp) _⟩
theorem vO (w:World) (A:Option Addr) (n c:Nat) (B:Option Addr) (p d:Nat) (C:Option Addr) (q e:Nat) (L:ai) (h:LkS 1000000 w A n c B p d C q e L) (A':Option Addr) (n' c':Nat) (B':Option Addr) (p' d':Nat) (C':Option Addr) (q' e':Nat) (M:ai) (h':LkS 1000000 w A' n' c' B' p' d' C' q' e' M) (hps:∀ b∈L.bodies,b.pts.length≤1000) (hn:n≤1000) (hp:p≤1000) (hq:q≤1000) (v:Bool) (hv:v=true ↔ L=M) :
 Calls Tryz.prog 16 #[.agg #[ae L.name,.slice A n c,.slice B p d,.slice C q e],.agg #[ae M.name,.slice A' n' c',.slice B' p' d',.slice C' q' e']] w (aB w (.bool v)):=by
 have H:=Qh h;have H':=Qh h';have HV:=Qh hv;have HPS:=Qh hps;have HLen:=Qh (And.intro (And.intro h.bodies.1 h'.bodies.1) (And.intro (And.intro h.joints.1 h'.joints.1) (And.intro h.drivers.1 h'.drivers.1)));have hnc:=h.bodies.2.1;have hnc':=h'.bodies.2.1;have hpd:=h.joints.2.1;have hpd':=h'.joints.2.1;have hqe:=h.drivers.2.1;have hqe':=h'.drivers.2.1;clear h h' hv hps
 have hno:∀ (P:Prop),P→(L=M→¬ P)→v=false:=by
  intro P hP hne;cases v
  ·rfl
  exact absurd hP (hne (HV.out.1 rfl))
 have HNO:=Qh hno;clear hno;have q00:Below w.heap.size w ((w.alloc (.cells #[ae L.name,.slice A n c,.slice B p d,.slice C q e] 26)).alloc (.cells #[ae M.name,.slice A' n' c',.slice B' p' d',.slice C' q' e'] 26)):=((aa w).alloc Qr _).alloc (by simp) _;by_cases en:L.name=M.name;rotate_left
 ·have hs:(L.name == M.name)=false:=beq_eq_false_iff_ne.2 en
  have hvf:=HNO.out _ en (fun h=>by rw [h];simp);subst hvf;clear en;go_in;go_wp2;go_ret;exact ⟨rfl,q00⟩
 have hs:(L.name == M.name)=true:=beq_iff_eq.2 en;have HN:=Qh en;clear en;by_cases e1:n=n';rotate_left
 ·have f1:((n:Int) == (n':Int))=false:=by simp;omega
  have f2:¬ (n:Int)=(n':Int):=by omega
  have hvf:=HNO.out _ e1 (fun h=>by rw [← HLen.out.1.1,← HLen.out.1.2,h];simp);subst hvf;clear e1;go_in;go_wp2;go_ret;exact ⟨rfl,q00⟩
 subst e1;by_cases e2:p=p';rotate_left
 ·have f1:((p:Int) == (p':Int))=false:=by simp;omega
  have f2:¬ (p:Int)=(p':Int):=by omega
  have hvf:=HNO.out _ e2 (fun h=>by rw [← HLen.out.2.1.1,← HLen.out.2.1.2,h];simp);subst hvf;clear e2;go_in;go_wp2;go_ret;exact ⟨rfl,q00⟩
 subst e2;by_cases e3:q=q';rotate_left
 ·have f1:((q:Int) == (q':Int))=false:=by simp;omega
  have f2:¬ (q:Int)=(q':Int):=by omega
  have hvf:=HNO.out _ e3 (fun h=>by rw [← HLen.out.2.2.1,← HLen.out.2.2.2,h];simp);subst hvf;clear e3;go_in;go_wp2;go_ret;exact ⟨rfl,q00⟩
 subst e3;go_in;go_wp2_with fail;go_loopw [5] (fun iv wr=>∃ i:Nat,iv=.int .i64 (i:Nat)∧i≤n∧Hid (L.bodies.take i=M.bodies.take i)∧Blk wr w.heap.size 26 #[ae L.name,.slice A n c,.slice B p d,.slice C q e]∧Blk wr (w.heap.size+1) 26 #[ae M.name,.slice A' n c',.slice B' p d',.slice C' q e']∧Below w.heap.size w wr) (fun iv _=>n - (intOf iv).toNat)
 case atStart=>exact ⟨0,rfl,Nat.zero_le _,Qh rfl,(ak w _ _ rfl).alloc _,ak _ _ _ (by simp),q00⟩
 case round =>
  clear q00;obtain ⟨i,rfl,hi,HI,xa,xb,bwa⟩:=hrel;rename World=>wa;have hla:w.heap.size < wa.heap.size:=xa.lt;have hlb:w.heap.size+1 < wa.heap.size:=xb.lt;rcases Nat.lt_or_ge i n with hlt | hge
  ·have hi1:((i:Int) < (n:Int))=True:=by simp;omega
   obtain ⟨g,o,x,e1,hg,_,hxi,hX⟩:=(H.out.bodies.bd bwa).at_ hlt;subst e1;obtain ⟨g9,o9,y,e1,hg9,_,hyi,hY⟩:=(H'.out.bodies.bd bwa).at_ hlt;subst e1;obtain ⟨A1,n1,c1,d0,d1,hM1,_⟩:=hX;obtain ⟨A2,n2,c2,f0,f1,hM2,_⟩:=hY;have hn1:n1≤1000:=by rw [← hM1.1];exact HPS.out x (List.mem_of_getElem? hxi)
   have HM:=Qh (And.intro hM1 hM2);have HXI:=Qh (And.intro hxi hyi);obtain ⟨v1,hv1⟩:=ni (x=y);have HV1:=Qh hv1;have ca1:=xa.cell 1;have cb1:=xb.cell 1;have hi2:((i:Int) < (n:Int)):=by omega
   clear hM1 hM2 hxi hyi hv1;go_wp2_with fail
   go_region_held3 (fun w'=>Sees wa.heap.size wa w') (first | with_reducible exact Sees.of Qr (by assumption) | with_reducible exact Sees.of Qr (aa _).drew | exact Sees.of Qr (af (aa _) 1) | exact Sees.of Qr (af (by assumption) _))
    (first
     | (go_at_call 45;(with_reducible refine (vN _ A1 n1 c1 x ?_ A2 n2 c2 y ?_ hn1 v1 HV1.out).mono ?_);(exact HM.out.1.mk_ (by first | exact (aa wa).drew | exact af (aa wa) _));(exact HM.out.2.mk_ (by first | exact (aa wa).drew | exact af (aa wa) _));rintro e' w8 ⟨rfl,hb8⟩;have q8:Below wa.heap.size wa w8:=(by first | exact ah (aa wa).drew hb8 | exact ah (af (aa wa) _) hb8)))
   have bw8:=bwa.trans (q8.mono bwa.size);have xa8:=xa.below q8 xa.lt;have xb8:=xb.below q8 xb.lt;clear ca1 cb1 d0 d1 f0 f1;cases v1
   ·have hvf:=HNO.out (x≠y) (fun h=>absurd (HV1.out.2 h) (by decide)) (fun h=>by
     subst h;have h9:=HXI.out.1.symm.trans HXI.out.2;injection h9 with h9
     exact fun h=>h h9)
    subst hvf;go_wp2;go_ret;exact ⟨rfl,bw8⟩
   have hxy:x=y:=HV1.out.1 (by simp);have HI2:Hid (L.bodies.take (i+1)=M.bodies.take (i+1)):=Qh (gV HI.out HXI.out.1 (by rw [hxy];exact HXI.out.2));clear hxy;go_wp2_with fail;go_roundw
   case rel=>exact ⟨i+1,by go_num,by omega,HI2,xa8,xb8,bw8⟩
   case measure=>simp [intOf];omega
  have hi1:((i:Int) < (n:Int))=False:=by simp;omega
  have e2:L.bodies=M.bodies:=by
   have:=HI.out;rwa [List.take_of_length_le (by rw [HLen.out.1.1];exact hge),List.take_of_length_le (by rw [HLen.out.1.2];exact hge)] at this
  have HB:=Qh e2;have ca1:=xa.cell 1;have ca2:=xa.cell 2;clear e2;go_wp2_with fail;clear ca1 ca2;go_loopw [6] (fun iv wr=>∃ i2:Nat,iv=.int .i64 (i2:Nat)∧i2≤p∧Hid (L.joints.take i2=M.joints.take i2)∧Blk wr w.heap.size 26 #[ae L.name,.slice A n c,.slice B p d,.slice C q e]∧Blk wr (w.heap.size+1) 26 #[ae M.name,.slice A' n c',.slice B' p d',.slice C' q e']∧Below w.heap.size w wr) (fun iv _=>p - (intOf iv).toNat)
  case atStart=>exact ⟨0,rfl,Nat.zero_le _,Qh rfl,xa,xb,bwa⟩
  case round =>
   clear xa xb bwa;obtain ⟨i2,rfl,hii2,HI,xa,xb,bwa⟩:=hrel;rename World=>wi2;have hla:w.heap.size < wi2.heap.size:=xa.lt;have hlb:w.heap.size+1 < wi2.heap.size:=xb.lt;rcases Nat.lt_or_ge i2 p with hlt | hgei2
   ·have hi1:((i2:Int) < (p:Int))=True:=by simp;omega
    have hi3:((i2:Int) < (p:Int)):=by omega
    obtain ⟨g,o,x,e1,hg,_,hxi,hX⟩:=(H.out.joints.jt bwa).at_ hlt;subst e1;obtain ⟨g9,o9,y,e1,hg9,_,hyi,hY⟩:=(H'.out.joints.jt bwa).at_ hlt;subst e1;have HXI:=Qh (And.intro hxi hyi);obtain ⟨d0,d1,d2,d3,d4,d5,d6,_⟩:=hX;obtain ⟨f0,f1,f2,f3,f4,f5,f6,_⟩:=hY;have ca1:=xa.cell 2;have cb1:=xb.cell 2;have gt1:=AO;have gt2:=AP;clear hxi hyi;by_cases k0:x.name=y.name;rotate_left
    ·have h0:(x.name == y.name)=false:=beq_eq_false_iff_ne.2 k0
     have t0:((⟨x.name.toArray⟩:ByteArray).toList == (⟨y.name.toArray⟩:ByteArray).toList)=false:=by rw [ByteArray.toList_eq,ByteArray.toList_eq];simpa using k0
     have hvf:=HNO.out _ k0 (fun h=>by
      subst h;have h9:=HXI.out.1.symm.trans HXI.out.2;injection h9 with h9
      rw [h9];simp)
     subst hvf;clear k0;go_wp2_with fail;go_quiet (fail);go_wp2;go_ret;exact ⟨rfl,by first | exact bwa | exact af bwa _⟩
    have h0:(x.name == y.name)=true:=beq_iff_eq.2 k0;have t0:((⟨x.name.toArray⟩:ByteArray).toList == (⟨y.name.toArray⟩:ByteArray).toList)=true:=by rw [ByteArray.toList_eq,ByteArray.toList_eq];simpa using k0
    have K0:=Qh k0;clear k0;by_cases k1:x.kind=y.kind;rotate_left
    ·have h1:(x.kind == y.kind)=false:=beq_eq_false_iff_ne.2 k1
     have hvf:=HNO.out _ k1 (fun h=>by
      subst h;have h9:=HXI.out.1.symm.trans HXI.out.2;injection h9 with h9
      rw [h9];simp)
     subst hvf;clear k1;go_wp2_with fail;go_quiet (fail);go_wp2;go_ret;exact ⟨rfl,by first | exact bwa | exact af bwa _⟩
    have h1:(x.kind == y.kind)=true:=beq_iff_eq.2 k1;have K1:=Qh k1;clear k1;by_cases k2:x.a=y.a;rotate_left
    ·have h2:(x.a == y.a)=false:=beq_eq_false_iff_ne.2 k2
     have hvf:=HNO.out _ k2 (fun h=>by
      subst h;have h9:=HXI.out.1.symm.trans HXI.out.2;injection h9 with h9
      rw [h9];simp)
     subst hvf;clear k2;go_wp2_with fail;go_quiet (fail);go_wp2;go_ret;exact ⟨rfl,by first | exact bwa | exact af bwa _⟩
    have h2:(x.a == y.a)=true:=beq_iff_eq.2 k2;have K2:=Qh k2;clear k2;by_cases k3:x.point=y.point;rotate_left
    ·have h3:(x.point == y.point)=false:=beq_eq_false_iff_ne.2 k3
     have hvf:=HNO.out _ k3 (fun h=>by
      subst h;have h9:=HXI.out.1.symm.trans HXI.out.2;injection h9 with h9
      rw [h9];simp)
     subst hvf;clear k3;go_wp2_with fail;go_quiet (fail);go_wp2;go_ret;exact ⟨rfl,by first | exact bwa | exact af bwa _⟩
    have h3:(x.point == y.point)=true:=beq_iff_eq.2 k3;have K3:=Qh k3;clear k3;by_cases k4:x.b=y.b;rotate_left
    ·have h4:(x.b == y.b)=false:=beq_eq_false_iff_ne.2 k4
     have hvf:=HNO.out _ k4 (fun h=>by
      subst h;have h9:=HXI.out.1.symm.trans HXI.out.2;injection h9 with h9
      rw [h9];simp)
     subst hvf;clear k4;go_wp2_with fail;go_quiet (fail);go_wp2;go_ret;exact ⟨rfl,by first | exact bwa | exact af bwa _⟩
    have h4:(x.b == y.b)=true:=beq_iff_eq.2 k4;have K4:=Qh k4;clear k4;by_cases k5:x.on=y.on;rotate_left
    ·have h5:(x.on == y.on)=false:=beq_eq_false_iff_ne.2 k5
     have hvf:=HNO.out _ k5 (fun h=>by
      subst h;have h9:=HXI.out.1.symm.trans HXI.out.2;injection h9 with h9
      rw [h9];simp)
     subst hvf;clear k5;go_wp2_with fail;go_quiet (fail);go_wp2;go_ret;exact ⟨rfl,by first | exact bwa | exact af bwa _⟩
    have h5:(x.on == y.on)=true:=beq_iff_eq.2 k5;have K5:=Qh k5;clear k5;by_cases k6:x.to_=y.to_;rotate_left
    ·have h6:(x.to_ == y.to_)=false:=beq_eq_false_iff_ne.2 k6
     have hvf:=HNO.out _ k6 (fun h=>by
      subst h;have h9:=HXI.out.1.symm.trans HXI.out.2;injection h9 with h9
      rw [h9];simp)
     subst hvf;clear k6;go_wp2_with fail;go_quiet (fail);go_wp2;go_ret;exact ⟨rfl,by first | exact bwa | exact af bwa _⟩
    have h6:(x.to_ == y.to_)=true:=beq_iff_eq.2 k6;have K6:=Qh k6;clear k6
    have hxy:x=y:=by
     have q0:=K0.out;have q1:=K1.out;have q2:=K2.out;have q3:=K3.out;have q4:=K4.out;have q5:=K5.out;have q6:=K6.out;obtain ⟨x0,x1,x2,x3,x4,x5,x6⟩:=x;obtain ⟨y0,y1,y2,y3,y4,y5,y6⟩:=y;simp only at q0 q1 q2 q3 q4 q5 q6;rw [q0,q1,q2,q3,q4,q5,q6]
    have HI2:Hid (L.joints.take (i2+1)=M.joints.take (i2+1)):=Qh (gV HI.out HXI.out.1 (by rw [hxy];exact HXI.out.2));clear hxy;go_wp2_with fail;go_quiet (fail);go_wp2_with fail;go_roundw
    case rel=>first | exact ⟨i2+1,by go_num,by omega,HI2,xa,xb,bwa⟩ | exact ⟨i2+1,by go_num,by omega,HI2,xa.drewN _,xb.drewN _,af bwa _⟩
    case measure=>simp [intOf];omega
   have hi1:((i2:Int) < (p:Int))=False:=by simp;omega
   have e2:L.joints=M.joints:=by
    have:=HI.out;rwa [List.take_of_length_le (by rw [HLen.out.2.1.1];exact hgei2),List.take_of_length_le (by rw [HLen.out.2.1.2];exact hgei2)] at this
   have Hjt:=Qh e2;have ca1:=xa.cell 2;clear e2;go_wp2_with fail;clear ca1;go_loopw [7] (fun iv wr=>∃ i3:Nat,iv=.int .i64 (i3:Nat)∧i3≤q∧Hid (L.drivers.take i3=M.drivers.take i3)∧Blk wr w.heap.size 26 #[ae L.name,.slice A n c,.slice B p d,.slice C q e]∧Blk wr (w.heap.size+1) 26 #[ae M.name,.slice A' n c',.slice B' p d',.slice C' q e']∧Below w.heap.size w wr) (fun iv _=>q - (intOf iv).toNat)
   case atStart=>exact ⟨0,rfl,Nat.zero_le _,Qh rfl,xa,xb,bwa⟩
   case round =>
    clear xa xb bwa;obtain ⟨i3,rfl,hii3,HI,xa,xb,bwa⟩:=hrel;rename World=>wi3;have hla:w.heap.size < wi3.heap.size:=xa.lt;have hlb:w.heap.size+1 < wi3.heap.size:=xb.lt;rcases Nat.lt_or_ge i3 q with hlt | hgei3
    ·have hi1:((i3:Int) < (q:Int))=True:=by simp;omega
     have hi3:((i3:Int) < (q:Int)):=by omega
     obtain ⟨g,o,x,e1,hg,_,hxi,hX⟩:=(H.out.drivers.dr bwa).at_ hlt;subst e1;obtain ⟨g9,o9,y,e1,hg9,_,hyi,hY⟩:=(H'.out.drivers.dr bwa).at_ hlt;subst e1;have HXI:=Qh (And.intro hxi hyi);obtain ⟨d0,d1,_⟩:=hX;obtain ⟨f0,f1,_⟩:=hY;have ca1:=xa.cell 3;have cb1:=xb.cell 3;have gt1:=AQ;have gt2:=AR;clear hxi hyi;by_cases k0:x.name=y.name;rotate_left
     ·have h0:(x.name == y.name)=false:=beq_eq_false_iff_ne.2 k0
      have t0:((⟨x.name.toArray⟩:ByteArray).toList == (⟨y.name.toArray⟩:ByteArray).toList)=false:=by rw [ByteArray.toList_eq,ByteArray.toList_eq];simpa using k0
      have hvf:=HNO.out _ k0 (fun h=>by
       subst h;have h9:=HXI.out.1.symm.trans HXI.out.2;injection h9 with h9
       rw [h9];simp)
      subst hvf;clear k0;go_wp2_with fail;go_quiet (fail);go_wp2;go_ret;exact ⟨rfl,by first | exact bwa | exact af bwa _⟩
     have h0:(x.name == y.name)=true:=beq_iff_eq.2 k0;have t0:((⟨x.name.toArray⟩:ByteArray).toList == (⟨y.name.toArray⟩:ByteArray).toList)=true:=by rw [ByteArray.toList_eq,ByteArray.toList_eq];simpa using k0
     have K0:=Qh k0;clear k0;by_cases k1:x.body=y.body;rotate_left
     ·have h1:(x.body == y.body)=false:=beq_eq_false_iff_ne.2 k1
      have hvf:=HNO.out _ k1 (fun h=>by
       subst h;have h9:=HXI.out.1.symm.trans HXI.out.2;injection h9 with h9
       rw [h9];simp)
      subst hvf;clear k1;go_wp2_with fail;go_quiet (fail);go_wp2;go_ret;exact ⟨rfl,by first | exact bwa | exact af bwa _⟩
     have h1:(x.body == y.body)=true:=beq_iff_eq.2 k1;have K1:=Qh k1;clear k1
     have hxy:x=y:=by
      have q0:=K0.out;have q1:=K1.out;obtain ⟨x0,x1⟩:=x;obtain ⟨y0,y1⟩:=y;simp only at q0 q1;rw [q0,q1]
     have HI2:Hid (L.drivers.take (i3+1)=M.drivers.take (i3+1)):=Qh (gV HI.out HXI.out.1 (by rw [hxy];exact HXI.out.2));clear hxy;go_wp2_with fail;go_quiet (fail);go_wp2_with fail;go_roundw
     case rel=>first | exact ⟨i3+1,by go_num,by omega,HI2,xa,xb,bwa⟩ | exact ⟨i3+1,by go_num,by omega,HI2,xa.drewN _,xb.drewN _,af bwa _⟩
     case measure=>simp [intOf];omega
    have hi1:((i3:Int) < (q:Int))=False:=by simp;omega
    have e2:L.drivers=M.drivers:=by
     have:=HI.out;rwa [List.take_of_length_le (by rw [HLen.out.2.2.1];exact hgei3),List.take_of_length_le (by rw [HLen.out.2.2.2];exact hgei3)] at this
    have Hdr:=Qh e2;have ca1:=xa.cell 3;clear e2
    have hvt:v=true:=HV.out.2 (by
     have q0:=HN.out;have q1:=HB.out;have q2:=Hjt.out;have q3:=Hdr.out;obtain ⟨a1,a2,a3,a4⟩:=L;obtain ⟨b1,b2,b3,b4⟩:=M;simp only at q0 q1 q2 q3
     rw [q0,q1,q2,q3])
    subst hvt;go_wp2;go_ret;exact ⟨rfl,bwa⟩
theorem rdw (q:Rat):RdW (rd q):=yh q
theorem eE.err {s:List UInt8}{x:Int}{L:ai}(h:eE s x L) (hx:x≠0):L=L0:=by
 cases h with
 | split _ _ _ h=>exact h
 | read _ _ _ _ h=>exact h
 | check _ _ _ _ _ h=>exact h
 | ok l hs hr hc h hL=>exact absurd h hx
theorem LkS.mono {k k':Nat}{w:World}{A B C:Option Addr}{n c p d q e:Nat}{L:ai}(h:LkS k w A n c B p d C q e L) (hk:k≤k'):LkS k' w A n c B p d C q e L:=by
 have hr:∀ g o r,cP w g o r k→cP w g o r k':=fun g o r ⟨b,A,n,c,D,m,e,h1,h2,h3,h4⟩=>⟨b,A,n,c,D,m,e,h1,h2,h3,h4.1,h4.2.1,h4.2.2.1,Nat.le_trans h4.2.2.2.1 hk,Nat.le_trans h4.2.2.2.2 hk⟩
 refine ⟨h.name,h.bodies.mono_ fun g o b _ hp=>?_,h.joints,h.drivers⟩;obtain ⟨A',n',c',c0,c1,hM,hn⟩:=hp;exact ⟨A',n',c',c0,c1,hM.mono_ fun g o m _ hm=>⟨hm.1,hr _ _ _ hm.2.1,hr _ _ _ hm.2.2.1,hm.2.2.2⟩,hn⟩
theorem ll {L:ai}(h:bZ L=0):zl L:=by
 have hF:=kN h;exact ⟨fun b hb m hm=>⟨((hF.body b hb).pts m hm).x,((hF.body b hb).pts m hm).y⟩,by have:=hF.ok.nb;omega,by have:=hF.ok.nj;omega,by have:=hF.ok.nd;omega,fun b hb=>by have:=(hF.ok.body b hb).np;omega⟩
def frL:ai:=⟨[109],[bdF],[],[]⟩
def bdK:aj:=⟨[99,114,97,110,107],[mkO,⟨[65],rd 1,rd 0⟩]⟩
def lF:ai:=⟨[109],[bdF,bdK],[⟨[106],0,1,0,0,0,0⟩],[]⟩
def crT:List UInt8:=[98,111,100,121,32,99,114,97,110,107,32,123,32,79,32,48,32,48,59,32,65,32,49,32,48,59].append [32,125,32,112,105,110,32,106,32,99,114,97,110,107,46,79,32,102,114,97,109,101,46,79,59]
def crE:ce:=⟨0,[],crT⟩
theorem nl:bZ frL=0:=by decide +kernel
theorem jw:bZ lF=0:=by decide +kernel
theorem xN:df frL=0:=by decide +kernel
theorem vP:Bn.shape (dV (cG frL ++ 32 :: crT))=some (lh lF):=by decide +kernel
theorem vQ:fQ lF.bodies≠true:=by decide +kernel
theorem zx:LkW lF:=by
 intro b hb m hm;have h:b=bdF∨b=bdK:=by simpa [lF] using hb
 have hm2:m=mkO∨m=mkC∨m=⟨[65],rd 1,rd 0⟩:=by
  rcases h with rfl | rfl
  ·have:m=mkO∨m=mkC:=by simpa [bdF] using hm
   rcases this with h | h
   ·exact .inl h
   exact .inr (.inl h)
  have:m=mkO∨m=⟨[65],rd 1,rd 0⟩:=by simpa [bdK] using hm
  rcases this with h | h
  ·exact .inl h
  exact .inr (.inr h)
 rcases hm2 with rfl | rfl | rfl <;> exact ⟨rdw _,rdw _⟩
theorem xO:eE (cG frL ++ 32 :: crT) 0 lF:=by
 have h:=vP
 cases ht:dV (cG frL ++ 32 :: crT) with
 | err n=>rw [ht] at h;cases h
 | ok l =>
  rw [ht] at h;injection h with h;obtain ⟨h1,h2⟩:=sW (l:=l) h (kN jw) zx vQ;exact .ok l (.ok (by decide +kernel) ht rfl) h1 (by rw [h2];exact jw) rfl h2.symm
theorem xP (w:World):Calls Tryz.prog 25 #[] w (fun e w'=>∃ g,e=.returned (.agg #[ae frL.name,.slice (some ⟨g,0,none⟩) 1 1,.slice none 0 0,.slice none 0 0])∧LkS 40 w' (some ⟨g,0,none⟩) 1 1 none 0 0 none 0 0 frL∧Below w.heap.size w w'):=by
 go_in;go_wp2_with fail;have q0:=(aa w).alloc Qr (.cells #[.string ⟨#[]⟩,.slice none 0 0,.slice none 0 0,.slice none 0 0] 26);have x0:Blk (w.alloc (.cells #[.string ⟨#[]⟩,.slice none 0 0,.slice none 0 0,.slice none 0 0] 26)) w.heap.size 26 #[.string ⟨#[]⟩,.slice none 0 0,.slice none 0 0,.slice none 0 0]:=Blk.new _ _ _;generalize (w.alloc (.cells #[.string ⟨#[]⟩,.slice none 0 0,.slice none 0 0,.slice none 0 0] 26))=w0 at q0 x0 ⊢;(with_reducible refine (Bx w0 4 (by decide) (by decide)).mono ?_);rintro e' w1 ⟨b,A,n,c,D,m,e,rfl,hq,hb1⟩;have x1:=x0.below hb1 x0.lt;have q1:=q0.trans (hb1.mono q0.size);have hlt:=x1.lt;have hne:¬ w.heap.size=w1.heap.size:=by omega
 have hne2:¬ w.heap.size=w1.heap.size+1:=by omega
 obtain ⟨a0,a1,a2,a3⟩:=x1.c4;obtain ⟨b0,b1,b2,b3⟩:=x1.f4;have HQ:=Qh hq;clear x0 q0 hb1 hq;go_wp2_with fail;refine bodyPost_ret (v:=.agg #[ae [109],.slice (some ⟨w1.heap.size+1,0,none⟩) 1 1,.slice none 0 0,.slice none 0 0]) (by simp [results,Tryz.results25,go_sem, *] <;> trivial) rfl ?_;have h4:((((w1.setCell ⟨w.heap.size,0,none⟩ (.string ⟨#[109]⟩)).setCell ⟨w.heap.size,1,none⟩ (.slice (some ⟨w1.heap.size+1,0,none⟩) 1 1)).setCell ⟨w.heap.size,2,none⟩ (.slice none 0 0)).setCell ⟨w.heap.size,3,none⟩ (.slice none 0 0)).heap.size=w1.heap.size:=by simp [World.setCell]
 have t4:=pe x1 ⟨rfl,rfl,rfl,rfl⟩ (.string ⟨#[109]⟩) (.slice (some ⟨w1.heap.size+1,0,none⟩) 1 1) (.slice none 0 0) (.slice none 0 0);have hq4:QD _ b A n c D m e (rd 4) 1:=QD.tch HQ.out t4;have q4:=lb q1 Qr (.string ⟨#[109]⟩) (.slice (some ⟨w1.heap.size+1,0,none⟩) 1 1) (.slice none 0 0) (.slice none 0 0);generalize ((((w1.setCell ⟨w.heap.size,0,none⟩ (.string ⟨#[109]⟩)).setCell ⟨w.heap.size,1,none⟩ (.slice (some ⟨w1.heap.size+1,0,none⟩) 1 1)).setCell ⟨w.heap.size,2,none⟩ (.slice none 0 0)).setCell ⟨w.heap.size,3,none⟩ (.slice none 0 0))=w4 at h4 hq4 q4 ⊢;rw [← h4];clear x1 t4 HQ a0 a1 a2 a3 b0 b1 b2 b3;have hM:=BE (w:=w4) (nm:=[67]) (t:=56) (hq4.mono (show 1≤40 by decide)) (qv0 w4).rd_ rfl;obtain ⟨gm,em,hS⟩:=hM;injection em with em;injection em with em;injection em with em;subst em;have q5:=(aa w4).alloc Qr (.cells #[.string ⟨#[79]⟩,.bool false,.slice none 0 0,.slice none 0 0,.bool false,.slice none 0 0,.slice none 0 0,ae [67],.bool b,.slice A n c,.slice D m e,.bool false,.slice none 0 0,.slice none 0 0] 56);have hsz:(w4.alloc (.cells #[.string ⟨#[79]⟩,.bool false,.slice none 0 0,.slice none 0 0,.bool false,.slice none 0 0,.slice none 0 0,ae [67],.bool b,.slice A n c,.slice D m e,.bool false,.slice none 0 0,.slice none 0 0] 56)).heap.size=w4.heap.size+1:=by simp
 have q45:=q4.trans (q5.mono q4.size);generalize (w4.alloc (.cells #[.string ⟨#[79]⟩,.bool false,.slice none 0 0,.slice none 0 0,.bool false,.slice none 0 0,.slice none 0 0,ae [67],.bool b,.slice A n c,.slice D m e,.bool false,.slice none 0 0,.slice none 0 0] 56))=w5 at hS hsz q45 ⊢;generalize w4.heap.size=gm at hS hsz ⊢;rw [← hsz];have q6:=(aa w5).alloc Qr (.cells #[ae [102,114,97,109,101],.slice (some ⟨gm,0,none⟩) 2 2] 51);have x6:=Blk.new w5 51 #[ae [102,114,97,109,101],.slice (some ⟨gm,0,none⟩) 2 2];exact ⟨w5.heap.size,rfl,⟨by show ([109]:List UInt8).length < _;decide,Aw x6.lt ⟨_,_,_,x6.cell 0,x6.cell 1,hS.mk_ q6,by show ([102,114,97,109,101]:List UInt8).length < _;decide⟩,⟨rfl,Qr,fun h=>absurd h (by omega)⟩,⟨rfl,Qr,fun h=>absurd h (by omega)⟩⟩,q45.trans (q6.mono q45.size)⟩
theorem rF (w:World):Calls Tryz.prog 26 #[] w (aB w (.agg #[.int .i64 crE.kind,ae crE.name,ae crE.text])):=by
 go_in;go_wp2_with fail;refine bodyPost_ret (v:=.agg #[.int .i64 crE.kind,ae crE.name,ae crE.text]) (by simp [results,Tryz.results26,go_sem, *] <;> first | rfl | exact ⟨rfl,rfl⟩ | exact ⟨rfl,rfl,rfl⟩) rfl ?_;exact ⟨rfl,(aa w).alloc Qr _⟩
theorem AU (N:Nat→Prop) (B:Nat) (w:World) (A:Option Addr) (n c:Nat) (C:Option Addr) (p d:Nat) (D:Option Addr) (q e:Nat) (L:ai) (h:LkS 130 w A n c C p d D q e L) (hL:bZ L=0) (hB:B≤w.heap.size) (hN:∀ x,N x→x < w.heap.size):Calls Tryz.prog 12 #[.agg #[ae L.name,.slice A n c,.slice C p d,.slice D q e]] w (fun e' w'=>∃ gl,e'=.returned (.tuple #[.pointer (some ⟨gl,0,none⟩),.nilIface])∧js N B w' gl ⟨L,[],[],[]⟩∧Below w.heap.size w w'):=by
 have q0:=(aa w).alloc Qr (.cells #[ae L.name,.slice A n c,.slice C p d,.slice D q e] 26);have x0:Blk (w.alloc (.cells #[ae L.name,.slice A n c,.slice C p d,.slice D q e] 26)) w.heap.size 26 #[ae L.name,.slice A n c,.slice C p d,.slice D q e]:=Blk.new _ _ _;have H0:=Qh (h.belw q0);go_in;go_wp2_with fail;generalize (w.alloc (.cells #[ae L.name,.slice A n c,.slice C p d,.slice D q e] 26))=w0 at q0 x0 H0 ⊢;(with_reducible refine (gM w0 A n c C p d D q e L 130 H0.out (by decide) (by decide) 0 hL).mono ?_);rintro e' w1 ⟨rfl,hb1⟩;rw [bo];have x1:=x0.below hb1 x0.lt;have H1:=Qh (H0.out.belw hb1);have q1:=q0.trans (hb1.mono q0.size);obtain ⟨a0,a1,a2,a3⟩:=x1.c4;clear x0 q0 hb1 h;go_wp2_with fail;(with_reducible refine (zm w1 A n c C p d D q e L H1.out (ll hL)).mono ?_);rintro e' w2 ⟨A2,n2,c2,C2,p2,d2,D2,q2,f2,rfl,hcp,hb2⟩;have qb:=q1.trans (hb2.mono q1.size);have HY:=Qh hcp.lkY;clear a0 a1 a2 a3 hcp;go_wp2_with fail;go_ret2;have q3:=(aa w2).alloc Qr (.cells #[ae L.name,.slice A2 n2 c2,.slice C2 p2 d2,.slice D2 q2 f2,.slice none 0 0,.slice none 0 0,.slice none 0 0] 73);have hs:=qb.size;refine ⟨w2.heap.size,rfl,⟨A2,n2,c2,C2,p2,d2,D2,q2,f2,.slice none 0 0,.slice none 0 0,.slice none 0 0,⟨Blk.new _ _ _,by omega,fun x hx=>?_,fun hx=>?_,rfl,rfl,rfl,rfl,rfl,rfl,rfl⟩,HY.out.blw q3,aW.nil,aW.nil,aW.nil,fun x e=>by cases e⟩,qb.trans (q3.mono hs)⟩
 ·have:=hN x hx
  have:=q3.size;omega
 have:=hN _ hx;omega
theorem AV (L:ai) (hL:bZ L=0) (ho:df L=0) (T:List UInt8) (hT:T.length≤1000000) (x:Int) (L':ai) (hR:eE (cG L ++ 32 :: T) x L'):ApC L ⟨0,[],T⟩ x L':=by
 intro w A n c C p d D q e htab hmx hY;have e1:dp L=cG L:=if_pos ho;have HR:=Qh hR;have x0:Blk (((w.alloc (.cells #[ae L.name,.slice A n c,.slice C p d,.slice D q e] 26)).alloc (.cells #[.int .i64 0,.string ⟨#[]⟩,ae T] 39)).alloc (.cells #[.string ⟨#[]⟩,.slice none 0 0,.slice none 0 0,.slice none 0 0] 26)) w.heap.size 26 #[ae L.name,.slice A n c,.slice C p d,.slice D q e]:=((Blk.new _ _ _).alloc _).alloc _;have y0:Blk (((w.alloc (.cells #[ae L.name,.slice A n c,.slice C p d,.slice D q e] 26)).alloc (.cells #[.int .i64 0,.string ⟨#[]⟩,ae T] 39)).alloc (.cells #[.string ⟨#[]⟩,.slice none 0 0,.slice none 0 0,.slice none 0 0] 26)) (w.heap.size+1) 39 #[.int .i64 0,.string ⟨#[]⟩,ae T]:=(ak _ _ _ (by simp)).alloc _;have z0:Blk (((w.alloc (.cells #[ae L.name,.slice A n c,.slice C p d,.slice D q e] 26)).alloc (.cells #[.int .i64 0,.string ⟨#[]⟩,ae T] 39)).alloc (.cells #[.string ⟨#[]⟩,.slice none 0 0,.slice none 0 0,.slice none 0 0] 26)) (w.heap.size+1+1) 26 #[.string ⟨#[]⟩,.slice none 0 0,.slice none 0 0,.slice none 0 0]:=ak _ _ _ (by simp);have q0:=(((aa w).alloc Qr (.cells #[ae L.name,.slice A n c,.slice C p d,.slice D q e] 26)).alloc (by simp) (.cells #[.int .i64 0,.string ⟨#[]⟩,ae T] 39)).alloc (by simp;omega) (.cells #[.string ⟨#[]⟩,.slice none 0 0,.slice none 0 0,.slice none 0 0] 26);have H0:=Qh (hY.blw q0);have HTab:=Qh htab;have HM:=Qh hmx;clear hR hY htab hmx;go_in;go_wp2_with fail;generalize (((w.alloc (.cells #[ae L.name,.slice A n c,.slice C p d,.slice D q e] 26)).alloc (.cells #[.int .i64 0,.string ⟨#[]⟩,ae T] 39)).alloc (.cells #[.string ⟨#[]⟩,.slice none 0 0,.slice none 0 0,.slice none 0 0] 26))=w0 at x0 y0 z0 q0 H0 ⊢;(with_reducible refine (gM w0 A n c C p d D q e L 130 H0.out.out (by decide) (by decide) 0 hL).mono ?_);rintro e' w1 ⟨rfl,hb1⟩;rw [bo];have x1:=x0.below hb1 x0.lt;have y1:=y0.below hb1 y0.lt;have z1:=z0.below hb1 z0.lt;have H1:=Qh (H0.out.blw hb1);have q1:=q0.trans (hb1.mono q0.size);obtain ⟨a0,a1,a2,a3⟩:=x1.c4;clear x0 y0 z0 q0 hb1 H0;go_wp2_with fail;(with_reducible refine (zm w1 A n c C p d D q e L H1.out.out (ll hL)).mono ?_);rintro e' w2 ⟨A2,n2,c2,C2,p2,d2,D2,r2,f2,rfl,hcp,hb2⟩;have x2:=x1.below hb2 x1.lt;have y2:=y1.below hb2 y1.lt;have z2:=z1.below hb2 z1.lt;have q2:=q1.trans (hb2.mono q1.size);have HY:=Qh hcp.lkY;obtain ⟨f0,f1,f2',f3⟩:=x2.f4;obtain ⟨c0,c1,c2',c3⟩:=x2.c4;clear x1 y1 z1 q1 hb2 H1 a0 a1 a2 a3 hcp;have hz0:=x2.lt;have hz1:=y2.lt;have hz2:=z2.lt;have g0:=y2.cell 0;have g1:=y2.cell 1;have g2:=y2.cell 2;have hn1:¬ w.heap.size+1=w.heap.size:=by omega
 have hn2:¬ w.heap.size=w.heap.size+1:=by omega
 go_wp2_with fail;have t3:=pe x2 ⟨rfl,rfl,rfl,rfl⟩ (ae L.name) (.slice A2 n2 c2) (.slice C2 p2 d2) (.slice D2 r2 f2);have HY3:=Qh (HY.out.tch t3 (by decide) (by decide) (by decide) (by decide));have q3:=lb q2 Qr (ae L.name) (.slice A2 n2 c2) (.slice C2 p2 d2) (.slice D2 r2 f2);have far:∀ {g t:Nat}{cs:Array Value},Blk w2 g t cs→g≠w.heap.size→Blk ((((w2.setCell ⟨w.heap.size,0,none⟩ (ae L.name)).setCell ⟨w.heap.size,1,none⟩ (.slice A2 n2 c2)).setCell ⟨w.heap.size,2,none⟩ (.slice C2 p2 d2)).setCell ⟨w.heap.size,3,none⟩ (.slice D2 r2 f2)) g t cs:=fun x hne=>(((x.far (p:=⟨w.heap.size,0,none⟩) hne _).far (p:=⟨w.heap.size,1,none⟩) hne _).far (p:=⟨w.heap.size,2,none⟩) hne _).far (p:=⟨w.heap.size,3,none⟩) hne _
 have y3:=far y2 (by omega);have z3:=far z2 (by omega);clear x2 y2 z2 q2 HY t3 far c0 c1 c2' c3 f0 f1 f2' f3 g0 g1 g2;generalize ((((w2.setCell ⟨w.heap.size,0,none⟩ (ae L.name)).setCell ⟨w.heap.size,1,none⟩ (.slice A2 n2 c2)).setCell ⟨w.heap.size,2,none⟩ (.slice C2 p2 d2)).setCell ⟨w.heap.size,3,none⟩ (.slice D2 r2 f2))=w3 at HY3 q3 y3 z3 ⊢;(with_reducible refine (AA w3 A2 n2 c2 C2 p2 d2 D2 r2 f2 L (HY3.out.out.upto (by decide)) (HTab.out.belw q3)).mono ?_);rintro e' w4 ⟨rfl,hb4⟩;rw [e1,ho,bo];have y4:=y3.below hb4 y3.lt;have z4:=z3.below hb4 z3.lt;have q4:=q3.trans (hb4.mono q3.size);have g2:=y4.cell 2;have hS:(cG L ++ [32]) ++ T=cG L ++ 32 :: T:=by simp
 have hl:(cG L).length≤65536:=by
  unfold df at ho;rw [if_neg (by simp [hL])] at ho;split at ho
  ·omega
  rename_i hh;omega
 have k1:(9223372036854775807 < (cG L).length+1)=False:=eq_false (by omega);have k2:(9223372036854775807 < (cG L).length+1+T.length)=False:=eq_false (by omega);clear HY3 y3 z3 q3 hb4;go_wp2_with fail
 have es:Value.string ((⟨(cG L).toArray⟩:ByteArray) ++ ⟨#[32]⟩ ++ ⟨T.toArray⟩)=ae (cG L ++ 32 :: T):=by
  rw [← hS];congr 1
 rw [es];(with_reducible refine (pg w4 _ x L' (HM.out.belw q4) HR.out).mono ?_);rintro e' w5 ⟨A3,n3,c3,C3,p3,d3,D3,r3,f3,rfl,hY5,hb5⟩;have z5:=z4.below hb5 z4.lt;have q5:=q4.trans (hb5.mono q4.size);have HY5:=Qh hY5;obtain ⟨a0,a1,a2,a3⟩:=z5.c4;have b0:=z5.f4;clear g2 y4 z4 q4 hb5 hY5 es hS;go_wp2_with fail;refine bodyPost_ret (v:=.tuple #[.agg #[ae L'.name,.slice A3 n3 c3,.slice C3 p3 d3,.slice D3 r3 f3],be x]) (by simp [results,Tryz.results15,go_sem, *] <;> trivial) rfl ?_;exact ⟨_,_,_,_,_,_,_,_,_,rfl,HY5.out.tch (pe z5 ⟨rfl,rfl,rfl,rfl⟩ _ _ _ _) (by decide) (by decide) (by decide) (by decide),lb q5 (by omega) _ _ _ _⟩
theorem pm:ApC frL crE 0 lF:=AV frL nl xN crT (by decide) 0 lF xO
theorem AW (s a b c:Value) (w:World):(Instr.field 26 (.agg #[s,a,b,c]) 1).run Tryz.prog w=.ok a w:=by kernel_rfl
theorem AX (s a b c:Value) (w:World):(Instr.field 26 (.agg #[s,a,b,c]) 2).run Tryz.prog w=.ok b w:=by kernel_rfl
theorem s9 (w:World) (htab:Tab w) (hmx:Mx w):Calls Tryz.prog 8 #[] w (aB w (.bool true)):=by
 have HTab:=Qh htab;have HM:=Qh hmx;have hfb:=AW;have hfj:=AX;clear htab hmx;go_in;go_wp2_with fail;(with_reducible refine (xP w).mono ?_);rintro e' w1 ⟨g1,rfl,hL,hb1⟩;have q1:=hb1;go_wp2_with fail;(with_reducible refine (AU (fun x=>x < w.heap.size) w.heap.size w1 (some ⟨g1,0,none⟩) 1 1 none 0 0 none 0 0 frL (hL.upto (by decide)) nl q1.size (fun x hx=>Nat.lt_of_lt_of_le hx q1.size)).mono ?_);rintro e' w2 ⟨gl,rfl,hG2,hb2⟩;have q2:=q1.trans (hb2.mono q1.size);clear hL hb1 q1 hb2;go_wp2_with fail;(with_reducible refine (rF w2).mono ?_);rintro e' w3 ⟨rfl,hb3⟩;have hG3:=hG2.blw hb3;have q3:=q2.trans (hb3.mono q2.size);clear hG2 q2 hb3;go_wp2_with fail;(with_reducible refine (BK _ _ w3 gl _ hG3 crE 0 lF pm (by decide) (HTab.out.belw q3) (HM.out.belw q3)).mono ?_);rintro e' w4 ⟨rfl,_,h4⟩;rw [bo];obtain ⟨r4,hG4⟩:=h4 rfl;have q4:=q3.trans r4.bel;clear hG3 q3 r4 h4;go_wp2_with fail;(with_reducible refine (vB _ _ w4 gl _ hG4 (ll jw)).mono ?_);rintro e' w5 ⟨A5,n5,c5,C5,p5,d5,D5,k5,f5,rfl,hY5,hb5⟩;obtain rfl:2=n5:=hY5.len.1;have hG5:=hG4.blw hb5;have q5:=q4.trans (hb5.mono q4.size);clear hG4 q4 hb5 hY5;go_wp2_with fail;(with_reducible refine (zk _ _ w5 gl _ hG5 0 rfl frL rfl crE rfl (by decide) (by decide)).mono ?_);rintro e' w6 ⟨rfl,_,h6⟩;rw [bo];obtain ⟨r6,hG6⟩:=h6 rfl;have q6:=q5.trans r6.bel;clear hG5 q5 r6 h6;go_wp2_with fail;(with_reducible refine (vB _ _ w6 gl _ hG6 (ll nl)).mono ?_);rintro e' w7 ⟨A7,n7,c7,C7,p7,d7,D7,k7,f7,rfl,hY7,hb7⟩;obtain rfl:1=n7:=hY7.len.1;have hG7:=hG6.blw hb7;have q7:=q6.trans (hb7.mono q6.size);clear hG6 q6 hb7 hY7;go_wp2_with fail;(with_reducible refine (zp _ _ w7 gl _ hG7 0 rfl crE rfl 0 lF pm (by decide) (by decide) (HTab.out.belw q7) (HM.out.belw q7)).mono ?_);rintro e' w8 ⟨rfl,_,h8⟩;rw [bo];obtain ⟨r8,hG8⟩:=h8 rfl;have q8:=q7.trans r8.bel;clear hG7 q7 r8 h8;go_wp2_with fail;(with_reducible refine (vB _ _ w8 gl _ hG8 (ll jw)).mono ?_);rintro e' w9 ⟨A9,n9,c9,C9,p9,d9,D9,k9,f9,rfl,hY9,hb9⟩;obtain rfl:1=p9:=hY9.len.2.1;have hG9:=hG8.blw hb9;have q9:=q8.trans (hb9.mono q8.size);clear hG8 q8 hb9 hY9;go_wp2_with fail;(with_reducible refine (zo _ _ w9 gl _ hG9 (by decide)).mono ?_);rintro e' wa ⟨Aa,ca,rfl,hSa,hba⟩;have qa:=q9.trans (hba.mono q9.size);clear hG9 q9 hba;go_wp2_with fail;(with_reducible refine (rF wa).mono ?_);rintro e' wb ⟨rfl,hbb⟩;have qb:=qa.trans (hbb.mono qa.size);have hSb:=hSa.ed hbb;clear hSa qa hbb;go_wp2_with fail;have qc:=(aa wb).alloc Qr (.cells #[.int .i64 crE.kind,ae crE.name,ae crE.text] 39);have xc:=Blk.new wb 39 #[.int .i64 crE.kind,ae crE.name,ae crE.text];have hSc:SlS il 3 _ Aa 1 ca [crE]:=hSb.ed qc;have qd:=qb.trans (qc.mono qb.size);have hTc:SlS il 3 _ (some ⟨wb.heap.size,0,none⟩) 1 1 [crE]:=Aw xc.lt ⟨xc.cell 0,xc.cell 1,xc.cell 2⟩;generalize (wb.alloc (.cells #[.int .i64 crE.kind,ae crE.name,ae crE.text] 39))=wc at xc hSc qd hTc qc ⊢;(with_reducible refine (vD wc Aa 1 ca [crE] hSc (some ⟨wb.heap.size,0,none⟩) 1 hTc (by decide)).mono ?_);rintro e' wd ⟨rfl,hbd⟩;have qe:=qd.trans (hbd.mono qd.size);clear hSb hSc hTc xc qc qb qd hbd;go_wp2;go_ret;exact ⟨rfl,qe⟩
theorem ta (w:World) (k:Int) (nm tx:List UInt8) (htab:Tab w) (hmx:Mx w):Calls Tryz.prog 7 #[.agg #[.int .i64 k,ae nm,ae tx]] w (aB w (.bool true)):=by
 have q0:=(aa w).alloc Qr (.cells #[.int .i64 k,ae nm,ae tx] 39);have x0:=Blk.new w 39 #[.int .i64 k,ae nm,ae tx];have HTab:=Qh (htab.belw q0);have HM:=Qh (hmx.belw q0);have v1:be 1=.iface 58 (.int .i64 1):=eVp (by decide);clear htab hmx;go_in;go_wp2_with fail;generalize (w.alloc (.cells #[.int .i64 k,ae nm,ae tx] 39))=w0 at q0 x0 HTab HM ⊢;(with_reducible refine (s9 w0 HTab.out HM.out).mono ?_);rintro e' w1 ⟨rfl,hb1⟩;have x1:=x0.below hb1 x0.lt;have q1:=q0.trans (hb1.mono q0.size);have c0:=x1.cell 0;have c1:=x1.cell 1;have c2:=x1.cell 2;clear x0 q0 hb1;go_wp2_with fail;(with_reducible refine (vC w1 ⟨k,nm,tx⟩).mono ?_);rintro e' w2 ⟨rfl,hb2⟩;rw [v1];have q2:=q1.trans (hb2.mono q1.size);clear c0 c1 c2 q1 hb2 x1;go_wp2_with fail;(with_reducible refine (yP w2 1).mono ?_);rintro e' w3 ⟨rfl,hb3⟩;have q3:=q2.trans (hb3.mono q2.size);clear q2 hb3;go_wp2_with fail;(with_reducible refine (qx w3).mono ?_);rintro e' w4 ⟨rfl,hb4⟩;rw [v1];have q4:=q3.trans (hb4.mono q3.size);clear q3 hb4;go_wp2_with fail;(with_reducible refine (yP w4 1).mono ?_);rintro e' w5 ⟨rfl,hb5⟩;have q5:=q4.trans (hb5.mono q4.size);clear q4 hb5;go_wp2_with fail;(with_reducible refine (qA w5).mono ?_);rintro e' w6 ⟨rfl,hb6⟩;rw [v1];have q6:=q5.trans (hb6.mono q5.size);clear q5 hb6;go_wp2_with fail;(with_reducible refine (yP w6 1).mono ?_);rintro e' w7 ⟨rfl,hb7⟩;have q7:=q6.trans (hb7.mono q6.size);clear q6 hb7;go_wp2_with fail;(with_reducible refine (sV w7).mono ?_);rintro e' w8 ⟨rfl,hb8⟩;have q8:=q7.trans (hb8.mono q7.size);clear q7 hb8;go_wp2_with fail;have hl0:Calls Tryz.prog 16 #[.agg #[.string ⟨#[]⟩,.slice none 0 0,.slice none 0 0,.slice none 0 0],.agg #[.string ⟨#[]⟩,.slice none 0 0,.slice none 0 0,.slice none 0 0]] w8 (aB w8 (.bool true)):=vO w8 none 0 0 none 0 0 none 0 0 L0 (m8 w8 _) none 0 0 none 0 0 none 0 0 L0 (m8 w8 _) (fun b hb=>(List.not_mem_nil hb).elim) (by decide) (by decide) (by decide) true ⟨fun _=>rfl,fun _=>rfl⟩;(with_reducible refine hl0.mono ?_);rintro e' w9 ⟨rfl,hb9⟩;have q9:=q8.trans (hb9.mono q8.size);clear q8 hb9 hl0;go_wp2_with fail;(with_reducible refine (qB w9).mono ?_);rintro e' wa ⟨rfl,hba⟩;have qa:=q9.trans (hba.mono q9.size);clear q9 hba;go_wp2_with fail;(with_reducible refine (ng wa).mono ?_);rintro e' wb ⟨rfl,hbb⟩;have qb:=qa.trans (hbb.mono qa.size);clear qa hbb;go_wp2;go_ret;exact ⟨rfl,qb⟩
end Go.Proofs.YtndhgcfajlalhaaGreatDoor
namespace Go.Proofs.YtndhgcfajlalhaaGreatDoor
open Go Go.RowKit Bn Go.ChangeShapes Go.WideShapes
attribute [local go_sem ↓] Go.wp_at_zero Go.wp_at_succ

theorem lm {H:Type}{enc:TypeId × Value→H}{W:World}{P:Program}(hl:laidOutB P=true) {W':World}(hb:Below W.heap.size W W'):∀ {ts:List TypeId}{vs:List Value}{ds:List (DataW H)}{ps:List MemPlace},(ts.all fun t=>P.readableRec t && decide (t < P.types.size))=true →
 DataW.TrodAll enc P W 0 (fun _=>true) true ts vs ds ps→DataW.TrodAll enc P W' 0 (fun b=>decide (b < W.heap.size)) true ts vs ds ps
 | [],[],[],_,_,h=>h
 | _ :: _,_ :: _,_ :: _,_,hr,h=>by
  have hlt:=h.lt;obtain ⟨p,q,h1,h2,e⟩:=h;rw [List.all_cons,Bool.and_eq_true,Bool.and_eq_true,decide_eq_true_eq] at hr;exact ⟨p,q,Below.trod hl hr.1.1 hr.1.2 h1 hb (fun x hx=>hlt x (by rw [e];exact List.mem_append_left _ hx)),lm hl hb hr.2 h2,e⟩
 | [],[],_ :: _,_,_,h=>h.elim
 | [],_ :: _,_,_,_,h=>h.elim
 | _ :: _,[],_,_,_,h=>h.elim
 | _ :: _,_ :: _,[],_,_,h=>h.elim
theorem vR {H:Type}{enc:TypeId × Value→H}{W:World}{P:Program}{B:TypeId}{f:Func}{s:ChangeSpec}{W':World}{args:Array Value}{ds:List (DataW H)}{before:List MemPlace}(hl:laidOutB P=true) (hB:P.underlying B=some .bool)
 (hW:DataW.Whole enc P f.params.toList s.vars false W args.toList ds [] before) (hv:s.vars=[]) (hr:f.resultTypes=#[B]) (hp:(f.params.toList.all fun t=>P.readableRec t && decide (t < P.types.size))=true)
 (hres:(s.fn H (ds ++ [])).results=[.lit (.bool true)]) (hargs:(s.fn H (ds ++ [])).args=ds) (hvars:(s.fn H (ds ++ [])).vars=[]) (hb:Below W.heap.size W W') :
 s.post enc P f false true false false W args (.bool true) W':=by
 have hW':=hW;obtain ⟨p,q,hA,hV,rfl,_,_⟩:=hW;have hV':=hV;rw [hv] at hV';obtain ⟨_,rfl⟩:=trodVars_none hV';refine ⟨ds,[],_,[],p,[],hW',?_,?_,?_,hb.frame _,fun h=>by cases h⟩
 ·rw [hr,hres]
  exact trodAll_mk1 (shut_bool hB _)
 ·rw [hargs]
  exact lm hl hb hp hA
 rw [hv,hvars];rfl
theorem nq {P:Program}{f:FuncId}{fn:Func}{s:ChangeSpec}{c:OpenClaim}
 (h1:(c.wf (OpenSpec.ofChange s) && laidOutB P && mapsRowed P && fn.params.all (P.readableRec ·) && namedTie P c.named s.vars && (c.stops == []) && (P.stops == []) && (c.knobs == []) && (P.stopKnobs == []))=true)
 (h2:(c.inPlace == P.inPlace f)=true) (h3:(c.unfollowed == P.unfollowed f)=true) (h4:(c.recurses == P.recurses f)=true) (h5:(c.named == P.varsNamed f)=true)
 (h6:((c.maps == (fn.params.toList ++ s.plain.varTypes P).any (P.mapsRec ·)) && (c.ifaces == (fn.params.toList ++ s.plain.varTypes P).any (P.ifacesRec ·)) && (c.mapsOut == P.mapsAmong fn.resultTypes.toList) &&
  (c.loops == (fn.params.toList ++ s.plain.varTypes P).any (P.loopsFrom ·)) && (c.wideKeys == (fn.params.toList ++ s.plain.varTypes P ++ fn.resultTypes.toList).any (P.wideKeysFrom ·)) &&
  s.vars.all (P.varReadable ·) && fn.resultTypes.all (fun t=>P.readableRec t && decide (t < P.types.size)) && (c.ifacesOut == fn.resultTypes.toList.any (P.ifacesRec ·)) && (c.loopsOut == fn.resultTypes.toList.any (P.loopsFrom ·)) && (c.plainKeys == P.plainKeys) && c.shortTexts.isNone && P.stopsHeard && P.mayEnter && (c.lifted == P.liftsFinal) && (P.make == some c.make) && (c.kinds == (if c.domain.isEmpty then [] else fn.params.toList.map fun t=>match P.underlying t with | some (.int k)=>some k | _=>none)) && (c.pinned == c.pinnedBy) &&
  (c.veiled == (fn.params.toList ++ s.plain.varTypes P ++ fn.resultTypes.toList).any (P.veiledRec ·)) && c.veiledFits P fn.params.toList (fn.params.toList ++ s.plain.varTypes P ++ fn.resultTypes.toList))=true):joinedFacts P f fn s c=true:=by
 unfold joinedFacts;simp only [Bool.and_eq_true] at h1 h6 ⊢;obtain ⟨⟨⟨⟨⟨⟨⟨⟨a0,a1⟩,a2⟩,a3⟩,a4⟩,a5⟩,a6⟩,a7⟩,a8⟩:=h1;obtain ⟨⟨⟨⟨⟨⟨⟨⟨⟨⟨⟨⟨⟨⟨⟨⟨⟨⟨b0,b1⟩,b2⟩,b3⟩,b4⟩,b5⟩,b6⟩,b7⟩,b8⟩,b9⟩,b10⟩,b11⟩,b12⟩,b13⟩,b14⟩,b15⟩,b16⟩,b17⟩,b18⟩:=h6;exact ⟨⟨⟨⟨⟨⟨⟨⟨⟨⟨⟨⟨⟨⟨⟨⟨⟨⟨⟨⟨⟨⟨⟨⟨⟨⟨⟨⟨⟨⟨⟨a0,a1⟩,a2⟩,a3⟩,a4⟩,a5⟩,a6⟩,a7⟩,a8⟩,h2⟩,h3⟩,h4⟩,h5⟩,b0⟩,b1⟩,b2⟩,b3⟩,b4⟩,b5⟩,b6⟩,b7⟩,b8⟩,b9⟩,b10⟩,b11⟩,b12⟩,b13⟩,b14⟩,b15⟩,b16⟩,b17⟩,b18⟩
section
variable {H:Type}{enc:TypeId × Value→H}{W:World}{base:Nat}
theorem vS {t:TypeId}{fs:Array Field}{ts:List TypeId}{v:Value}(hu:Tryz.prog.underlying t=some (.struct fs)) (hts:Tryz.prog.cellTypes Tryz.prog.depth t=some ts) (hn:Tryz.prog.cellsOf t=ts.length) (h:Value.okWide Tryz.prog W .any base t v) :
 ∃ cs:Array Value,v=.agg cs∧cs.size=ts.length∧∀ (i:Nat) (v:Value) (u:TypeId),cs[i]?=some v→ts[i]?=some u→Cell.okWide Tryz.prog W .any base u v:=by
 unfold Value.okWide at h;rw [hu] at h;obtain ⟨cs,rfl,hsz,ts',hts',_,hc⟩:=h;rw [hts] at hts';injection hts' with e;subst e;rw [hn] at hsz;refine ⟨cs,rfl,hsz,fun i v u hi hu=>?_⟩;obtain ⟨u',h1,h2⟩:=hc i v hi;have hlt:i < ts.length:=by rw [← hsz];exact (Array.getElem?_eq_some_iff.1 hi).1
 rw [Nat.mod_eq_of_lt hlt,hu] at h1;injection h1 with h1;subst h1;exact h2
end
theorem nr {W:World}(h:W.ShapedOpen Tryz.prog):∃ m,W.cell? ⟨0,0,none⟩=some (.int .i64 m) :=
 Go.Proofs.cell_of_shapedOpen_int (P:=Tryz.prog) (g:=0) (t:=3) (zero:=#[.int .i64 0]) h (of_decide_eq_true (by kernel_rfl)) (by kernel_rfl) rfl (by kernel_rfl) (by kernel_rfl) Tryz.underlying3
theorem AY : Tryz.prog.globalNamed "internal/strconv.uint64pow10" = some 3 := by kernel_rfl
theorem zy:(Tryz.prog.globals[3]?).map (·.type)=some 242:=by kernel_rfl
theorem tb:Tryz.prog.cellsOf 242=20:=by kernel_rfl
theorem tc:Tryz.prog.cellsOf 179=1:=by kernel_rfl
theorem vT {H:Type}:(Rows.laid_internal_strconv_uint64pow10:DataW H)=Lib.tabData .u64 Lib.pow10Tab:=by kernel_rfl
theorem po {rest : List (String × DataW Unit)} {W : World} (h : laidMet Tryz.prog (("math/bits.deBruijn32tab", Rows.laid_math_bits_deBruijn32tab) :: ("math/bits.deBruijn64tab", Rows.laid_math_bits_deBruijn64tab) :: ("internal/strconv.uint64pow10", Rows.laid_internal_strconv_uint64pow10) :: rest) W) : Tab W := by
 obtain ⟨ps,⟨_,_,_,_,_,_,_,_,_,_,⟨_,_,_,_,_,_,_,_,_,_,⟨g,t,cs,f,p,q,hg,ht,hv,hd,_,_⟩,_⟩,_⟩,_,_⟩:=h;obtain rfl:=Option.some.inj (AY.symm.trans hg);obtain rfl:=Option.some.inj (zy.symm.trans ht);rw [vT] at hd;unfold Tab Lib.TabIs;rw [hv,← Lib.cells_of_tab Tryz.underlying242 Tryz.underlying179 tc tb hd]
noncomputable def low:Nat:=(World.holding Tryz.prog default ⟨#[],#[],[]⟩).heap.size
noncomputable def jV (os:Os):World :=
  let w0:=World.holding Tryz.prog os ⟨#[.cells #[.string ⟨#[118,97,108,117,101,32,111,117,116,32,111,102,32,114,97,110,103,101]⟩] 254,.cells #[.string ⟨#[105,110,118,97,108,105,100,32,115,121,110,116,97,120]⟩] 254],#[],[]⟩
  { w0 with heap:=(((((((w0.heap.modify 3 fun
      | .cells _ t frozen=>.cells (#[.int .u64 1,.int .u64 10,.int .u64 100,.int .u64 1000,.int .u64 10000,.int .u64 100000,.int .u64 1000000,.int .u64 10000000,.int .u64 100000000,.int .u64 1000000000,.int .u64 10000000000,.int .u64 100000000000,.int .u64 1000000000000,.int .u64 10000000000000,.int .u64 100000000000000,.int .u64 1000000000000000,.int .u64 10000000000000000,.int .u64 100000000000000000,.int .u64 1000000000000000000,.int .u64 10000000000000000000]) t frozen
      | o=>o).modify 6 fun
      | .cells _ t frozen=>.cells (#[.int .u8 0,.int .u8 1,.int .u8 28,.int .u8 2,.int .u8 29,.int .u8 14,.int .u8 24,.int .u8 3,.int .u8 30,.int .u8 22,.int .u8 20,.int .u8 15,.int .u8 25,.int .u8 17,.int .u8 4,.int .u8 8,.int .u8 31,.int .u8 27,.int .u8 13,.int .u8 23,.int .u8 21,.int .u8 19,.int .u8 16,.int .u8 7,.int .u8 26,.int .u8 12,.int .u8 18,.int .u8 6,.int .u8 11,.int .u8 5,.int .u8 10,.int .u8 9]) t frozen
      | o=>o).modify 7 fun
      | .cells _ t frozen=>.cells (#[.int .u8 0,.int .u8 1,.int .u8 56,.int .u8 2,.int .u8 57,.int .u8 49,.int .u8 28,.int .u8 3,.int .u8 61,.int .u8 58,.int .u8 42,.int .u8 50,.int .u8 38,.int .u8 29,.int .u8 17,.int .u8 4,.int .u8 62,.int .u8 47,.int .u8 59,.int .u8 36,.int .u8 45,.int .u8 43,.int .u8 51,.int .u8 22,.int .u8 53,.int .u8 39,.int .u8 33,.int .u8 30,.int .u8 24,.int .u8 18,.int .u8 12,.int .u8 5,.int .u8 63,.int .u8 55,.int .u8 48,.int .u8 27,.int .u8 60,.int .u8 41,.int .u8 37,.int .u8 16,.int .u8 46,.int .u8 35,.int .u8 44,.int .u8 21,.int .u8 52,.int .u8 32,.int .u8 23,.int .u8 11,.int .u8 54,.int .u8 26,.int .u8 40,.int .u8 15,.int .u8 34,.int .u8 20,.int .u8 31,.int .u8 10,.int .u8 25,.int .u8 14,.int .u8 19,.int .u8 9,.int .u8 13,.int .u8 8,.int .u8 7,.int .u8 6]) t frozen
      | o=>o).modify 5 fun
      | .cells _ t frozen=>.cells (#[.int .u8 128,.int .u8 191,.int .u8 160,.int .u8 191,.int .u8 128,.int .u8 159,.int .u8 144,.int .u8 191,.int .u8 128,.int .u8 143,.int .u8 0,.int .u8 0,.int .u8 0,.int .u8 0,.int .u8 0,.int .u8 0,.int .u8 0,.int .u8 0,.int .u8 0,.int .u8 0,.int .u8 0,.int .u8 0,.int .u8 0,.int .u8 0,.int .u8 0,.int .u8 0,.int .u8 0,.int .u8 0,.int .u8 0,.int .u8 0,.int .u8 0,.int .u8 0]) t frozen
      | o=>o).modify 4 fun
      | .cells _ t frozen=>.cells ((Go.Pinned.utf8FirstZ.map fun z:Nat=>Value.int .u8 (z:Int)).toArray) t frozen
      | o=>o).modify 2 fun
      | .cells _ t frozen=>.cells (#[.iface 252 (.pointer (some ⟨low,0,none⟩))]) t frozen
      | o=>o).modify 1 fun
      | .cells _ t frozen=>.cells (#[.iface 252 (.pointer (some ⟨low+1,0,none⟩))]) t frozen
      | o=>o) }
theorem vU:ownKnob Tryz.prog.godebug=none:=by kernel_rfl
theorem vV:laidOutB Tryz.prog=true:=by kernel_rfl
section
variable {H:Type}{enc:TypeId × Value→H}{W:World}
def Szd (t:TypeId) (d:DataW H):Prop:=∀ n∈DataW.weights Tryz.prog t d,n≤reachBytes
theorem Szd.field {t:TypeId}{fs:Array Field}{xs:List (DataW H × List MemPlace)}(hu:Tryz.prog.underlying t=some (.struct fs)) (h:Szd t (.agg (xs.map (·.1)))) {i:Nat}{f:Field}{y:DataW H × List MemPlace}(hf:fs[i]?=some f) (hy:xs[i]?=some y):Szd f.type y.1:=by
 intro n hn;refine h n ?_;rw [DataW.weights,hu];exact DataW.weights_mem_each (j:=i) (t:=f.type) (d:=y.1) (by rw [List.getElem?_map,Array.getElem?_toList,hf];rfl) (by rw [List.getElem?_map,hy];rfl) n hn
theorem Szd.str {t:TypeId}{l:List UInt8}(h:Szd t (.lit (.string l):DataW H)):l.length≤reachBytes:=h _ (by simp [DataW.weights])
theorem zz {ts:List TypeId}{ds:List (DataW H)}(h:(DataW.weightsEach Tryz.prog ts ds).all (·≤reachBytes)=true) {j:Nat}{t:TypeId}{d:DataW H}(ht:ts[j]?=some t) (hd:ds[j]?=some d):Szd t d:=fun n hn=>by simpa using List.all_eq_true.1 h n (DataW.weights_mem_each ht hd n hn)
theorem te:Tryz.prog.cellsOf 3=1:=by kernel_rfl
theorem tf:Tryz.prog.cellsOf 9=1:=by kernel_rfl
theorem jx {α:Type}{xs:List α}{i:Nat}(h:i < xs.length):xs[i]?=some xs[i]:=List.getElem?_eq_getElem h
theorem pq {v:Value}{fuel:Nat}{x:DataW H × List MemPlace}(ht:DataW.trod enc Tryz.prog W 0 (fun _=>true) true fuel 9 [v]=some x) (hz:Szd 9 x.1):∃ t:List UInt8,v=ae t∧NmL t:=by
 obtain ⟨s,hs,hx,_⟩:=DataW.trod_string Tryz.underlying9 ht;injection hs with hs _;subst hs;obtain ⟨t,rfl⟩:∃ t:List UInt8,s=⟨t.toArray⟩:=⟨s.data.toList,by simp⟩;refine ⟨t,rfl,?_⟩;rw [hx] at hz;have h9:t.length≤reachBytes:=hz.str;have h8:=reachBytes_lt;unfold NmL;omega
instance:Inhabited au:=⟨⟨[],⟨false,[],[]⟩,⟨false,[],[]⟩⟩⟩
instance:Inhabited aj:=⟨⟨[],[]⟩⟩
instance:Inhabited aK:=⟨⟨[],0,0,0,0,0,0⟩⟩
instance:Inhabited aQ:=⟨⟨[],0⟩⟩
theorem vW {v:Value}{fuel:Nat}{x:DataW H × List MemPlace}(ht:DataW.trod enc Tryz.prog W 0 (fun _=>true) true fuel 3 [v]=some x):∃ i:Int,v=.int .i64 i:=by
 obtain ⟨i,hi,_⟩:=DataW.trod_int Tryz.underlying3 ht;injection hi with hi _;exact ⟨i,hi⟩
variable {base:Nat}
end
end Go.Proofs.YtndhgcfajlalhaaGreatDoor
