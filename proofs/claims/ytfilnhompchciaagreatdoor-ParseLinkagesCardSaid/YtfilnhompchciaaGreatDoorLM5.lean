/- Part LM5: lemmas and walks that the claim rests on. No claim is made here. -/
import Derived.Deep.RegionHeld3
import Derived.BigQuiet
import Derived.Test.YtfilnhompchciaaGreatDoorLM4
set_option linter.unusedVariables false
set_option maxHeartbeats 8000000
set_option maxRecDepth 100000
/- Walks: the reader's small methods: fail, next, word, expect, sign, more, number. -/
namespace Go.Proofs.YtfilnhompchciaaGreatDoor
open Go Go.RowKit Bn
attribute [local go_sem ↓] Go.wp_at_zero Go.wp_at_succ
section
variable {w:World}{g t:Nat}{a0 a1 a2 a3 a4 a5:Value}
theorem Blk.s60 (h:Blk w g t #[a0,a1,a2,a3,a4,a5]) (u:Value):Blk (w.setCell ⟨g,0,none⟩ u) g t #[u,a1,a2,a3,a4,a5]:=h.set_ 0 u
theorem Blk.s61 (h:Blk w g t #[a0,a1,a2,a3,a4,a5]) (u:Value):Blk (w.setCell ⟨g,1,none⟩ u) g t #[a0,u,a2,a3,a4,a5]:=h.set_ 1 u
theorem Blk.s62 (h:Blk w g t #[a0,a1,a2,a3,a4,a5]) (u:Value):Blk (w.setCell ⟨g,2,none⟩ u) g t #[a0,a1,u,a3,a4,a5]:=h.set_ 2 u
theorem Blk.s63 (h:Blk w g t #[a0,a1,a2,a3,a4,a5]) (u:Value):Blk (w.setCell ⟨g,3,none⟩ u) g t #[a0,a1,a2,u,a4,a5]:=h.set_ 3 u
theorem Blk.s64 (h:Blk w g t #[a0,a1,a2,a3,a4,a5]) (u:Value):Blk (w.setCell ⟨g,4,none⟩ u) g t #[a0,a1,a2,a3,u,a5]:=h.set_ 4 u
theorem Blk.s65 (h:Blk w g t #[a0,a1,a2,a3,a4,a5]) (u:Value):Blk (w.setCell ⟨g,5,none⟩ u) g t #[a0,a1,a2,a3,a4,u]:=h.set_ 5 u
end
theorem kn {s s':PS}{k:Nat}{t:List UInt8}(h:s.next k=(some t,s')):s'=s∧s.x=0∧∃ t0 r,s.toks=t0 :: r∧t0.kind=k∧t0.text=t:=by
 unfold PS.next at h;split at h
 ·cases h
 rename_i hx;split at h
 ·cases h
 rename_i t0 r e;split at h
 ·rename_i hk
  injection h with h1 h2;injection h1 with h1;exact ⟨h2.symm,by simpa using hx,t0,r,e,hk,h1⟩
 cases h
theorem fs (w:World) (gr:Nat) (c0 c1 c2 c3 c4:Value) (x e:Int) (hb:Blk w gr 87 #[c0,c1,c2,c3,c4,cD x]) (he:e≠0):Calls Tryz.prog 71 #[.pointer (some ⟨gr,0,none⟩),.iface 49 (.int .i64 e)] w (fun en w'=>en=.returned (.tuple #[])∧Blk w' gr 87 #[c0,c1,c2,c3,c4,cD (if x=0 then e else x)]∧w.grownBy w' (some gr)):=by
 have hlt:=hb.lt;have f5:=hb.frozen 5;have ee:=eVp he;by_cases hx:x=0
 ·subst hx
  have HB:=Qh hb;obtain ⟨_,_,_,_,_,a5⟩:=hb.c6;rw [dE] at a5;rw [if_pos rfl,ee];clear hb ee;go_in;go_wp2_with fail;go_end0;exact ⟨rfl,HB.out.s65 _,rg_set (rg_refl _ _) _ _⟩
 rw [if_neg hx];have HB:=Qh hb;obtain ⟨_,_,_,_,_,a5⟩:=hb.c6;rw [eVp hx] at a5;clear hb ee;go_in;go_wp2_with fail;go_end0;exact ⟨rfl,HB.out,rg_refl _ _⟩
theorem oE (B:Nat) (w:World) (gr:Nat) (c1 c2 c3 c4:Value) (s:PS) (h:RdP B w gr c1 c2 c3 c4 s) (k:Nat) (z:Int) (hz:z=(k:Int)):Calls Tryz.prog 70 #[.pointer (some ⟨gr,0,none⟩),.int .i64 z] w (qZ B w gr c1 c2 c3 c4 (.tuple #[ae ((s.next k).1.getD []),.bool (s.next k).1.isSome]) (s.next k).2):=by
 subst hz;have HP:=Qh h;obtain ⟨toks,L,x⟩:=s;obtain ⟨A,n,c,hb,ht⟩:=h.blk;have hmx:=h.mx;have hB:=h.hB;have hlen:=h.len;have hw:=h.hw;have htx:=h.txt;simp only at hb ht hlen htx;have HB:=Qh hb;have HT:=Qh ht;have HM:=Qh hmx;have hn:=ht.1;obtain ⟨a0,_,_,_,_,a5⟩:=hb.c6;clear hb ht hmx h;by_cases hx:x=0
 ·subst hx
  rw [dE] at a5
  cases toks with
  | nil =>
   have e:PS.next ⟨[],L,0⟩ k=(none,⟨[],L,18⟩):=rfl;rw [e];subst hn;go_in;go_wp2_with fail;(with_reducible refine (fs _ gr (.slice A 0 c) c1 c2 c3 c4 0 18 HB.out (by decide)).mono ?_);rintro e w1 ⟨rfl,hb1,hg1⟩;rw [if_pos rfl] at hb1;have HB1:=Qh hb1;clear hb1;go_wp2_with fail;refine bodyPost_ret (v:=.tuple #[ae [],.bool false]) (by simp [results,Tryz.results70,go_sem, *] <;> trivial) rfl ?_;exact ⟨rfl,⟨⟨A,0,c,HB1.out,HT.out.rg hB hg1⟩,HM.out.rg hB hg1,hB,hlen,htx,hw⟩,hg1⟩
  | cons t r =>
   have hn1:0 < n:=by rw [← hn];simp
   obtain ⟨g,o,e,hg,d0,d1,d2,d3⟩:=HT.out.head;subst e;have hi0:(0:Int) < (n:Int):=by omega
   by_cases hk:t.kind=k
   ·have e:PS.next ⟨t :: r,L,0⟩ k=(some t.text,⟨t :: r,L,0⟩):=by unfold PS.next;rw [if_neg (by simp)];simp [hk]
    rw [e];have hk1:((t.kind:Int) == (k:Int))=true:=by simp [hk]
    have hk2:((n:Int) == 0)=false:=beq_eq_false_iff_ne.2 (by omega);clear hn hk;go_in;go_wp2_with fail;refine bodyPost_ret (v:=.tuple #[ae t.text,.bool true]) (by simp [results,Tryz.results70,go_sem, *] <;> trivial) rfl ?_;exact ⟨rfl,HP.out.alloc _,aZ (rg_refl _ _) _⟩
   have e:PS.next ⟨t :: r,L,0⟩ k=(none,⟨t :: r,L,2⟩):=by unfold PS.next;rw [if_neg (by simp)];simp [hk]
   rw [e];have hk1:((t.kind:Int) == (k:Int))=false:=beq_eq_false_iff_ne.2 (by omega);have hk2:((n:Int) == 0)=false:=beq_eq_false_iff_ne.2 (by omega);clear hn hk;go_in;go_wp2_with fail;(with_reducible refine (fs _ gr (.slice (some ⟨g,o,none⟩) n c) c1 c2 c3 c4 0 2 (HB.out.alloc _) (by decide)).mono ?_);rintro e w1 ⟨rfl,hb1,hg1⟩;rw [if_pos rfl] at hb1;have HB1:=Qh hb1;have hg2:=aD (aZ (rg_refl gr w) _) hg1;clear hb1 hg1;go_wp2_with fail;refine bodyPost_ret (v:=.tuple #[ae [],.bool false]) (by simp [results,Tryz.results70,go_sem, *] <;> trivial) rfl ?_;exact ⟨rfl,⟨⟨_,n,c,HB1.out,HT.out.rg hB hg2⟩,HM.out.rg hB hg2,hB,hlen,htx,hw⟩,hg2⟩
 have e:PS.next ⟨toks,L,x⟩ k=(none,⟨toks,L,x⟩):=if_pos hx;rw [e];rw [eVp hx] at a5;go_in;go_wp2_with fail;refine bodyPost_ret (v:=.tuple #[ae [],.bool false]) (by simp [results,Tryz.results70,go_sem, *] <;> trivial) rfl ?_;exact ⟨rfl,HP.out,rg_refl _ _⟩
theorem RdP.drop {B:Nat}{w:World}{gr n c n' c':Nat}{A A':Option Addr}{c1 c2 c3 c4:Value}{s:PS}{t0:Tkn}{r:List Tkn}(h:RdP B w gr c1 c2 c3 c4 s) (e:s.toks=t0 :: r)
 (hb:Blk w gr 87 #[.slice A n c,c1,c2,c3,c4,cD s.x]) (ht:TkA B w A n c s.toks) (hA:A'=if c=1 then A else A.map (·.add 4)) (hn:n'=n - 1) (hc:c'=c - 1):RdP B (w.setCell ⟨gr,0,none⟩ (.slice A' n' c')) gr c1 c2 c3 c4 s.drop1:=by
 have hr:=rg_set (rg_refl gr w) 0 (.slice A' n' c');have e1:s.drop1.toks=r:=by unfold PS.drop1;rw [e];rfl
 rw [e] at ht;exact ⟨⟨A',n',c',hb.s60 _,by rw [e1];exact (ht.tail hA hn hc).rg h.hB hr⟩,h.mx.rg h.hB hr,h.hB,by rw [e1];have:=h.len;rw [e] at this;simp at this;omega,fun t ht=>h.txt t (by rw [e];rw [e1] at ht;exact List.mem_cons_of_mem _ ht),h.hw⟩
theorem cR (B:Nat) (w:World) (gr:Nat) (c1 c2 c3 c4:Value) (s:PS) (h:RdP B w gr c1 c2 c3 c4 s):Calls Tryz.prog 38 #[.pointer (some ⟨gr,0,none⟩)] w (qZ B w gr c1 c2 c3 c4 (ae s.word.1) s.word.2):=by
 have HP:=Qh h;obtain ⟨W,hW⟩:∃ W,s.word=W:=⟨_,rfl⟩;rw [hW];have HW:=Qh hW;clear h hW;go_in;go_wp2_with fail;(with_reducible refine (oE B _ gr c1 c2 c3 c4 s HP.out 0 0 rfl).mono ?_);rintro e w1 ⟨rfl,h1,hg1⟩;have hW:=HW.out;unfold PS.word at hW;generalize hq:s.next 0=q at h1 hW;obtain ⟨o,s'⟩:=q
 cases o with
 | none =>
  simp only [Option.getD_none,Option.isSome_none] at h1 hW ⊢;subst hW;have H1:=Qh h1;clear hq h1 HW;go_wp2;go_ret;exact ⟨rfl,H1.out,hg1⟩
 | some t =>
  simp only [Option.getD_some,Option.isSome_some] at h1 hW ⊢;subst hW;obtain ⟨e,hx,t0,r,et,_,_⟩:=kn hq;obtain ⟨A,n,c,hb,ht⟩:=h1.blk;have hn:(1:Int)≤(n:Int):=by have:=ht.1;rw [e,et] at this;simp at this;omega
  have f0:=hb.frozen 0;obtain ⟨a0,_,_,_,_,_⟩:=hb.c6;have H1:=Qh h1;have HB:=Qh hb;have HT:=Qh ht;have HE:=Qh (show s'.toks=t0 :: r by rw [e,et]);clear h1 hb ht hq e et hx HW;go_wp2_with fail
  all_goals
   go_ret;exact ⟨rfl,H1.out.drop HE.out HB.out HT.out (by simp [Addr.add, *]) rfl (by omega),rg_set hg1 _ _⟩
theorem nH (B:Nat) (w:World) (gr:Nat) (c1 c2 c3 c4:Value) (s:PS) (h:RdP B w gr c1 c2 c3 c4 s) (k:Nat) (z:Int) (hz:z=(k:Int)) (text:List UInt8):Calls Tryz.prog 37 #[.pointer (some ⟨gr,0,none⟩),.int .i64 z,ae text] w (qZ B w gr c1 c2 c3 c4 (.tuple #[]) (s.expect k text)):=by
 have HP:=Qh h;have HZ:=Qh hz;obtain ⟨W,hW⟩:∃ W,s.expect k text=W:=⟨_,rfl⟩;rw [hW];have HW:=Qh hW;clear h hz hW;go_in;go_wp2_with fail;(with_reducible refine (oE B _ gr c1 c2 c3 c4 s HP.out k z HZ.out).mono ?_);rintro e w1 ⟨rfl,h1,hg1⟩;have hW:=HW.out;unfold PS.expect at hW;generalize hq:s.next k=q at h1 hW;obtain ⟨o,s'⟩:=q
 cases o with
 | none =>
  simp only [Option.getD_none,Option.isSome_none] at h1 hW ⊢;subst hW;have H1:=Qh h1;clear hq h1 HW;go_wp2_with fail;go_end0;exact ⟨rfl,H1.out,hg1⟩
 | some t =>
  simp only [Option.getD_some,Option.isSome_some] at h1 hW ⊢;obtain ⟨e,hx,t0,r,et,_,_⟩:=kn hq;have ht1:=az t;have ht2:=az text;obtain ⟨A,n,c,hb,ht⟩:=h1.blk;have hn:(1:Int)≤(n:Int):=by have:=ht.1;rw [e,et] at this;simp at this;omega
  have f0:=hb.frozen 0;obtain ⟨a0,_,_,_,_,a5⟩:=hb.c6;have H1:=Qh h1;have HB:=Qh hb;have HT:=Qh ht;have HE:=Qh (show s'.toks=t0 :: r by rw [e,et]);have HX:=Qh (show s'.x=0 by rw [e];exact hx);clear h1 hb ht hq e et hx a5 HW;by_cases heq:t=text
  ·rw [if_pos heq] at hW
   subst hW;subst heq;have hee:(t == t)=true:=by simp
   go_wp2_with fail
   all_goals
    go_end0;exact ⟨rfl,H1.out.drop HE.out HB.out HT.out (by simp [Addr.add, *]) rfl (by omega),rg_set hg1 _ _⟩
  rw [if_neg heq] at hW;have e2:s'.fail 2={ s' with x:=2 }:=if_pos HX.out;rw [e2] at hW;subst hW;have hee:(t == text)=false:=beq_eq_false_iff_ne.2 heq;clear heq;go_wp2_with fail;(with_reducible refine (fs _ gr (.slice A n c) c1 c2 c3 c4 s'.x 2 HB.out (by decide)).mono ?_);rintro e w2 ⟨rfl,hb2,hg2⟩;rw [if_pos HX.out] at hb2;have HB2:=Qh hb2;clear hb2;go_wp2_with fail;go_end0;exact ⟨rfl,⟨⟨A,n,c,HB2.out,HT.out.rg H1.out.hB hg2⟩,H1.out.mx.rg H1.out.hB hg2,H1.out.hB,H1.out.len,H1.out.txt,H1.out.hw⟩,aD hg1 hg2⟩
theorem eO (B:Nat) (w:World) (gr:Nat) (c1 c2 c3 c4:Value) (s:PS) (h:RdP B w gr c1 c2 c3 c4 s) (text:List UInt8):Calls Tryz.prog 39 #[.pointer (some ⟨gr,0,none⟩),ae text] w (qZ B w gr c1 c2 c3 c4 (.tuple #[]) (s.expect 2 text)):=by
 have HP:=Qh h;clear h;go_in;go_wp2_with fail;(with_reducible refine (nH B _ gr c1 c2 c3 c4 s HP.out 2 2 rfl text).mono ?_);rintro e w1 ⟨rfl,h1,hg1⟩;have H1:=Qh h1;clear h1;go_wp2_with fail;go_end0;exact ⟨rfl,H1.out,hg1⟩
theorem su (B:Nat) (w:World) (gr:Nat) (c1 c2 c3 c4:Value) (s:PS) (h:RdP B w gr c1 c2 c3 c4 s) (v:Bool) (hv:decide (s.x=0∧s.toks≠[])=v):Calls Tryz.prog 40 #[.pointer (some ⟨gr,0,none⟩)] w (qZ B w gr c1 c2 c3 c4 (.bool v) s):=by
 have HP:=Qh h;subst hv;obtain ⟨A,n,c,hb,ht⟩:=h.blk;have hn:=ht.1;obtain ⟨a0,_,_,_,_,a5⟩:=hb.c6;clear hb ht h;by_cases hx:s.x=0
 ·rw [hx,dE] at a5
  by_cases ht:s.toks=[]
  ·have e:decide (s.x=0∧s.toks≠[])=false:=by simp [ht]
   rw [e];have hn0:n=0:=by rw [← hn,ht];rfl
   subst hn0;clear hn;go_in;go_wp2;go_ret;exact ⟨rfl,HP.out,rg_refl _ _⟩
  have e:decide (s.x=0∧s.toks≠[])=true:=by simp [ht,hx]
  rw [e];have hp:0 < s.toks.length:=List.length_pos_iff.2 ht;have hn0:(0 < n)=True:=eq_true (by omega);clear hn;go_in;go_wp2;go_ret;exact ⟨rfl,HP.out,rg_refl _ _⟩
 have e:decide (s.x=0∧s.toks≠[])=false:=by simp [hx]
 rw [e];rw [eVp hx] at a5;go_in;go_wp2;go_ret;exact ⟨rfl,HP.out,rg_refl _ _⟩
def BA (B:Nat) (w:World) (gr:Nat) (c1 c2 c3 c4:Value) (q:Rat) (s:PS) (e:Ending) (w':World):Prop :=
  ∃ b A n c D m e',e=.returned (.agg #[.bool b,.slice A n c,.slice D m e'])∧QV w' b A n c D m e' q 130∧RdP B w' gr c1 c2 c3 c4 s∧w.grownBy w' (some gr)
theorem sw (w:World) (k:Nat):QV w false none 0 0 none 0 0 0 k:=by
 unfold QV;rw [nR];exact ⟨rfl,Wd.nil_ w,Wd.nil_ w,Nat.zero_le _,Nat.zero_le _⟩
theorem QD.alloc_ {w:World}{b:Bool}{A D:Option Addr}{n c m e k:Nat}{r:RD}(h:QD w b A n c D m e r k) (o:Obj):QD (w.alloc o) b A n c D m e r k:=h.belw ((Below.refl _ _).alloc Qr o)
theorem lW {B:Nat}{w:World}{gr z n c n' c':Nat}{A A':Option Addr}{c1 c2 c3 c4:Value}{s:PS}{t0:Tkn}{r:List Tkn}(h:RdP B w gr c1 c2 c3 c4 s) (e:s.toks=t0 :: r)
 (hb:Blk w gr 87 #[.slice A n c,c1,c2,c3,c4,cD s.x]) (ht:TkA B w A n c s.toks) (hA:A'=if c=1 then A else A.map (·.add 4)) (hn:n'=n - 1) (hc:c'=c - 1)
 (hz:gr < z) (Z:Blk w z 65 #[.bool false,.slice none 0 0,.slice none 0 0]) {b:Bool}{A2 D2:Option Addr}{n2 d2 m2 e2 k:Nat}{q:RD}(hq:QD w b A2 n2 d2 D2 m2 e2 q k) (u0 u1 u2:Value) (o:Obj) :
 QD (((((w.setCell ⟨gr,0,none⟩ (.slice A' n' c')).setCell ⟨z,0,none⟩ u0).setCell ⟨z,1,none⟩ u1).setCell ⟨z,2,none⟩ u2).alloc o) b A2 n2 d2 D2 m2 e2 q k ∧
 RdP B (((((w.setCell ⟨gr,0,none⟩ (.slice A' n' c')).setCell ⟨z,0,none⟩ u0).setCell ⟨z,1,none⟩ u1).setCell ⟨z,2,none⟩ u2).alloc o) gr c1 c2 c3 c4 s.drop1:=by
 have h1:=h.drop e hb ht hA hn hc;have t1:Tch TA w (w.setCell ⟨gr,0,none⟩ (.slice A' n' c')):=h.tch (rg_set (rg_refl gr w) 0 _) rfl;have Z1:Blk (w.setCell ⟨gr,0,none⟩ (.slice A' n' c')) z 65 #[.bool false,.slice none 0 0,.slice none 0 0]:=Z.far (by show z≠gr;omega) _;exact ⟨((hq.tch t1).tch (fg Z1 rfl 0 1 2 u0 u1 u2)).alloc_ o,(h1.bel1 (cA _ hz 0 1 2 u0 u1 u2)).alloc o⟩
theorem iJ (B:Nat) (w:World) (gr:Nat) (c1 c2 c3 c4:Value) (s:PS) (h:RdP B w gr c1 c2 c3 c4 s):Calls Tryz.prog 111 #[.pointer (some ⟨gr,0,none⟩)] w (BA B w gr c1 c2 c3 c4 s.number.1 s.number.2):=by
 have HP:=Qh h;have hlt:=h.lt;obtain ⟨W,hW⟩:∃ W,s.number=W:=⟨_,rfl⟩;rw [hW];have HW:=Qh hW;clear h hW;go_in;go_wp2_with fail;(with_reducible refine (oE B _ gr c1 c2 c3 c4 s (HP.out.alloc _) 1 1 rfl).mono ?_);rintro e w1 ⟨rfl,h1,hg1⟩;have z1:Blk w1 w.heap.size 65 #[.bool false,.slice none 0 0,.slice none 0 0]:=bD hg1 (Blk.new _ _ _) (by omega);have G1:w.grownBy w1 (some gr):=aD (aZ (rg_refl gr w) _) hg1;clear hg1;have hlz:=z1.lt;have hW:=HW.out;unfold PS.number at hW;generalize hq:s.next 1=q at h1 hW;obtain ⟨o,s'⟩:=q
 cases o with
 | none =>
  simp only [Option.getD_none,Option.isSome_none] at h1 hW ⊢;subst hW;obtain ⟨cz0,cz1,cz2⟩:=z1.c3;obtain ⟨fz0,fz1,fz2⟩:=z1.f3;have H1:=Qh h1;have Z1:=Qh z1;clear hq h1 z1 HW;go_wp2_with fail;refine bodyPost_ret (v:=.agg #[.bool false,.slice none 0 0,.slice none 0 0]) (by simp [results,Tryz.results111,go_sem, *] <;> trivial) rfl ?_;exact ⟨_,_,_,_,_,_,_,rfl,sw _ _,((H1.out.far hlt _).far hlt _).far hlt _,cJ (cJ (cJ G1 Qr _) Qr _) Qr _⟩
 | some t =>
  simp only [Option.getD_some,Option.isSome_some] at h1 hW ⊢;obtain ⟨e,hx,t0,r,et,_,_⟩:=kn hq;have HV:=Qh (val_out t);generalize valX t=x at HV hW;generalize valQ t=qv at HV hW;have HE:=Qh (show s'.toks=t0 :: r by rw [e,et]);have HX:=Qh (show s'.x=0 by rw [e];exact hx);have H1:=Qh h1;have Z1:=Qh z1;have HW2:=Qh hW;clear h1 hq e et hx z1 hW HW;go_wp2_with fail;(with_reducible refine (tN _ t x qv H1.out.mx.out HV.out).mono ?_);rintro e w2 ⟨b2,A2,n2,d2,D2,m2,e2,rfl,h2,hb2⟩;have G2:=da G1 hb2;have z2:=Z1.out.below hb2 hlz;have r2:=H1.out.belw hb2;have hlw:=hb2.size;clear hb2 G1;have hgl:=r2.lt;have hlz2:=z2.lt;have R2:=Qh r2;have Z2:=Qh z2;have HQ2:=Qh h2;obtain ⟨A,n,c,hb,ht⟩:=r2.blk;have hB:=r2.hB;have HB:=Qh hb;have HT:=Qh ht;clear Z1 H1 r2 z2 h2 ht;by_cases hx0:x=0
  ·have hW:=HW2.out
   rw [if_neg (by simp [hx0])] at hW;subst hW hx0;rw [dE];have hn:(1:Int)≤(n:Int):=by have:=HT.out.1;rw [HE.out] at this;simp at this;omega
   have f0:=hb.frozen 0;obtain ⟨a0,_,_,_,_,_⟩:=hb.c6;obtain ⟨cz0,cz1,cz2⟩:=Z2.out.c3;obtain ⟨fz0,fz1,fz2⟩:=Z2.out.f3;clear hb HW2;have hne1:¬ gr=w2.heap.size:=by omega
   have hne2:¬ w.heap.size=w2.heap.size:=by omega
   have hne3:¬ gr=w.heap.size:=by omega
   go_wp2_with fail
   all_goals
    refine bodyPost_ret (v:=.agg #[.bool b2,.slice A2 n2 d2,.slice D2 m2 e2]) (by simp [results,Tryz.results111,go_sem, *] <;> trivial) rfl ?_;exact ⟨_,_,_,_,_,_,_,rfl,(lW R2.out HE.out HB.out HT.out (by simp [Addr.add, *]) rfl (by omega) hlt Z2.out HQ2.out _ _ _ _).1,(lW R2.out HE.out HB.out HT.out (by simp [Addr.add, *]) rfl (by omega) hlt Z2.out HQ2.out _ _ _ _).2,aZ (cJ (cJ (cJ (rg_set G2 _ _) Qr _) Qr _) Qr _) _⟩
  have hW:=HW2.out;rw [if_pos hx0] at hW;subst hW;rw [eVp hx0];clear hb HW2;go_wp2_with fail;(with_reducible refine (fs _ gr (.slice A n c) c1 c2 c3 c4 s'.x x (HB.out.alloc _) hx0).mono ?_);rintro e w3 ⟨rfl,hb3,hg3⟩;rw [if_pos HX.out] at hb3;have g3:=aD (aZ (rg_refl gr w2) _) hg3;have z3:=bD g3 Z2.out (by omega);obtain ⟨cz0,cz1,cz2⟩:=z3.c3;obtain ⟨fz0,fz1,fz2⟩:=z3.f3;have HB3:=Qh hb3;have hl3:=z3.lt;clear hb3 hg3 z3;go_wp2_with fail;refine bodyPost_ret (v:=.agg #[.bool false,.slice none 0 0,.slice none 0 0]) (by simp [results,Tryz.results111,go_sem, *] <;> trivial) rfl ?_;have e2:s'.fail x={ s' with x:=x }:=if_pos HX.out;rw [e2];have R3:RdP B w3 gr c1 c2 c3 c4 { s' with x:=x }:=⟨⟨A,n,c,HB3.out,HT.out.rg hB g3⟩,R2.out.mx.rg hB g3,hB,R2.out.len,R2.out.txt,R2.out.hw⟩;exact ⟨_,_,_,_,_,_,_,rfl,sw _ _,((R3.far hlt _).far hlt _).far hlt _,cJ (cJ (cJ (aD G2 g3) Qr _) Qr _) Qr _⟩
def AU (B:Nat) (w:World) (gr:Nat) (c1 c2 c3 c4:Value) (b:al) (s:PS) (e:Ending) (w':World):Prop :=
  ∃ A n c,e=.returned (.agg #[ae b.name,.slice A n c])∧km 130 w' A n c b.pts∧NmL b.name∧RdP B w' gr c1 c2 c3 c4 s∧w.grownBy w' (some gr)
section
variable {w:World}{g t:Nat}{a0 a1 a2 a3 a4 a5 a6:Value}
theorem Blk.x7 (h:Blk w g t #[a0,a1,a2,a3,a4,a5,a6]) (u0 u1 u2:Value):Blk (((w.setCell ⟨g,1,none⟩ u0).setCell ⟨g,2,none⟩ u1).setCell ⟨g,3,none⟩ u2) g t #[a0,u0,u1,u2,a4,a5,a6]:=((h.set_ 1 u0).set_ 2 u1).set_ 3 u2
theorem Blk.y7 (h:Blk w g t #[a0,a1,a2,a3,a4,a5,a6]) (u0 u1 u2:Value):Blk (((w.setCell ⟨g,4,none⟩ u0).setCell ⟨g,5,none⟩ u1).setCell ⟨g,6,none⟩ u2) g t #[a0,a1,a2,a3,u0,u1,u2]:=((h.set_ 4 u0).set_ 5 u1).set_ 6 u2
theorem Blk.f7 (h:Blk w g t #[a0,a1,a2,a3,a4,a5,a6]):w.frozen? ⟨g,0,none⟩=false∧w.frozen? ⟨g,1,none⟩=false∧w.frozen? ⟨g,2,none⟩=false∧w.frozen? ⟨g,3,none⟩=false∧w.frozen? ⟨g,4,none⟩=false∧w.frozen? ⟨g,5,none⟩=false∧w.frozen? ⟨g,6,none⟩=false:=⟨h.frozen 0,h.frozen 1,h.frozen 2,h.frozen 3,h.frozen 4,h.frozen 5,h.frozen 6⟩
theorem Blk.s21 (h:Blk w g t #[a0,a1]) (u:Value):Blk (w.setCell ⟨g,1,none⟩ u) g t #[a0,u]:=h.set_ 1 u
end
theorem km.of_row {w:World}{base n c:Nat}{A:Option Addr}{l:List aq}(h:bi 67 (MkC 130) 7 w base (.slice A n c) n l):km 130 w A n c l:=h.slT fun _ _ _ _ h1 h2=>h1.at_ h2
theorem OwJ.far {J:Value→Bool}{w:World}{base n size:Nat}{e:TypeId}{v:Value}{xs:List Value}(h:OwJ J w base e size v n xs) {p:Addr}(hp:some p.block≠v.ownBlock) (u:Value):OwJ J (w.setCell p u) base e size v n xs:=by
 refine ⟨h.1,?_⟩;rcases h.2 with h1 | ⟨g,cap,cur,rfl,h2,h3,h4⟩
 ·exact .inl h1
 exact .inr ⟨g,cap,cur,rfl,h2,(Below.heap_setCell w p u g (fun e=>hp (by simp [Value.ownBlock,e]))).trans h3,h4⟩
theorem fE {J:Value→Bool}{w:World}{base n size g t:Nat}{e:TypeId}{v:Value}{xs:List Value}{cs:Array Value}(h:OwJ J w base e size v n xs) (hb:Blk w g t cs) (ht:t≠e):some g≠v.ownBlock:=by
 intro e1;obtain ⟨_,cur,h2,_⟩:=h.at_ e1.symm;unfold Blk at hb;rw [h2] at hb;injection hb with hb;injection hb with _ hb;exact ht hb.symm
theorem TkA.first {B:Nat}{w:World}{A:Option Addr}{n c:Nat}{s:PS}(ht:TkA B w A n c s.toks):(n=0∧s.signHead=false)∨(0 < n∧∃ g o,∃ k:Nat,A=some ⟨g,o,none⟩∧w.cell? ⟨g,o,none⟩=some (.int .i64 (k:Nat))∧s.signHead=decide (k=2)):=by
 obtain ⟨toks,L,x⟩:=s
 cases toks with
 | nil=>exact .inl ⟨ht.1.symm,rfl⟩
 | cons t r =>
  obtain ⟨g,o,e,_,d0,_⟩:=ht.head;refine .inr ⟨by rw [← ht.1];simp,g,o,t.kind,e,d0,?_⟩;show (t.kind == 2)=_;rfl
structure BdR (B:Nat) (w:World) (gr gb:Nat) (c1 c2 c3 c4:Value) (nm:List UInt8) (wr:World) (s:PS) (l:List aq) (pv:Value):Prop where
  rd:RdP B wr gr c1 c2 c3 c4 s
  rg:w.grownBy wr (some gr)
  out:Blk wr w.heap.size 62 #[ae [],.slice none 0 0]
  b:Blk wr gb 62 #[ae nm,pv]
  row:bi 67 (MkC 130) 7 wr gb pv l.length l
  lt:gr < w.heap.size∧w.heap.size < gb
section
variable {B:Nat}{w:World}{gr gb:Nat}{c1 c2 c3 c4:Value}{nm:List UInt8}{wr w3:World}{s s3:PS}{l:List aq}{pv:Value}
theorem BdR.call (h:BdR B w gr gb c1 c2 c3 c4 nm wr s l pv) (h3:RdP B w3 gr c1 c2 c3 c4 s3) (g3:wr.grownBy w3 (some gr)):BdR B w gr gb c1 c2 c3 c4 nm w3 s3 l pv :=
 ⟨h3,aD h.rg g3,bD g3 h.out (by have:=h.lt;omega),bD g3 h.b (by have:=h.lt;omega),h.row.rg (by have:=h.lt;omega) g3 (fun _ _ x=>x.tch (h.rd.tch g3 (T:=TA) rfl)),h.lt⟩
theorem BdR.fin {A:Option Addr}{n c:Nat}(h:BdR B w gr gb c1 c2 c3 c4 nm wr s l (.slice A n c)) (u v:Value):RdP B ((wr.setCell ⟨w.heap.size,0,none⟩ u).setCell ⟨w.heap.size,1,none⟩ v) gr c1 c2 c3 c4 s∧w.grownBy ((wr.setCell ⟨w.heap.size,0,none⟩ u).setCell ⟨w.heap.size,1,none⟩ v) (some gr)∧km 130 ((wr.setCell ⟨w.heap.size,0,none⟩ u).setCell ⟨w.heap.size,1,none⟩ v) A n c l:=by
 obtain ⟨h1,h2⟩:=h.lt;refine ⟨(h.rd.far h1 _).far h1 _,cJ (cJ h.rg Qr _) Qr _,?_⟩
 have hn:l.length=n:=by
  obtain ⟨A',c',e,_⟩:=h.row.form;injection e with _ e _;exact e.symm
 have hr:=h.row;rw [hn] at hr
 have ht:Tch TA wr ((wr.setCell ⟨w.heap.size,0,none⟩ u).setCell ⟨w.heap.size,1,none⟩ v) :=
  Tch.of_ne (by simp [World.setCell]) h.out rfl rfl fun g' _ hne=>by rw [Below.heap_setCell _ _ _ _ hne,Below.heap_setCell _ _ _ _ hne]
 exact km.of_row (hr.same (fun g cur hg hc=>by rw [Below.heap_setCell _ _ _ _ (by show g≠w.heap.size;omega),Below.heap_setCell _ _ _ _ (by show g≠w.heap.size;omega)];exact hc) (fun _ _ x=>x.tch ht))
theorem BdR.b5 {xs:List Value}{w5:World}(h:BdR B w gr gb c1 c2 c3 c4 nm wr s l pv) (hown:OwJ noW wr gb 67 7 pv l.length xs) (o:Obj) (hgrow:(wr.alloc o).grownBy w5 pv.ownBlock):Blk w5 gb 62 #[ae nm,pv] :=
 (h.b.alloc o).grown hgrow (fE hown h.b (by decide))
theorem BdR.push {xs:List Value}{w5:World}{v':Value}{cs:List Value}{m:aq}{o:Obj}(h:BdR B w gr gb c1 c2 c3 c4 nm wr s l pv) (hown:OwJ noW wr gb 67 7 pv l.length xs) (hrow:iU (MkC 130) 7 wr l xs)
 (hm:MkC 130 wr cs m) (hcs:cs.length=7) (hown5:OwJ noW w5 gb 67 7 v' (l.length+1) (xs ++ cs)) (hgrow:(wr.alloc o).grownBy w5 pv.ownBlock):BdR B w gr gb c1 c2 c3 c4 nm (w5.setCell ⟨gb,1,none⟩ v') s (l ++ [m]) v':=by
 obtain ⟨h1,h2⟩:=h.lt;have b5:=h.b5 hown o hgrow;have hs:=h.b.lt;have hb5:Below gb wr w5:=((Below.refl gb wr).alloc (by omega) o).grown hgrow (by simp;omega) (fun k hk=>(hown.at_ hk).1);have hb6:Below gb wr (w5.setCell ⟨gb,1,none⟩ v'):=hb5.setCell (p:=⟨gb,1,none⟩) Qr v';have hownA:OwJ noW (wr.alloc o) gb 67 7 pv l.length xs:=hown.belw ((Below.refl _ _).alloc Qr o);obtain ⟨A,c,hpv,_⟩:=h.row.form;have ht:Tch TA wr (w5.setCell ⟨gb,1,none⟩ v'):=((Tch.below ((Below.refl _ _).alloc Qr o)).trans (Tch.grown (T:=TA) (fun _ hu=>hu) rfl hownA hgrow)).trans (Tch.set b5 rfl (by rw [hpv];rfl) 1 v');have hl:(l ++ [m]).length=l.length+1:=by simp
 refine ⟨h.rd.bel1 (hb6.mono (by omega)),dk h.rg (hb6.mono (by omega)),h.out.below hb6 h2,b5.s21 v',?_,h.lt⟩;rw [hl];exact ⟨hl,xs ++ cs,hown5.far (fE hown5 b5 (by decide)) v',(hrow.map_ fun _ _ x=>x.tch ht).snoc (hm.tch ht) hcs⟩
end
theorem xZ (B:Nat) (w:World) (gr:Nat) (c1 c2 c3 c4:Value) (s:PS) (h:RdP B w gr c1 c2 c3 c4 s):Calls Tryz.prog 72 #[.pointer (some ⟨gr,0,none⟩)] w (AU B w gr c1 c2 c3 c4 s.body.1 s.body.2):=by
 obtain ⟨i0,hi0,hz0,hz1,hz2⟩:=info_parts ss;have HI:=Qh (And.intro hi0 (And.intro hz0 (And.intro hz1 hz2)));clear hi0 hz0 hz1 hz2;unfold PS.body;obtain ⟨R,hR⟩:∃ R,PS.marks (s.toks.length+1) (s.word.2.expect 2 [123]) []=R:=⟨_,rfl⟩;simp only [hR];have HR:=Qh hR;have HP:=Qh h;have hlt:=h.lt;have HN:=Qh (gi h.txt);clear h hR;go_in;go_wp2_with fail;(with_reducible refine (cR B _ gr c1 c2 c3 c4 s (HP.out.alloc _)).mono ?_);rintro e w1 ⟨rfl,h1,hg1⟩;have z1:Blk w1 w.heap.size 62 #[ae [],.slice none 0 0]:=bD hg1 (Blk.new _ _ _) (by omega);have G1:w.grownBy w1 (some gr):=aD (aZ (rg_refl gr w) _) hg1;have hlz:=z1.lt;have hl1:=h1.lt;have H1:=Qh h1;clear hg1 h1;go_wp2_with fail;(with_reducible refine (eO B _ gr c1 c2 c3 c4 s.word.2 (H1.out.alloc _) [123]).mono ?_);rintro e w2 ⟨rfl,h2,hg2⟩;have z2:Blk w2 w.heap.size 62 #[ae [],.slice none 0 0]:=bD hg2 (z1.alloc _) (by omega);have b2:Blk w2 w1.heap.size 62 #[ae s.word.1,.slice none 0 0]:=bD hg2 (Blk.new _ _ _) (by omega);have G2:w.grownBy w2 (some gr):=aD (aZ G1 _) hg2;clear z1 G1 H1 hg2;generalize w1.heap.size=gb at hlz hl1 b2 ⊢;have HB2:=Qh b2;have HZ2:=Qh z2;have H2:=Qh h2;clear b2 z2 h2;go_wp2_with fail;go_loopw [] (fun wr=>∃ f s' l pv,BdR B w gr gb c1 c2 c3 c4 s.word.1 wr s' l pv∧(s'.x=0→s'.toks.length < f∧l.length+s'.toks.length≤65536)∧Hid (PS.marks f s' l=R)) (fun wr=>mOf gr wr)
 case atStart =>
  have hst:=(ar s).trans (ay s.word.2 2 [123]);have h6:=HP.out.len;exact ⟨_,_,[],_,⟨H2.out,G2,HZ2.out,HB2.out,bi.nil,hlt,hlz⟩,fun _=>⟨by have:=hst.1;omega,by have:=hst.1;simp;omega⟩,HR⟩
 case round =>
  clear HR H2 HZ2 HB2 G2;obtain ⟨f,s',l,pv,hbr,hfl,HR⟩:=hrel;obtain ⟨A,n,c,hb,ht⟩:=hbr.rd.blk;obtain ⟨a0,_,_,_,_,a5⟩:=hb.c6;obtain ⟨Ap,cp,rfl,hcp⟩:=hbr.row.form;have HBR:=Qh hbr;clear hb hbr;by_cases hx:s'.x=0
  ·rw [hx,dE] at a5
   obtain ⟨hf1,hf2⟩:=hfl hx;have hff:0 < f:=by omega
   rcases ht.first with ⟨hn0,hs⟩ | ⟨hn0,g,o,k,e,d0,hs⟩
   rotate_left
   ·subst e
    rw [show decide (k=2)=_ from rfl] at hs;have hi0:(0:Int) < (n:Int):=by omega
    have hi1:(0 < n)=True:=eq_true hn0;clear ht;by_cases hk:k=2
    ·have hk1:((k:Int) == 2)=true:=by simp [hk]
     have hRl:=fV (l:=l) hff hx (by rw [hs];simp [hk]);rw [HR.out] at hRl;subst hRl;clear hs hfl;go_wp2_with fail;(with_reducible refine (eO B _ gr c1 c2 c3 c4 s' HBR.out.rd [125]).mono ?_);rintro e w3 ⟨rfl,h3,hg3⟩;have HB3:=Qh (HBR.out.call h3 hg3);obtain ⟨cz0,cz1⟩:=HB3.out.out.c2;obtain ⟨fz0,fz1⟩:=HB3.out.out.f2;obtain ⟨cb0,cb1⟩:=HB3.out.b.c2;have hne:¬ gb=w.heap.size:=by omega
     clear h3 hg3;go_wp2_with fail;refine bodyPost_ret (v:=.agg #[ae s.word.1,.slice Ap l.length cp]) (by simp [results,Tryz.results72,go_sem, *] <;> trivial) rfl ?_;exact ⟨_,_,_,rfl,(HB3.out.fin _ _).2.2,HN.out,(HB3.out.fin _ _).1,(HB3.out.fin _ _).2.1⟩
    have hk1:((k:Int) == 2)=false:=beq_eq_false_iff_ne.2 (by omega);have hs2:s'.signHead=false:=by rw [hs];simp [hk]
    clear hs;have HS2:=Qh hs2;clear hs2;go_wp2_with fail;(with_reducible refine (cR B _ gr c1 c2 c3 c4 s' HBR.out.rd).mono ?_);rintro e w3 ⟨rfl,h3,hg3⟩;have hnm:=Qh (gi HBR.out.rd.txt);have hl3:=h3.lt;have hw3:=hg3.size;have H3:=Qh h3;clear h3 a0 a5;go_wp2_with fail;(with_reducible refine (iJ B _ gr c1 c2 c3 c4 s'.word.2 (H3.out.alloc _)).mono ?_);rintro e w4 ⟨b4,A4,n4,d4,D4,m4,e4,rfl,q4,h4,hg4⟩;have p4:Blk w4 w3.heap.size 67 #[ae s'.word.1,.bool false,.slice none 0 0,.slice none 0 0,.bool false,.slice none 0 0,.slice none 0 0]:=bD hg4 (Blk.new _ _ _) (by omega);have g4:wr.grownBy w4 (some gr):=aD (aZ hg3 _) hg4;have hlp4:=p4.lt;obtain ⟨_,fp1,fp2,fp3,_⟩:=p4.f7;obtain ⟨_,cq1,cq2,cq3,_⟩:=p4.c7;have P4:=Qh p4;have H4:=Qh h4;have Q4:=Qh q4;clear p4 h4 q4 hg4 hg3 H3;go_wp2_with fail;(with_reducible refine (iJ B _ gr c1 c2 c3 c4 s'.word.2.number.2 (H4.out.bel1 (cA w4 hl3 1 2 3 (.bool b4) (.slice A4 n4 d4) (.slice D4 m4 e4)))).mono ?_);rintro e w5 ⟨b5,A5,n5,d5,D5,m5,e5,rfl,q5,h5,hg5⟩;have p5:=bD hg5 (P4.out.x7 (.bool b4) (.slice A4 n4 d4) (.slice D4 m4 e4)) (by omega);have g5:wr.grownBy w5 (some gr):=aD (dk g4 (cA w4 hw3 1 2 3 (.bool b4) (.slice A4 n4 d4) (.slice D4 m4 e4))) hg5;have q45:=(Q4.out.tch (fg P4.out rfl 1 2 3 (.bool b4) (.slice A4 n4 d4) (.slice D4 m4 e4))).tch ((H4.out.bel1 (cA w4 hl3 1 2 3 (.bool b4) (.slice A4 n4 d4) (.slice D4 m4 e4))).tch hg5 (T:=TA) rfl);have hlp5:=p5.lt;obtain ⟨_,_,_,_,fr4,fr5,fr6⟩:=p5.f7;obtain ⟨_,_,_,_,cr4,cr5,cr6⟩:=p5.c7;have P5:=Qh p5;have H5:=Qh h5;have Q45:=Qh q45;have Q5:=Qh q5;clear p5 h5 q5 q45 hg5 g4 P4 H4 Q4 fp1 fp2 fp3 cq1 cq2 cq3;go_wp2_with fail;(with_reducible refine (eO B _ gr c1 c2 c3 c4 s'.word.2.number.2.number.2 (H5.out.bel1 (cA w5 hl3 4 5 6 (.bool b5) (.slice A5 n5 d5) (.slice D5 m5 e5))) [59]).mono ?_);rintro e w6 ⟨rfl,h6,hg6⟩;have p6:=bD hg6 (P5.out.y7 (.bool b5) (.slice A5 n5 d5) (.slice D5 m5 e5)) (by omega);have g6:wr.grownBy w6 (some gr):=aD (dk g5 (cA w5 hw3 4 5 6 (.bool b5) (.slice A5 n5 d5) (.slice D5 m5 e5))) hg6;have t6:=(fg P5.out rfl 4 5 6 (.bool b5) (.slice A5 n5 d5) (.slice D5 m5 e5)).trans ((H5.out.bel1 (cA w5 hl3 4 5 6 (.bool b5) (.slice A5 n5 d5) (.slice D5 m5 e5))).tch hg6 (T:=TA) rfl);have HM:=Qh (show MkC 130 w6 [ae s'.word.1,.bool b4,.slice A4 n4 d4,.slice D4 m4 e4,.bool b5,.slice A5 n5 d5,.slice D5 m5 e5] s'.mark.1 from ⟨b4,A4,n4,d4,D4,m4,e4,b5,A5,n5,d5,D5,m5,e5,rfl,Q45.out.tch t6,Q5.out.tch t6,hnm.out⟩);have HB6:=Qh (show BdR B w gr gb c1 c2 c3 c4 s.word.1 w6 s'.mark.2 l (.slice Ap l.length cp) from HBR.out.call h6 g6);obtain ⟨_,xs,hown,hrow⟩:=HB6.out.row;have HO:=Qh hown;have HW:=Qh hrow;obtain ⟨cb0,cb1⟩:=HB6.out.b.c2;obtain ⟨cp0,cp1,cp2,cp3,cp4,cp5,cp6⟩:=p6.c7;have hlb:=HB6.out.b.lt;have hlp6:=p6.lt;clear h6 hg6 hown hrow p6 t6 g5 g6 P5 H5 Q45 Q5 fr4 fr5 fr6 cr4 cr5 cr6;go_wp2_with (at_builtin;refine ce _ rfl noW _ _ _ rfl gb 67 i0 (.agg #[.string ⟨#[]⟩,.bool false,.slice none 0 0,.slice none 0 0,.bool false,.slice none 0 0,.slice none 0 0]) 7 128 Tryz.underlying60 HI.out.1 HI.out.2.1 HI.out.2.2.1 HI.out.2.2.2 rfl (by omega) rfl _ l.length xs rfl (HO.out.belw ((Below.refl _ _).alloc Qr _)) ⟨w6.heap.size,0,none⟩ 1 1 [_,_,_,_,_,_,_] rfl rfl (World.news_of_block (heap_alloc_new w6 _)) (by simp [Value.oneCell']) rfl (by omega) (by unfold maxLen;omega) (by omega) (by simp;omega) ?_;intro gx cap w7 hown7 hgrow hat;have fb7:=(HB6.out.b5 HO.out _ hgrow).frozen 1;obtain ⟨ce0,ce1⟩:=(HB6.out.b5 HO.out _ hgrow).c2);have hst:=gU s';have hR2:=dm (l:=l) hff hx HS2.out;rw [HR.out] at hR2;go_roundw
    case rel =>
     refine ⟨f - 1,s'.mark.2,l ++ [s'.mark.1],_,HB6.out.push HO.out HW.out HM.out rfl hown7 hgrow,fun hz=>?_,Qh hR2.symm⟩;have h9:=(hst.2.2.1 hz).2;rw [List.length_append,List.length_singleton];omega
    case measure =>
     rw [(HB6.out.push HO.out HW.out HM.out rfl hown7 hgrow).rd.meas,HBR.out.rd.meas,if_pos hx];have h8:=hst.1;by_cases hz:s'.mark.2.x=0
     ·have h9:=(hst.2.2.1 hz).2
      rw [if_pos hz];omega
     rw [if_neg hz];omega
   subst hn0;have hs2:s'.signHead=false:=hs;clear hs ht;have HS2:=Qh hs2;clear hs2;go_wp2_with fail;(with_reducible refine (cR B _ gr c1 c2 c3 c4 s' HBR.out.rd).mono ?_);rintro e w3 ⟨rfl,h3,hg3⟩;have hnm:=Qh (gi HBR.out.rd.txt);have hl3:=h3.lt;have hw3:=hg3.size;have H3:=Qh h3;clear h3 a0 a5;go_wp2_with fail;(with_reducible refine (iJ B _ gr c1 c2 c3 c4 s'.word.2 (H3.out.alloc _)).mono ?_);rintro e w4 ⟨b4,A4,n4,d4,D4,m4,e4,rfl,q4,h4,hg4⟩;have p4:Blk w4 w3.heap.size 67 #[ae s'.word.1,.bool false,.slice none 0 0,.slice none 0 0,.bool false,.slice none 0 0,.slice none 0 0]:=bD hg4 (Blk.new _ _ _) (by omega);have g4:wr.grownBy w4 (some gr):=aD (aZ hg3 _) hg4;have hlp4:=p4.lt;obtain ⟨_,fp1,fp2,fp3,_⟩:=p4.f7;obtain ⟨_,cq1,cq2,cq3,_⟩:=p4.c7;have P4:=Qh p4;have H4:=Qh h4;have Q4:=Qh q4;clear p4 h4 q4 hg4 hg3 H3;go_wp2_with fail;(with_reducible refine (iJ B _ gr c1 c2 c3 c4 s'.word.2.number.2 (H4.out.bel1 (cA w4 hl3 1 2 3 (.bool b4) (.slice A4 n4 d4) (.slice D4 m4 e4)))).mono ?_);rintro e w5 ⟨b5,A5,n5,d5,D5,m5,e5,rfl,q5,h5,hg5⟩;have p5:=bD hg5 (P4.out.x7 (.bool b4) (.slice A4 n4 d4) (.slice D4 m4 e4)) (by omega);have g5:wr.grownBy w5 (some gr):=aD (dk g4 (cA w4 hw3 1 2 3 (.bool b4) (.slice A4 n4 d4) (.slice D4 m4 e4))) hg5;have q45:=(Q4.out.tch (fg P4.out rfl 1 2 3 (.bool b4) (.slice A4 n4 d4) (.slice D4 m4 e4))).tch ((H4.out.bel1 (cA w4 hl3 1 2 3 (.bool b4) (.slice A4 n4 d4) (.slice D4 m4 e4))).tch hg5 (T:=TA) rfl);have hlp5:=p5.lt;obtain ⟨_,_,_,_,fr4,fr5,fr6⟩:=p5.f7;obtain ⟨_,_,_,_,cr4,cr5,cr6⟩:=p5.c7;have P5:=Qh p5;have H5:=Qh h5;have Q45:=Qh q45;have Q5:=Qh q5;clear p5 h5 q5 q45 hg5 g4 P4 H4 Q4 fp1 fp2 fp3 cq1 cq2 cq3;go_wp2_with fail;(with_reducible refine (eO B _ gr c1 c2 c3 c4 s'.word.2.number.2.number.2 (H5.out.bel1 (cA w5 hl3 4 5 6 (.bool b5) (.slice A5 n5 d5) (.slice D5 m5 e5))) [59]).mono ?_);rintro e w6 ⟨rfl,h6,hg6⟩;have p6:=bD hg6 (P5.out.y7 (.bool b5) (.slice A5 n5 d5) (.slice D5 m5 e5)) (by omega);have g6:wr.grownBy w6 (some gr):=aD (dk g5 (cA w5 hw3 4 5 6 (.bool b5) (.slice A5 n5 d5) (.slice D5 m5 e5))) hg6;have t6:=(fg P5.out rfl 4 5 6 (.bool b5) (.slice A5 n5 d5) (.slice D5 m5 e5)).trans ((H5.out.bel1 (cA w5 hl3 4 5 6 (.bool b5) (.slice A5 n5 d5) (.slice D5 m5 e5))).tch hg6 (T:=TA) rfl);have HM:=Qh (show MkC 130 w6 [ae s'.word.1,.bool b4,.slice A4 n4 d4,.slice D4 m4 e4,.bool b5,.slice A5 n5 d5,.slice D5 m5 e5] s'.mark.1 from ⟨b4,A4,n4,d4,D4,m4,e4,b5,A5,n5,d5,D5,m5,e5,rfl,Q45.out.tch t6,Q5.out.tch t6,hnm.out⟩);have HB6:=Qh (show BdR B w gr gb c1 c2 c3 c4 s.word.1 w6 s'.mark.2 l (.slice Ap l.length cp) from HBR.out.call h6 g6);obtain ⟨_,xs,hown,hrow⟩:=HB6.out.row;have HO:=Qh hown;have HW:=Qh hrow;obtain ⟨cb0,cb1⟩:=HB6.out.b.c2;obtain ⟨cp0,cp1,cp2,cp3,cp4,cp5,cp6⟩:=p6.c7;have hlb:=HB6.out.b.lt;have hlp6:=p6.lt;clear h6 hg6 hown hrow p6 t6 g5 g6 P5 H5 Q45 Q5 fr4 fr5 fr6 cr4 cr5 cr6;go_wp2_with (at_builtin;refine ce _ rfl noW _ _ _ rfl gb 67 i0 (.agg #[.string ⟨#[]⟩,.bool false,.slice none 0 0,.slice none 0 0,.bool false,.slice none 0 0,.slice none 0 0]) 7 128 Tryz.underlying60 HI.out.1 HI.out.2.1 HI.out.2.2.1 HI.out.2.2.2 rfl (by omega) rfl _ l.length xs rfl (HO.out.belw ((Below.refl _ _).alloc Qr _)) ⟨w6.heap.size,0,none⟩ 1 1 [_,_,_,_,_,_,_] rfl rfl (World.news_of_block (heap_alloc_new w6 _)) (by simp [Value.oneCell']) rfl (by omega) (by unfold maxLen;omega) (by omega) (by simp;omega) ?_;intro gx cap w7 hown7 hgrow hat;have fb7:=(HB6.out.b5 HO.out _ hgrow).frozen 1;obtain ⟨ce0,ce1⟩:=(HB6.out.b5 HO.out _ hgrow).c2);have hst:=gU s';have hR2:=dm (l:=l) hff hx HS2.out;rw [HR.out] at hR2;go_roundw
   case rel =>
    refine ⟨f - 1,s'.mark.2,l ++ [s'.mark.1],_,HB6.out.push HO.out HW.out HM.out rfl hown7 hgrow,fun hz=>?_,Qh hR2.symm⟩;have h9:=(hst.2.2.1 hz).2;rw [List.length_append,List.length_singleton];omega
   case measure =>
    rw [(HB6.out.push HO.out HW.out HM.out rfl hown7 hgrow).rd.meas,HBR.out.rd.meas,if_pos hx];have h8:=hst.1;by_cases hz:s'.mark.2.x=0
    ·have h9:=(hst.2.2.1 hz).2
     rw [if_pos hz];omega
    rw [if_neg hz];omega
  rw [eVp hx] at a5;have hz:=HBR.out.out;have hbb:=HBR.out.b;obtain ⟨cz0,cz1⟩:=hz.c2;obtain ⟨fz0,fz1⟩:=hz.f2;obtain ⟨cb0,cb1⟩:=hbb.c2;have hne:¬ gb=w.heap.size:=by omega
  have hRl:=ix (f:=f) (l:=l) hx;rw [HR.out] at hRl;subst hRl;clear hz hbb hfl ht;go_wp2_with fail;refine bodyPost_ret (v:=.agg #[ae s.word.1,.slice Ap l.length cp]) (by simp [results,Tryz.results72,go_sem, *] <;> trivial) rfl ?_;exact ⟨_,_,_,rfl,(HBR.out.fin _ _).2.2,HN.out,(HBR.out.fin _ _).1,(HBR.out.fin _ _).2.1⟩
theorem kS {α:Type}{f:α→List UInt8}{l:List α}{nm:List UInt8}{i:Nat}{b:α}(h:∀ a∈l.take i,f a≠nm) (hb:l[i]?=some b) (e:f b=nm):l.findIdx? (fun x=>f x == nm)=some i:=by
 rw [List.findIdx?_eq_some_iff_getElem];obtain ⟨hi,hb⟩:=List.getElem?_eq_some_iff.1 hb;refine ⟨hi,by rw [hb];simp [e],fun j hj=>?_⟩
 have hm:l[j]'(by omega)∈l.take i:=by
  rw [List.mem_take_iff_getElem];exact ⟨j,by omega,rfl⟩
 simpa using h _ hm
theorem jS {α:Type}{f:α→List UInt8}{l:List α}{nm:List UInt8}(h:∀ a∈l,f a≠nm):l.findIdx? (fun x=>f x == nm)=none:=by
 rw [List.findIdx?_eq_none_iff];intro x hx;simpa using h x hx
theorem iK {α:Type}{p:α→Prop}{l:List α}{i:Nat}{b:α}(h:∀ a∈l.take i,p a) (hb:l[i]?=some b) (hp:p b):∀ a∈l.take (i+1),p a:=by
 intro a ha;rw [List.take_add_one,hb] at ha;simp at ha;rcases ha with ha | rfl
 ·exact h a ha
 exact hp
section
variable {w w':World}{gr base n c:Nat}{A:Option Addr}{cs:Array Value}
theorem bi.rgt {α:Type}{T0:TypeId}{Pc:World→List Value→α→Prop}{sz:Nat}{v:Value}{l:List α}(h:bi T0 Pc sz w base v n l) (hb:Blk w gr 87 cs) (hne:T0≠87) (k:w.grownBy w' (some gr)) (hP:∀ cs a,Pc w cs a→Pc w' cs a):bi T0 Pc sz w' base v n l :=
 h.same (fun g cur _ hc=>sq k hc (fun e=>by
  subst e;unfold Blk at hb;rw [hb] at hc;injection hc with hc;injection hc with _ hc
  exact hne hc.symm)) hP
theorem bi.bds {k:Nat}{l:List al}(h:bi 62 (BdC k) 2 w base (.slice A n c) n l):SlS (fD k) 2 w A n c l:=(h.slT (P:=fD k) fun _ _ _ _ h1 h2=>h1.at_ h2).sl fun _ _ _ p=>p
theorem bi.jts {l:List aN}(h:bi 79 JtC 7 w base (.slice A n c) n l):SlS kG 7 w A n c l:=(h.slT (P:=kG) fun _ _ _ _ h1 h2=>h1.at_ h2).sl fun _ _ _ p=>p
theorem bi.drs {l:List bc}(h:bi 81 DrC 2 w base (.slice A n c) n l):SlS kH 2 w A n c l:=(h.slT (P:=kH) fun _ _ _ _ h1 h2=>h1.at_ h2).sl fun _ _ _ p=>p
end
theorem RdP.bodies {B:Nat}{w w':World}{gr n c:Nat}{A:Option Addr}{c1 c2 c3 c4:Value}{s:PS}{l:List al}(h:RdP B w gr c1 c2 c3 c4 s) (hr:bi 62 (BdC 130) 2 w B (.slice A n c) n l) (k:w.grownBy w' (some gr)):bi 62 (BdC 130) 2 w' B (.slice A n c) n l:=by
 obtain ⟨_,_,_,hb,_⟩:=h.blk;exact hr.rgt hb (by decide) k fun _ _ x=>x.tch (T:=fun t=>t == 87) (h.tch k rfl) (by decide)
theorem p9 (B:Nat) (w:World) (gr:Nat) (c1 c3 c4:Value) (A:Option Addr) (n c:Nat) (s:PS) (h:RdP B w gr c1 (.slice A n c) c3 c4 s) (hr:bi 62 (BdC 130) 2 w B (.slice A n c) n s.L.bodies) (hn:n≤100000) (only:Int):Calls Tryz.prog 74 #[.pointer (some ⟨gr,0,none⟩),.int .i64 only] w (qZ B w gr c1 (.slice A n c) c3 c4 (.int .i64 (s.named only).1) (s.named only).2):=by
 have HP:=Qh h;have HR:=Qh hr;obtain ⟨W,hW⟩:∃ W,s.named only=W:=⟨_,rfl⟩;rw [hW];have HW:=Qh hW;clear h hr hW;go_in;go_wp2_with fail;(with_reducible refine (cR B _ gr c1 (.slice A n c) c3 c4 s HP.out).mono ?_);rintro e w1 ⟨rfl,h1,hg1⟩;have HB:=Qh (HP.out.bodies HR.out hg1);have hLs:=(ar s).2.2.2;have hW:=HW.out;unfold PS.named at hW;simp only at hW;rw [hLs] at hW;generalize s.word.2=s' at h1 hW;generalize s.word.1=nm at hW ⊢;have H1:=Qh h1;obtain ⟨D,m,d,hb,_⟩:=h1.blk;obtain ⟨_,_,a2,_,_,a5⟩:=hb.c6;have hgl:=hb.lt;clear hb h1 HW HP HR hLs;by_cases hx:s'.x=0
 ·rw [if_neg (by simp [hx])] at hW
  rw [hx,dE] at a5;have HX:=Qh hx;have HW:=Qh hW;clear hx hW;go_wp2_with fail;clear a2 a5;go_loopw [21] (fun iv wr=>∃ i:Nat,iv=.int .i64 (i:Nat)∧i≤n∧Hid (∀ a∈s.L.bodies.take i,a.name≠nm)∧Below w1.heap.size w1 wr) (fun iv _=>n - (intOf iv).toNat)
  case atStart=>exact ⟨0,rfl,Nat.zero_le _,Qh (by simp),aa w1⟩
  case round =>
   obtain ⟨i,rfl,hi,HT,hb⟩:=hrel;rename World=>wr;rcases Nat.lt_or_ge i n with hlt | hge
   ·have hi1:((i:Int) < (n:Int))=True:=by simp;omega
    obtain ⟨g,o,b,e,hg,_,hbi,hB⟩:=(HB.out.bds.bd hb).at_ hlt;subst e;obtain ⟨A',n',c',d0,d1,hM,hnm⟩:=hB;clear hM hnm;have htl:=az b.name;have htn:=az nm;have HBI:=Qh hbi;clear hbi;by_cases heq:b.name=nm
    ·have hf:findB s.L.bodies nm=some i:=kS (f:=al.name) HT.out HBI.out heq
     have hW:=HW.out;rw [hf] at hW;simp only at hW;rw [heq] at d0 htl;have hee:(nm == nm)=true:=by simp
     have r1:=H1.out.belw hb;have g1:=da hg1 hb;have R1:=Qh r1;clear HBI heq hf r1;by_cases ho:0≤only
     ·have ho1:(0≤only)=True:=eq_true ho
      by_cases hio:(i:Int)=only
      ·rw [if_neg (by simp [hio])] at hW
       subst hW;have hio1:((i:Int) == only)=true:=by simp [hio]
       clear hio;go_wp2;go_ret;exact ⟨rfl,R1.out.alloc _,aZ g1 _⟩
      rw [if_pos ⟨ho,hio⟩,show s'.fail 7={ s' with x:=7 } from if_pos HX.out] at hW;subst hW;have hio1:((i:Int) == only)=false:=beq_eq_false_iff_ne.2 hio;clear hio;obtain ⟨D2,m2,d2,hbr,htr⟩:=R1.out.blk;have HBr:=Qh (hbr.alloc (.cells #[ae nm,.slice A' n' c'] 62));have HTr:=Qh htr;clear hbr htr;go_wp2_with fail;(with_reducible refine (fs _ gr (.slice D2 m2 d2) c1 (.slice (some ⟨g,o,none⟩) n c) c3 c4 s'.x 7 HBr.out (by decide)).mono ?_);rintro e w2 ⟨rfl,hb2,hg2⟩;have g2:=aD (aZ (rg_refl gr wr) _) hg2;rw [if_pos HX.out] at hb2;have R2:RdP B w2 gr c1 (.slice (some ⟨g,o,none⟩) n c) c3 c4 { s' with x:=7 }:=⟨⟨D2,m2,d2,hb2,HTr.out.rg R1.out.hB g2⟩,R1.out.mx.rg R1.out.hB g2,R1.out.hB,R1.out.len,R1.out.txt,R1.out.hw⟩;clear hb2;go_wp2;go_ret;exact ⟨rfl,R2,aD g1 g2⟩
     have ho1:(0≤only)=False:=eq_false ho;rw [if_neg (by omega)] at hW;subst hW;go_wp2;go_ret;exact ⟨rfl,R1.out.alloc _,aZ g1 _⟩
    have hee:(b.name == nm)=false:=beq_eq_false_iff_ne.2 heq;have HT2:=Qh (iK (p:=fun a:al=>a.name≠nm) HT.out HBI.out heq);clear heq HT HBI;go_wp2_with fail;go_roundw
    case rel=>exact ⟨i+1,by go_num,by omega,HT2,hb.alloc hb.size _⟩
    case measure=>simp [intOf];omega
   have hi1:((i:Int) < (n:Int))=False:=by simp;omega
   obtain rfl:i=n:=by omega
   have hl:s.L.bodies.length=i:=HB.out.1;have hf:findB s.L.bodies nm=none:=jS (f:=al.name) fun a ha=>HT.out a (by rw [List.take_of_length_le (by omega)];exact ha)
   have hW:=HW.out;rw [hf] at hW;simp only at hW;have e2:s'.fail 5={ s' with x:=5 }:=if_pos HX.out;rw [e2] at hW;subst hW;have r1:=H1.out.belw hb;have g1:=da hg1 hb;have R1:=Qh r1;obtain ⟨D2,m2,d2,hbr,htr⟩:=r1.blk;have HBr:=Qh hbr;have HTr:=Qh htr;clear hbr htr r1 hf hl HT;go_wp2_with fail;(with_reducible refine (fs _ gr (.slice D2 m2 d2) c1 (.slice A i c) c3 c4 s'.x 5 HBr.out (by decide)).mono ?_);rintro e w2 ⟨rfl,hb2,g2⟩;rw [if_pos HX.out] at hb2;have R2:RdP B w2 gr c1 (.slice A i c) c3 c4 { s' with x:=5 }:=⟨⟨D2,m2,d2,hb2,HTr.out.rg R1.out.hB g2⟩,R1.out.mx.rg R1.out.hB g2,R1.out.hB,R1.out.len,R1.out.txt,R1.out.hw⟩;clear hb2;go_wp2;go_ret;exact ⟨rfl,R2,aD g1 g2⟩
 rw [if_pos (by simpa using hx)] at hW;subst hW;rw [eVp hx] at a5;clear hx;go_wp2;go_ret;exact ⟨rfl,H1.out,hg1⟩
theorem RdP.body_at {k n c i:Nat}{w:World}{A:Option Addr}{l:List al}(h:SlS (fD k) 2 w A n c l) (hi:i < n):∃ g o b A' n' c',A=some ⟨g,o,none⟩∧l[i]?=some b∧w.cell? ⟨g,o+i * 2+1,none⟩=some (.slice A' n' c')∧SlS (eN k) 7 w A' n' c' b.pts:=by
 obtain ⟨g,o,b,e,hg,_,hbi,A',n',c',d0,d1,hM,_⟩:=h.at_ hi;exact ⟨g,o,b,A',n',c',e,hbi,d1,hM⟩
theorem jT (B:Nat) (w:World) (gr:Nat) (c1 c3 c4:Value) (A:Option Addr) (n c:Nat) (s:PS) (h:RdP B w gr c1 (.slice A n c) c3 c4 s) (hr:bi 62 (BdC 130) 2 w B (.slice A n c) n s.L.bodies) (hn:n≤100000) (hpt:∀ b∈s.L.bodies,b.pts.length≤100000) (only:Int):Calls Tryz.prog 73 #[.pointer (some ⟨gr,0,none⟩),.int .i64 only] w (qZ B w gr c1 (.slice A n c) c3 c4 (.tuple #[.int .i64 (s.full only).1,.int .i64 (s.full only).2.1]) (s.full only).2.2):=by
 have HP:=Qh h;have HR:=Qh hr;have HPT:=Qh hpt;obtain ⟨W,hW⟩:∃ W,s.full only=W:=⟨_,rfl⟩;rw [hW];have HW:=Qh hW;clear h hr hW hpt;go_in;go_wp2_with fail;(with_reducible refine (p9 B _ gr c1 c3 c4 A n c s HP.out HR.out hn only).mono ?_);rintro e w1 ⟨rfl,h1,hg1⟩;have H1:=Qh h1;clear h1;go_wp2_with fail;(with_reducible refine (eO B _ gr c1 (.slice A n c) c3 c4 (s.named only).2 H1.out [46]).mono ?_);rintro e w2 ⟨rfl,h2,hg2⟩;have H2:=Qh h2;clear h2;go_wp2_with fail;(with_reducible refine (cR B _ gr c1 (.slice A n c) c3 c4 ((s.named only).2.expect 2 [46]) H2.out).mono ?_);rintro e w3 ⟨rfl,h3,hg3⟩;have G3:=aD (aD hg1 hg2) hg3;have HB:=Qh (HP.out.bodies HR.out G3);have hst:=(ay (s.named only).2 2 [46]).trans (ar ((s.named only).2.expect 2 [46]));have hLs:=((eT s only).trans hst).2.2.2;have hin:=vT s only;have hW:=HW.out;unfold PS.full at hW;simp only at hW;rw [hLs] at hW;have hxs:((s.named only).2.expect 2 [46]).word.2.x=0→(s.named only).2.x=0:=fun hx=>(hst.2.2.1 hx).1
 clear hst hLs HW H1 H2 hg1 hg2 hg3 HP HR;generalize ((s.named only).2.expect 2 [46]).word.2=s' at h3 hW hxs;generalize ((s.named only).2.expect 2 [46]).word.1=nm at hW ⊢;generalize (s.named only).1=b at hW hin ⊢;have H3:=Qh h3;obtain ⟨D,m,d,hb,_⟩:=h3.blk;obtain ⟨_,_,a2,_,_,a5⟩:=hb.c6;have hgl:=hb.lt;clear hb h3;by_cases hx:s'.x=0
 ·rw [if_neg (by simp [hx])] at hW
  rw [hx,dE] at a5;obtain ⟨ib,eb,hib⟩:=hin (hxs hx);subst eb;have HX:=Qh hx;have hl:s.L.bodies.length=n:=HB.out.1;obtain ⟨g,o,bd,A',n',c',e,hbi,d1,hM⟩:=RdP.body_at HB.out.bds (show ib < n by omega);subst e
  have hp:cH s.L (ib:Int)=bd.pts:=by
   unfold cH;rw [Int.toNat_natCast,hbi]
  rw [hp] at hW;have hi1:((ib:Int) < (n:Int))=True:=by simp;omega
  have hi2:(0:Int)≤(ib:Int):=by omega
  have hn':n'≤100000:=by rw [← hM.1];exact HPT.out bd (List.mem_of_getElem? hbi)
  have HW:=Qh hW;have HM:=Qh hM;clear hx hW hp hbi hM hxs hin hl;go_wp2_with fail;clear a2 a5 d1;go_loopw [32] (fun iv wr=>∃ i:Nat,iv=.int .i64 (i:Nat)∧i≤n'∧Hid (∀ a∈bd.pts.take i,a.name≠nm)∧Below w3.heap.size w3 wr) (fun iv _=>n' - (intOf iv).toNat)
  case atStart=>exact ⟨0,rfl,Nat.zero_le _,Qh (by simp),aa w3⟩
  case round =>
   obtain ⟨i,rfl,hi,HT,hb⟩:=hrel;rename World=>wr;rcases Nat.lt_or_ge i n' with hlt | hge
   ·have hj1:((i:Int) < (n':Int))=True:=by simp;omega
    obtain ⟨g2,o2,p,e,hg,_,hpi,hP⟩:=(HM.out.mk_ hb).at_ hlt;subst e;obtain ⟨d0,⟨bx,Ax,nx,cx,Dx,mx,ex,d1,d2,d3,_⟩,⟨by_,Ay,ny,cy,Dy,my,ey,d4,d5,d6,_⟩,_⟩:=hP;have htl:=az p.name;have htn:=az nm;have HPI:=Qh hpi;clear hpi;by_cases heq:p.name=nm
    ·have hf:findM bd.pts nm=some i:=kS (f:=aq.name) HT.out HPI.out heq
     have hW:=HW.out;rw [hf] at hW;simp only at hW;subst hW;rw [heq] at d0 htl;have hee:(nm == nm)=true:=by simp
     have g1:=da G3 hb;have R1:=Qh (H3.out.belw hb);clear HPI heq hf;go_wp2_with fail;refine bodyPost_ret (v:=.tuple #[.int .i64 (ib:Nat),.int .i64 (i:Nat)]) (by simp [results,Tryz.results73,go_sem, *] <;> trivial) rfl ?_;exact ⟨rfl,R1.out.alloc _,aZ g1 _⟩
    have hee:(p.name == nm)=false:=beq_eq_false_iff_ne.2 heq;have HT2:=Qh (iK (p:=fun a:aq=>a.name≠nm) HT.out HPI.out heq);clear heq HT HPI;go_wp2_with fail;go_roundw
    case rel=>exact ⟨i+1,by go_num,by omega,HT2,hb.alloc hb.size _⟩
    case measure=>simp [intOf];omega
   have hj1:((i:Int) < (n':Int))=False:=by simp;omega
   obtain rfl:i=n':=by omega
   have hl:bd.pts.length=i:=HM.out.1;have hf:findM bd.pts nm=none:=jS (f:=aq.name) fun a ha=>HT.out a (by rw [List.take_of_length_le (by omega)];exact ha)
   have hW:=HW.out;rw [hf] at hW;simp only at hW;have e2:s'.fail 5={ s' with x:=5 }:=if_pos HX.out;rw [e2] at hW;subst hW;have r1:=H3.out.belw hb;have g1:=da G3 hb;have R1:=Qh r1;obtain ⟨D2,m2,d2,hbr,htr⟩:=r1.blk;have HBr:=Qh hbr;have HTr:=Qh htr;clear hbr htr r1 hf hl HT;go_wp2_with fail;(with_reducible refine (fs _ gr (.slice D2 m2 d2) c1 (.slice (some ⟨g,o,none⟩) n c) c3 c4 s'.x 5 HBr.out (by decide)).mono ?_);rintro e w5 ⟨rfl,hb2,g2⟩;rw [if_pos HX.out] at hb2;have R2:RdP B w5 gr c1 (.slice (some ⟨g,o,none⟩) n c) c3 c4 { s' with x:=5 }:=⟨⟨D2,m2,d2,hb2,HTr.out.rg R1.out.hB g2⟩,R1.out.mx.rg R1.out.hB g2,R1.out.hB,R1.out.len,R1.out.txt,R1.out.hw⟩;clear hb2;go_wp2_with fail;refine bodyPost_ret (v:=.tuple #[.int .i64 0,.int .i64 0]) (by simp [results,Tryz.results73,go_sem, *] <;> trivial) rfl ?_;exact ⟨rfl,R2,aD g1 g2⟩
 rw [if_pos (by simpa using hx)] at hW;subst hW;rw [eVp hx] at a5;clear hx;go_wp2_with fail;refine bodyPost_ret (v:=.tuple #[.int .i64 0,.int .i64 0]) (by simp [results,Tryz.results73,go_sem, *] <;> trivial) rfl ?_;exact ⟨rfl,H3.out,G3⟩
section
variable {P:Program}{ops:Array Oper}{Q:Exit→Act→World→Prop}{fr:(Nat→Value)→Act}{R:Nat→Value→World→Prop}{id:Nat}{w:World}{x0:Nat→Value}
theorem jU {L:Array Bool}{i:Nat}{o:Oper}(hlt:i < L.size) (ho:ops[i]?=some o) (hall:∀ e∈o.after,Region.binds .any e=true→L.getD e.on false=true)
 (hcl:∀ i o,ops[i]?=some o→L.getD i false=true→∀ e∈o.after,Region.binds .any e=true→L.getD e.on false=true) :
 ∀ i' o',ops[i']?=some o'→(L.setIfInBounds i true).getD i' false=true→∀ e∈o'.after,Region.binds .any e=true→(L.setIfInBounds i true).getD e.on false=true:=by
 intro i' o' ho' hl e he hbd;rw [ai hlt] at hl ⊢;by_cases h:i'=i
 ·subst h;rw [ho] at ho';injection ho' with ho';subst ho'
  rw [hall e he hbd];simp
 have:L.getD i' false=true:=by simpa [h] using hl
 rw [hcl i' o' ho' this e he hbd];simp
def vY (l:List Oper) (n:Nat):Bool:=(List.range n).all fun j=>(List.range (n+1)).any fun k=>decide (j < k) && match l[k]? with | some o=>o.after.any (fun e=>Region.binds .any e && e.on == j) | none=>false
theorem gV {l:List Oper}{n j:Nat}(h:vY l n=true) (hj:j < n):∃ k o,j < k∧k≤n∧(l.toArray)[k]?=some o∧∃ e∈o.after,Region.binds .any e=true∧e.on=j:=by
 unfold vY at h;rw [List.all_eq_true] at h;have h1:=h j (List.mem_range.2 hj);rw [List.any_eq_true] at h1;obtain ⟨k,hk,h2⟩:=h1;rw [Bool.and_eq_true,decide_eq_true_eq] at h2;obtain ⟨hjk,h2⟩:=h2
 cases hl:l[k]? with
 | none=>rw [hl] at h2;cases h2
 | some o =>
  rw [hl] at h2;obtain ⟨e,he,h3⟩:=Array.any_eq_true'.1 h2;rw [Bool.and_eq_true] at h3;exact ⟨k,o,hjk,by have:=List.mem_range.1 hk;omega,by simpa using hl,e,he,h3.1,by simpa using h3.2⟩
end
def Grw (p:Value→World→Prop):Prop:=∀ v w w',p v w→Below w.heap.size w w'→p v w'
def ra:List (Value→World→Prop)→Prop
  | []=>True
  | p :: l=>Grw p∧ra l
theorem ra.get:∀ (l:List (Value→World→Prop)),ra l→∀ i v w w',l.getD i (fun _ _=>True) v w→Below w.heap.size w w'→l.getD i (fun _ _=>True) v w':=by
 intro l
 induction l with
 | nil=>intro _ i v w w' _ _;simp
 | cons p l ih =>
  intro h i v w w' hp hk
  cases i with
  | zero=>exact h.1 v w w' hp hk
  | succ i=>exact ih h.2 i v w w' hp hk
def AV (ops:Array Oper) (fr:(Nat→Value)→Act) (R:Nat→Value→Prop) (T:Nat→(Nat→Value)→World→Prop) (st:Nat→Option Nat) (K:Nat) (L:Array Bool) (a:Act) (w:World):Prop :=
  ∃ x k,a=fr x∧k≤K∧T k x w∧(∀ i j,st i=some j→(L.getD i false=true ↔ j < k))∧(∀ i,L.getD i false=true→R i (x i)) ∧
  (∀ i o,ops[i]?=some o→L.getD i false=true→∀ e∈o.after,Region.binds .any e=true→L.getD e.on false=true)
section
variable (P:Program) (ops:Array Oper) (Q:Exit→Act→World→Prop) (fr:(Nat→Value)→Act) (R:Nat→Value→Prop) (T:Nat→(Nat→Value)→World→Prop)
def lX (i:Nat) (o:Oper):Prop :=
  ∀ k x wq,T k x wq→(∀ e∈o.after,Region.binds .any e=true→R e.on (x e.on))→∀ K':Act→World→Prop,Shut (∀ v,R i v→K' ((fr x).put o.dst v) wq) →
      if Region.wanted o (yielded ops (fr x).tmps)=true then Oper.wp P o (fr x) wq K' Q else K' ((fr x).put o.dst undef) wq
def fW (k:Nat) (i:Nat) (o:Oper):Prop :=
  ∀ x wq,T k x wq→(∀ e∈o.after,Region.binds .any e=true→R e.on (x e.on))→∀ K':Act→World→Prop,Shut (∀ v w',R i v→T (k+1) (upd x i v) w'→K' ((fr x).put o.dst v) w') →
      if Region.wanted o (yielded ops (fr x).tmps)=true then Oper.wp P o (fr x) wq K' Q else K' ((fr x).put o.dst undef) wq
end
section
variable {P:Program}{ops:Array Oper}{Q:Exit→Act→World→Prop}{fr:(Nat→Value)→Act}{R:Nat→Value→Prop}{T:Nat→(Nat→Value)→World→Prop}{st:Nat→Option Nat}{K:Nat}{id:Nat}{w:World}{x0:Nat→Value}
theorem gF {n:Nat}(hm:P.follows .mixedOrders=true) (hn:ops.size=n+1)
 (hput:∀ i o,ops[i]?=some o→i < n→∀ x v,(fr x).put o.dst v=fr (upd x i v))
 (hac:∀ i o,ops[i]?=some o→∀ e∈o.after,Region.binds .any e=true→e.on < i)
 (hreach:∀ j,j < n→∃ k o,j < k∧k≤n∧ops[k]?=some o∧∃ e∈o.after,Region.binds .any e=true∧e.on=j)
 (hst:∀ i j,st i=some j→i < n∧j < K)
 (hinj:∀ i i' j,st i=some j→st i'=some j→i=i')
 (hall:∀ j,j < K→∃ i,st i=some j)
 (hchain:∀ i o j,ops[i]?=some o→st i=some (j+1)→∃ e∈o.after,Region.binds .any e=true∧st e.on=some j)
 (hT:∀ k x i v w,st i=none→T k x w→T k (upd x i v) w)
 (h0:T 0 x0 w.drew)
 (hpure:∀ i o,ops[i]?=some o→i < n→st i=none→lX P ops Q fr R T i o)
 (hstage:∀ i o k,ops[i]?=some o→st i=some k→fW P ops Q fr R T k i o)
 (hlast:∀ o,ops[n]?=some o→∀ x wq,T K x wq→(∀ j,j < n→R j (x j))→∀ K':Act→World→Prop,Shut (∀ a' w',Q .normal a' w'→K' a' w') →
  if Region.wanted o (yielded ops (fr x).tmps)=true then Oper.wp P o (fr x) wq K' Q else K' ((fr x).put o.dst undef) wq) :
 (Code.region id ops true).wp P Q (fr x0) w:=by
 refine wp_region_any hm (im (fun L a w'=>(L.getD n false=false∧AV ops fr R T st K L a w')∨((∀ i,i < ops.size→L.getD i false=true)∧Q .normal a w')) ?_ ?_ _ _ _ _ (by simp) ?_ ?_)
 ·rintro L a w1 i hs hi hcase
  obtain ⟨hun,o,ho,hall'⟩:=mem_ready.1 hi
  have hlt:i < L.size:=by
   rcases Nat.lt_or_ge i L.size with h | h
   ·exact h
   rw [Array.getD_eq_getD_getElem?,Array.getElem?_eq_none h] at hun;cases hun
  have hunf:L.getD i false=false:=by
   rw [Array.getD_eq_getD_getElem?,Array.getElem?_eq_getElem hlt] at hun ⊢;exact hun
  rcases hcase with ⟨hLn,x,k,rfl,hkK,hTk,hLk,hr,hcl⟩ | ⟨hdone,_⟩
  ·have hdep:∀ e∈o.after,Region.binds .any e=true→R e.on (x e.on):=fun e he hbd=>hr _ (hall' e he hbd)
   refine wpOp_step ho fun K' hK=>?_
   rcases Nat.lt_or_ge i n with hin | hin
   ·have hLn':(L.setIfInBounds i true).getD n false=false:=by
     rw [ai hlt,hLn];simp;omega
    have hr':∀ v,R i v→∀ j,(L.setIfInBounds i true).getD j false=true→R j (upd x i v j):=by
     intro v hv j hj;by_cases h:j=i
     ·subst h;rw [di];exact hv
     rw [aH _ _ h];rw [ai hlt] at hj;exact hr j (by simpa [h] using hj)
    cases hsi:st i with
    | none =>
     refine hpure i o ho hin hsi k x w1 hTk hdep K' (fun v hRv=>hK _ _ (Or.inl ⟨hLn',upd x i v,k,hput i o ho hin x v,hkK,hT _ _ _ _ _ hsi hTk,fun i' j hj=>?_,hr' v hRv,jU hlt ho hall' hcl⟩));have hne:i'≠i:=by rintro rfl;rw [hsi] at hj;cases hj
     rw [ai hlt,← hLk i' j hj];simp [hne]
    | some j0 =>
     have hk:k=j0:=by
      have h1:¬ j0 < k:=fun h=>by
       have:=(hLk i j0 hsi).2 h;rw [hunf] at this;cases this
      cases j0 with
      | zero=>omega
      | succ j =>
       obtain ⟨e,he,hbd,hse⟩:=hchain i o j ho hsi;have:=(hLk e.on j hse).1 (hall' e he hbd);omega
     subst hk;refine hstage i o k ho hsi x w1 hTk hdep K' (fun v w' hRv hTv=>hK _ _ (Or.inl ⟨hLn',upd x i v,k+1,hput i o ho hin x v,(hst i k hsi).2,hTv,fun i' j hj=>?_,hr' v hRv,jU hlt ho hall' hcl⟩));rw [ai hlt];by_cases h:i'=i
     ·subst h
      rw [hsi] at hj;injection hj with hj;subst hj;simp
     have hjk:j≠k:=fun e=>h (hinj _ _ _ hj (by rw [e];exact hsi))
     rw [show (decide (i'=i) || L.getD i' false)=L.getD i' false by simp [h],hLk i' j hj];omega
   have e:i=n:=by omega
   subst e
   have hallj:∀ m j,j < i→i - j≤m→L.getD j false=true:=by
    intro m
    induction m with
    | zero=>intro j hj hm;omega
    | succ m ih =>
     intro j hj hm;obtain ⟨k,o',hjk,hk,ho',e,he,hbd,hea⟩:=hreach j hj;rcases Nat.lt_or_ge k i with h | h
     ·rw [← hea];exact hcl k o' ho' (ih k h (by omega)) e he hbd
     have e2:k=i:=by omega
     subst e2;rw [ho] at ho';injection ho' with ho';subst ho';rw [← hea];exact hall' e he hbd
   have hkk:k=K:=by
    rcases Nat.lt_or_ge k K with h | h
    ·obtain ⟨i',hi'⟩:=hall k h
     have:=(hLk i' k hi').1 (hallj (i - i') i' (hst i' k hi').1 Qr);omega
    omega
   subst hkk;refine hlast o ho x w1 hTk (fun j hj=>hr j (hallj (i - j) j hj Qr)) K' (fun a' w' hq=>hK _ _ (Or.inr ⟨fun j hj=>?_,hq⟩));rw [ai hlt];by_cases h:j=i
   ·simp [h]
   rw [hallj (i - j) j (by omega) Qr];simp
  have:=hdone i (by omega);rw [hunf] at this;cases this
 ·rintro L a w1 hs hr0 (⟨hLn,x,k,rfl,hkK,hTk,hLk,hr,hcl⟩ | ⟨_,hq⟩)
  ·have hallL:∀ i,i < ops.size→L.getD i false=true:=by
    intro i
    induction i using Nat.strongRecOn with
    | ind i ih =>
     intro hi;cases h:L.getD i false
     ·exfalso
      have:i∈Region.ready .any ops L:=by
       refine mem_ready.2 ⟨?_,ops[i],Array.getElem?_eq_getElem hi,fun e he hbd=>?_⟩
       ·rw [Array.getD_eq_getD_getElem?,Array.getElem?_eq_getElem (by omega)] at h ⊢;exact h
       have h1:=hac i _ (Array.getElem?_eq_getElem hi) e he hbd;exact ih e.on h1 (by omega)
      rw [hr0] at this;cases this
     rfl
   have:=hallL n (by omega);rw [hLn] at this;cases this
  exact hq
 ·simp
 ·have hz:∀ j,(Array.replicate ops.size false).getD j false=false:=by
   intro j;rw [Array.getD_eq_getD_getElem?,Array.getElem?_replicate];split <;> rfl
  refine Or.inl ⟨hz n,x0,0,rfl,Nat.zero_le _,h0,fun i j hj=>?_,fun i h=>?_,fun i o _ h=>?_⟩
  ·rw [hz];simp
  ·rw [hz] at h;cases h
  rw [hz] at h;cases h
end
def stg (a K i:Nat):Option Nat:=if a≤i∧i < a+K then some (i - a) else none
theorem gW {a K i j:Nat}(h:stg a K i=some j):i=a+j∧j < K:=by
 unfold stg at h;split at h
 ·injection h with h;omega
 cases h
theorem vZ {a K j:Nat}(h:j < K):stg a K (a+j)=some j:=by
 unfold stg;rw [if_pos (by omega)];congr 1;omega
theorem qb {a K i:Nat}(h:stg a K i=none):i < a∨a+K≤i:=by
 unfold stg at h;split at h
 ·cases h
 omega
section
variable {P:Program}{ops:Array Oper}{Q:Exit→Act→World→Prop}{fr:(Nat→Value)→Act}{R:Nat→Value→Prop}{T:Nat→(Nat→Value)→World→Prop}{K a:Nat}{id:Nat}{w:World}{x0:Nat→Value}
theorem dV {n:Nat}(hm:P.follows .mixedOrders=true) (hn:ops.size=n+1)
 (hput:∀ i o,ops[i]?=some o→i < n→∀ x v,(fr x).put o.dst v=fr (upd x i v))
 (hac:∀ i o,ops[i]?=some o→∀ e∈o.after,Region.binds .any e=true→e.on < i)
 (hreach:∀ j,j < n→∃ k o,j < k∧k≤n∧ops[k]?=some o∧∃ e∈o.after,Region.binds .any e=true∧e.on=j)
 (haK:a+K≤n)
 (hchain:∀ j o,j+1 < K→ops[a+(j+1)]?=some o→∃ e∈o.after,Region.binds .any e=true∧e.on=a+j)
 (hT:∀ k x i v w,i < a∨a+K≤i→T k x w→T k (upd x i v) w)
 (h0:T 0 x0 w.drew)
 (hpure:∀ i o,ops[i]?=some o→i < n→i < a∨a+K≤i→lX P ops Q fr R T i o)
 (hstage:∀ k o,k < K→ops[a+k]?=some o→fW P ops Q fr R T k (a+k) o)
 (hlast:∀ o,ops[n]?=some o→∀ x wq,T K x wq→(∀ j,j < n→R j (x j))→∀ K':Act→World→Prop,Shut (∀ a' w',Q .normal a' w'→K' a' w') →
  if Region.wanted o (yielded ops (fr x).tmps)=true then Oper.wp P o (fr x) wq K' Q else K' ((fr x).put o.dst undef) wq) :
 (Code.region id ops true).wp P Q (fr x0) w :=
 gF (R:=R) (T:=T) (st:=stg a K) (K:=K) hm hn hput hac hreach
  (fun i j h=>by obtain ⟨h1,h2⟩:=gW h;omega)
  (fun i i' j h h'=>by obtain ⟨h1,_⟩:=gW h;obtain ⟨h2,_⟩:=gW h';omega)
  (fun j h=>⟨a+j,vZ h⟩)
  (fun i o j ho h=>by
   obtain ⟨rfl,h2⟩:=gW h;obtain ⟨e,he,hb,hon⟩:=hchain j o h2 ho
   exact ⟨e,he,hb,by rw [hon];exact vZ (by omega)⟩)
  (fun k x i v w h=>hT k x i v w (qb h)) h0
  (fun i o ho hi h=>hpure i o ho hi (qb h))
  (fun i o k ho h=>by obtain ⟨rfl,h2⟩:=gW h;exact hstage k o h2 ho) hlast
end
def stl (sl:List Nat) (i:Nat):Option Nat:=sl.findIdx? (· == i)
theorem cO {sl:List Nat}{i j:Nat}(h:stl sl i=some j):sl[j]?=some i:=by
 unfold stl at h;rw [List.findIdx?_eq_some_iff_getElem] at h;obtain ⟨hj,h1,_⟩:=h;rw [List.getElem?_eq_getElem hj];rw [beq_iff_eq] at h1;rw [h1]
theorem gX {sl:List Nat}{i:Nat}(h:stl sl i=none):i ∉ sl:=by
 unfold stl at h;rw [List.findIdx?_eq_none_iff] at h;intro hm;have:=h i hm;simp at this
theorem eJ {sl:List Nat}{i j:Nat}(h:sl[j]?=some i):j < sl.length:=(List.getElem?_eq_some_iff.1 h).1
section
variable {P:Program}{ops:Array Oper}{Q:Exit→Act→World→Prop}{fr:(Nat→Value)→Act}{R:Nat→Value→Prop}{T:Nat→(Nat→Value)→World→Prop}{id:Nat}{w:World}{x0:Nat→Value}
theorem mD (sl:List Nat) {n:Nat}(hm:P.follows .mixedOrders=true) (hn:ops.size=n+1)
 (hput:∀ i o,ops[i]?=some o→i < n→∀ x v,(fr x).put o.dst v=fr (upd x i v))
 (hac:∀ i o,ops[i]?=some o→∀ e∈o.after,Region.binds .any e=true→e.on < i)
 (hreach:∀ j,j < n→∃ k o,j < k∧k≤n∧ops[k]?=some o∧∃ e∈o.after,Region.binds .any e=true∧e.on=j)
 (hsl:∀ i∈sl,i < n) (hidx:∀ j,j < sl.length→∃ i,sl[j]?=some i∧stl sl i=some j)
 (hchain:∀ i o j,ops[i]?=some o→sl[j+1]?=some i→∃ e∈o.after,Region.binds .any e=true∧stl sl e.on=some j)
 (hT:∀ k x i v w,i ∉ sl→T k x w→T k (upd x i v) w)
 (h0:T 0 x0 w.drew)
 (hpure:∀ i o,ops[i]?=some o→i < n→i ∉ sl→lX P ops Q fr R T i o)
 (hstage:∀ k i o,sl[k]?=some i→ops[i]?=some o→fW P ops Q fr R T k i o)
 (hlast:∀ o,ops[n]?=some o→∀ x wq,T sl.length x wq→(∀ j,j < n→R j (x j))→∀ K':Act→World→Prop,Shut (∀ a' w',Q .normal a' w'→K' a' w') →
  if Region.wanted o (yielded ops (fr x).tmps)=true then Oper.wp P o (fr x) wq K' Q else K' ((fr x).put o.dst undef) wq) :
 (Code.region id ops true).wp P Q (fr x0) w :=
 gF (R:=R) (T:=T) (st:=stl sl) (K:=sl.length) hm hn hput hac hreach
  (fun i j h=>⟨hsl i (List.mem_of_getElem? (cO h)),eJ (cO h)⟩)
  (fun i i' j h h'=>by have h1:=cO h;rw [cO h'] at h1;injection h1 with h1;exact h1.symm)
  (fun j h=>by obtain ⟨i,_,hi⟩:=hidx j h;exact ⟨i,hi⟩)
  (fun i o j ho h=>hchain i o j ho (cO h))
  (fun k x i v w h=>hT k x i v w (gX h)) h0
  (fun i o ho hi h=>hpure i o ho hi (gX h))
  (fun i o k ho h=>hstage k i o (cO h) ho) hlast
end
def VE (u:Value):Value→Prop:=fun v=>v=u
def VA:Value→Prop:=fun _=>True
structure RdL (B:Nat) (w:World) (gr:Nat) (s:PS) (A:Option Addr) (n c:Nat) (A':Option Addr) (n' c':Nat) (A'':Option Addr) (n'' c'':Nat):Prop where
  rd:RdP B w gr (ae s.L.name) (.slice A n c) (.slice A' n' c') (.slice A'' n'' c'') s
  bd:bi 62 (BdC 130) 2 w B (.slice A n c) n s.L.bodies
  jt:bi 79 JtC 7 w B (.slice A' n' c') n' s.L.joints
  dr:bi 81 DrC 2 w B (.slice A'' n'' c'') n'' s.L.drivers
  nm:NmL s.L.name
  cnt:n+n'+n''+s.toks.length≤70000
  pts:∀ b∈s.L.bodies,b.pts.length≤70000
def nI (B:Nat) (w:World) (gr:Nat) (s:PS) (e:Ending) (w':World):Prop:=e=.returned (.tuple #[])∧(∃ A n c A' n' c' A'' n'' c'',RdL B w' gr s A n c A' n' c' A'' n'' c'')∧Below B w w'
section
variable {B:Nat}{w w':World}{gr:Nat}{c1 c2 c3 c4:Value}{s:PS}
theorem RdP.other {T:TypeId→Bool}(h:RdP B w gr c1 c2 c3 c4 s) (ht:Tch T w w') (hT:T 87=false) (hb:Below B w w'):RdP B w' gr c1 c2 c3 c4 s:=by
 obtain ⟨A,n,c,h1,h2⟩:=h.blk;exact ⟨⟨A,n,c,ht.2 gr _ _ _ h1 (.inl hT),h2.belB hb⟩,h.mx.belB hb,h.hB,h.len,h.txt,h.hw⟩
theorem RdP.put2 (h:RdP B w gr c1 c2 c3 c4 s) (v:Value) (hv:noW v=true) {s2:PS}(e1:s2.toks=s.toks) (e2:s2.x=s.x):RdP B (w.setCell ⟨gr,2,none⟩ v) gr c1 v c3 c4 s2:=by
 obtain ⟨A,n,c,h1,h2⟩:=h.blk;have hb:Below B w (w.setCell ⟨gr,2,none⟩ v):=(Below.refl B w).setCell (p:=⟨gr,2,none⟩) h.hB v;exact ⟨⟨A,n,c,by rw [e2];exact h1.s62 v,by rw [e1];exact h2.belB hb⟩,h.mx.belB hb,h.hB,by rw [e1];exact h.len,by rw [e1];exact h.txt,h.hw.1,hv,h.hw.2.2⟩
theorem RdP.put3 (h:RdP B w gr c1 c2 c3 c4 s) (v:Value) (hv:noW v=true) {s2:PS}(e1:s2.toks=s.toks) (e2:s2.x=s.x):RdP B (w.setCell ⟨gr,3,none⟩ v) gr c1 c2 v c4 s2:=by
 obtain ⟨A,n,c,h1,h2⟩:=h.blk;have hb:Below B w (w.setCell ⟨gr,3,none⟩ v):=(Below.refl B w).setCell (p:=⟨gr,3,none⟩) h.hB v;exact ⟨⟨A,n,c,by rw [e2];exact h1.s63 v,by rw [e1];exact h2.belB hb⟩,h.mx.belB hb,h.hB,by rw [e1];exact h.len,by rw [e1];exact h.txt,h.hw.1,h.hw.2.1,hv,h.hw.2.2.2⟩
theorem RdP.put4 (h:RdP B w gr c1 c2 c3 c4 s) (v:Value) (hv:noW v=true) {s2:PS}(e1:s2.toks=s.toks) (e2:s2.x=s.x):RdP B (w.setCell ⟨gr,4,none⟩ v) gr c1 c2 c3 v s2:=by
 obtain ⟨A,n,c,h1,h2⟩:=h.blk;have hb:Below B w (w.setCell ⟨gr,4,none⟩ v):=(Below.refl B w).setCell (p:=⟨gr,4,none⟩) h.hB v;exact ⟨⟨A,n,c,by rw [e2];exact h1.s64 v,by rw [e1];exact h2.belB hb⟩,h.mx.belB hb,h.hB,by rw [e1];exact h.len,by rw [e1];exact h.txt,h.hw.1,h.hw.2.1,h.hw.2.2.1,hv⟩
theorem RdP.put1 (h:RdP B w gr c1 c2 c3 c4 s) (v:Value) (hv:noW v=true) {s2:PS}(e1:s2.toks=s.toks) (e2:s2.x=s.x):RdP B (w.setCell ⟨gr,1,none⟩ v) gr v c2 c3 c4 s2:=by
 obtain ⟨A,n,c,h1,h2⟩:=h.blk;have hb:Below B w (w.setCell ⟨gr,1,none⟩ v):=(Below.refl B w).setCell (p:=⟨gr,1,none⟩) h.hB v;exact ⟨⟨A,n,c,by rw [e2];exact h1.s61 v,by rw [e1];exact h2.belB hb⟩,h.mx.belB hb,h.hB,by rw [e1];exact h.len,by rw [e1];exact h.txt,hv,h.hw.2⟩
theorem RdP.drew (h:RdP B w gr c1 c2 c3 c4 s):RdP B w.drew gr c1 c2 c3 c4 s:=⟨h.blk,h.mx,h.hB,h.len,h.txt,h.hw⟩
theorem RdP.cells (h:RdP B w gr c1 c2 c3 c4 s):w.cell? ⟨gr,1,none⟩=some c1∧w.cell? ⟨gr,2,none⟩=some c2∧w.cell? ⟨gr,3,none⟩=some c3∧w.cell? ⟨gr,4,none⟩=some c4∧w.frozen? ⟨gr,1,none⟩=false∧w.frozen? ⟨gr,2,none⟩=false∧w.frozen? ⟨gr,3,none⟩=false∧w.frozen? ⟨gr,4,none⟩=false:=by
 obtain ⟨A,n,c,hb,_⟩:=h.blk;obtain ⟨_,a1,a2,a3,a4,_⟩:=hb.c6;exact ⟨a1,a2,a3,a4,hb.frozen 1,hb.frozen 2,hb.frozen 3,hb.frozen 4⟩
def bK (t:TypeId):TypeId→Bool:=fun u=>u == t
theorem RdP.tchR (h:RdP B w gr c1 c2 c3 c4 s) (k:w.grownBy w' (some gr)):Tch (bK 87) w w':=h.tch k (by simp [bK])
end
theorem fh {α:Type}{T0:TypeId}{Pc:World→List Value→α→Prop}{sz B n:Nat}{w w5:World}{v v5:Value}{l:List α}{xs cs:List Value}{a:α}{o:Obj}(hl:l.length=n) (hown:OwJ noW w B T0 sz v n xs) (hrow:iU Pc sz w l xs)
 (hm:Pc w cs a) (hcs:cs.length=sz) (hown5:OwJ noW w5 B T0 sz v5 (n+1) (xs ++ cs)) (hgrow:(w.alloc o).grownBy w5 v.ownBlock) (hB:B≤w.heap.size) (hPc:∀ w' cs a,Tch (bK T0) w w'→Pc w cs a→Pc w' cs a) :
 bi T0 Pc sz w5 B v5 (n+1) (l ++ [a])∧Tch (bK T0) w w5∧Below B w w5:=by
 have hownA:OwJ noW (w.alloc o) B T0 sz v n xs:=hown.belw ((Below.refl _ _).alloc Qr o);have ht:Tch (bK T0) w w5:=(Tch.below ((Below.refl _ _).alloc Qr o)).trans (Tch.grown (fun _ hu=>hu) (by simp [bK]) hownA hgrow);exact ⟨⟨by simp [hl],xs ++ cs,hown5,(hrow.map_ fun cs a x=>hPc _ _ _ ht x).snoc (hPc _ _ _ ht hm) hcs⟩,ht,((Below.refl B w).alloc hB o).grown hgrow (by simp;omega) (fun k hk=>(hown.at_ hk).1)⟩
def zN (B gr:Nat) (w:World) (c1 c2 c3 c4:Value) (s:PS) (b:al) (v:Value) (wq:World):Prop :=
  ∃ A n c,v=.agg #[ae b.name,.slice A n c]∧km 130 wq A n c b.pts∧NmL b.name∧RdP B wq gr c1 c2 c3 c4 s∧w.grownBy wq (some gr)
def TB (B gr:Nat) (w:World) (c1 c2 c3 c4:Value) (s:PS) (b:al) (n:Nat) (l:List al):Nat→Value→Value→Value→World→Prop
  | 0,_,_,_,wq=>wq=w.drew
  | 1,v7,_,_,wq=>zN B gr w c1 c2 c3 c4 s b v7 wq
  | 2,_,v8,_,wq=>∃ w2 A n' c',zN B gr w c1 c2 c3 c4 s b (.agg #[ae b.name,.slice A n' c']) w2∧v8=.slice (some ⟨w2.heap.size,0,none⟩) 1 1∧wq=w2.alloc (.cells #[ae b.name,.slice A n' c'] 62)
  | 3,_,_,v9,wq=>∃ w2 v A5 c5,zN B gr w c1 c2 c3 c4 s b v w2∧v9=.slice A5 (n+1) c5∧bi 62 (BdC 130) 2 wq B v9 (n+1) (l ++ [b])∧Tch (bK 62) w2 wq∧Below B w2 wq
  | _,_,_,_,_=>False
theorem TB.rd {B gr:Nat}{w:World}{c1 c2 c3 c4:Value}{s0 s:PS}{b:al}{n:Nat}{l:List al}(h0:RdP B w gr c1 c2 c3 c4 s0):∀ {k:Nat}{v7 v8 v9:Value}{wq:World},TB B gr w c1 c2 c3 c4 s b n l k v7 v8 v9 wq→∃ s',RdP B wq gr c1 c2 c3 c4 s'
 | 0,_,_,_,_,h=>by
  have h:_=_:=h;rw [h];exact ⟨s0,⟨h0.blk,h0.mx,h0.hB,h0.len,h0.txt,h0.hw⟩⟩
 | 1,_,_,_,_,⟨_,_,_,_,_,_,h,_⟩=>⟨s,h⟩
 | 2,_,_,_,_,⟨w2,_,_,_,⟨_,_,_,_,_,_,h,_⟩,_,e⟩=>⟨s,by rw [e];exact h.alloc _⟩
 | 3,_,_,_,_,⟨w2,_,_,_,⟨_,_,_,_,_,_,h,_⟩,_,_,ht,hb⟩=>⟨s,h.other ht (by decide) hb⟩
 | _+4,_,_,_,_,h=>False.elim h
def TJ_ {α:Type}(T0:TypeId) (Pc:World→List Value→α→Prop) (sz:Nat) (B gj:Nat) (w:World) (cs:List Value) (a:α) (n:Nat) (l:List α):Nat→Value→Value→World→Prop
  | 0,_,_,wq=>wq=w.drew
  | 1,v7,_,wq=>v7=.slice (some ⟨w.heap.size,0,none⟩) 1 1∧wq=w.drew.alloc (.cells cs.toArray T0)
  | 2,_,v8,wq=>∃ A5 c5,v8=.slice A5 (n+1) c5∧bi T0 Pc sz wq B v8 (n+1) (l ++ [a])∧Blk wq gj T0 cs.toArray∧Tch (bK T0) w wq∧Below B w wq
  | _,_,_,_=>False
theorem TJ_.rd {α:Type}{T0:TypeId}{Pc:World→List Value→α→Prop}{sz B gj gr n:Nat}{w:World}{cs:List Value}{a:α}{l:List α}{c1 c2 c3 c4:Value}{s:PS}(hT:bK T0 87=false) (h0:RdP B w gr c1 c2 c3 c4 s):∀ {k:Nat}{v7 v8:Value}{wq:World},TJ_ T0 Pc sz B gj w cs a n l k v7 v8 wq→RdP B wq gr c1 c2 c3 c4 s
 | 0,_,_,_,h=>by
  have h:_=_:=h;rw [h];exact ⟨h0.blk,h0.mx,h0.hB,h0.len,h0.txt,h0.hw⟩
 | 1,_,_,_,⟨_,e⟩=>by
  rw [e];exact h0.drew.alloc _
 | 2,_,_,_,⟨_,_,_,_,_,ht,hb⟩=>h0.other ht hT hb
 | _+3,_,_,_,h=>False.elim h
theorem TJ_.blk {α:Type}{T0:TypeId}{Pc:World→List Value→α→Prop}{sz B gj n:Nat}{w:World}{cs:List Value}{a:α}{l:List α}(hb:Blk w gj T0 cs.toArray):∀ {k:Nat}{v7 v8:Value}{wq:World},TJ_ T0 Pc sz B gj w cs a n l k v7 v8 wq→Blk wq gj T0 cs.toArray
 | 0,_,_,_,h=>by
  have h:_=_:=h;rw [h];exact hb.drew
 | 1,_,_,_,⟨_,e⟩=>by rw [e];exact hb.drew.alloc _
 | 2,_,_,_,⟨_,_,_,_,h,_⟩=>h
 | _+3,_,_,_,h=>False.elim h
abbrev fr4 (u0 u1 u2 u3 u4 u5 u6 u7 u8 u9 u10 u11 u12 u26 u27 u28 u29 u30 u31 u32 u33 u34 u35 u36 u37 u38 u39 u40 u41 u42 u43 u44 u45 u46 u47 u48 u49 u50 u51 u52 u53 u54 u55 u56 u57 u58 u59 u60 u61 u62 u63 u64 u65 u66 u67 u68 u69 u70 u71 u72 u73 u74 u75 u76 u77 u78 u79 u80 u81 u82 u83 u84 u85 u86 u87 u88 u89 u90 u91 u92:Value) (xf:Nat→Value):Act:=⟨List.toArray (u0 :: u1 :: u2 :: u3 :: u4 :: u5 :: u6 :: u7 :: u8 :: u9 :: u10 :: u11 :: u12 :: xf 0 :: xf 1 :: xf 2 :: xf 3 :: xf 4 :: xf 5 :: xf 6 :: xf 7 :: xf 8 :: xf 9 :: xf 10 :: xf 11 :: xf 12 :: u26 :: u27 :: u28 :: u29 :: u30 :: u31 :: u32 :: u33 :: u34 :: u35 :: u36 :: u37 :: u38 :: u39 :: u40 :: u41 :: u42 :: u43 :: u44 :: u45 :: u46 :: u47 :: u48 :: u49 :: u50 :: u51 :: u52 :: u53 :: u54 :: u55 :: u56 :: u57 :: u58 :: u59 :: u60 :: u61 :: u62 :: u63 :: u64 :: u65 :: u66 :: u67 :: u68 :: u69 :: u70 :: u71 :: u72 :: u73 :: u74 :: u75 :: u76 :: u77 :: u78 :: u79 :: u80 :: u81 :: u82 :: u83 :: u84 :: u85 :: u86 :: u87 :: u88 :: u89 :: u90 :: u91 :: u92 :: []),[]⟩
abbrev cl (u0 u1 u2 u3 u4 u5 u6 u7 u8 u9 u10 u11 u12 u13 u14 u15 u16 u17 u18 u19 u20 u21 u22 u23 u24 u25 u26 u27 u28 u29 u30 u31 u32 u33 u34 u35 u36 u37 u38 u39 u40 u41 u42 u43 u44 u45 u46 u47 u48 u49 u50 u51 u52 u53 u54 u55 u56 u57 u58 u71 u72 u73 u74 u75 u76 u77 u78 u79 u80 u81 u82 u83 u84 u85 u86 u87 u88 u89 u90 u91 u92:Value) (xf:Nat→Value):Act:=⟨List.toArray (u0 :: u1 :: u2 :: u3 :: u4 :: u5 :: u6 :: u7 :: u8 :: u9 :: u10 :: u11 :: u12 :: u13 :: u14 :: u15 :: u16 :: u17 :: u18 :: u19 :: u20 :: u21 :: u22 :: u23 :: u24 :: u25 :: u26 :: u27 :: u28 :: u29 :: u30 :: u31 :: u32 :: u33 :: u34 :: u35 :: u36 :: u37 :: u38 :: u39 :: u40 :: u41 :: u42 :: u43 :: u44 :: u45 :: u46 :: u47 :: u48 :: u49 :: u50 :: u51 :: u52 :: u53 :: u54 :: u55 :: u56 :: u57 :: u58 :: xf 0 :: xf 1 :: xf 2 :: xf 3 :: xf 4 :: xf 5 :: xf 6 :: xf 7 :: xf 8 :: xf 9 :: xf 10 :: xf 11 :: u71 :: u72 :: u73 :: u74 :: u75 :: u76 :: u77 :: u78 :: u79 :: u80 :: u81 :: u82 :: u83 :: u84 :: u85 :: u86 :: u87 :: u88 :: u89 :: u90 :: u91 :: u92 :: []),[]⟩
abbrev fF (u0 u1 u2 u3 u4 u5 u6 u7 u8 u9 u10 u11 u12 u13 u14 u15 u16 u17 u18 u19 u20 u21 u22 u23 u24 u25 u26 u27 u28 u29 u30 u31 u32 u33 u34 u35 u36 u37 u38 u39 u40 u41 u42 u43 u44 u45 u46 u47 u48 u49 u50 u51 u52 u53 u54 u55 u56 u57 u58 u59 u60 u61 u62 u63 u64 u65 u66 u67 u68 u69 u70 u71 u72 u73 u74 u75 u76 u77 u78 u79 u80:Value) (xf:Nat→Value):Act:=⟨List.toArray (u0 :: u1 :: u2 :: u3 :: u4 :: u5 :: u6 :: u7 :: u8 :: u9 :: u10 :: u11 :: u12 :: u13 :: u14 :: u15 :: u16 :: u17 :: u18 :: u19 :: u20 :: u21 :: u22 :: u23 :: u24 :: u25 :: u26 :: u27 :: u28 :: u29 :: u30 :: u31 :: u32 :: u33 :: u34 :: u35 :: u36 :: u37 :: u38 :: u39 :: u40 :: u41 :: u42 :: u43 :: u44 :: u45 :: u46 :: u47 :: u48 :: u49 :: u50 :: u51 :: u52 :: u53 :: u54 :: u55 :: u56 :: u57 :: u58 :: u59 :: u60 :: u61 :: u62 :: u63 :: u64 :: u65 :: u66 :: u67 :: u68 :: u69 :: u70 :: u71 :: u72 :: u73 :: u74 :: u75 :: u76 :: u77 :: u78 :: u79 :: u80 :: xf 0 :: xf 1 :: xf 2 :: xf 3 :: xf 4 :: xf 5 :: xf 6 :: xf 7 :: xf 8 :: xf 9 :: xf 10 :: xf 11 :: []),[]⟩
theorem rb {α:Type}{T0:TypeId}{Pc:World→List Value→α→Prop}{sz base n g:Nat}{w:World}{v:Value}{l:List α}(h:bi T0 Pc sz w base v n l) (hg:w.heap.size≤g):some g≠v.ownBlock:=by
 intro e;obtain ⟨_,xs,hown,_⟩:=h;obtain ⟨_,cur,h2,_⟩:=hown.at_ e.symm;have:=lt_of_block h2;omega
theorem eE {B g:Nat}(w:World) (hB:B≤g) (i j:Nat) (u0 u1:Value):Below B w ((w.setCell ⟨g,i,none⟩ u0).setCell ⟨g,j,none⟩ u1) :=
 ((Below.refl B w).setCell (p:=⟨g,i,none⟩) hB u0).setCell (p:=⟨g,j,none⟩) hB u1
theorem oG (B:Nat) (w:World) (gr:Nat) (s:PS) (A:Option Addr) (n c:Nat) (A':Option Addr) (n' c':Nat) (A'':Option Addr) (n'' c'':Nat) (h:RdL B w gr s A n c A' n' c' A'' n'' c'') (hw1:s.word.1=cY):Calls Tryz.prog 41 #[.pointer (some ⟨gr,0,none⟩)] w (nI B w gr s.item):=by
 have HW1:=Qh hw1;have hb0:(s.word.1 == [98,111,100,121])=true:=by rw [hw1];decide
 clear hw1;obtain ⟨i0,hi0,hz0,hz1,hz2⟩:=info_parts iE;obtain ⟨ij,hj0,hj1,hj2,hj3⟩:=info_parts iG;obtain ⟨id,hd0,hd1,hd2,hd3⟩:=info_parts iI;have HI:=Qh (And.intro hi0 (And.intro hz0 (And.intro hz1 hz2)));have HIJ:=Qh (And.intro hj0 (And.intro hj1 (And.intro hj2 hj3)));have HID:=Qh (And.intro hd0 (And.intro hd1 (And.intro hd2 hd3)));clear hi0 hz0 hz1 hz2 hj0 hj1 hj2 hj3 hd0 hd1 hd2 hd3;have HL1:=Qh (ar s).2.2.2;have HL2:=Qh ((ar s).trans (ar s.word.2)).2.2.2;have HP:=Qh h;obtain ⟨W,hW⟩:∃ W,s.item=W:=⟨_,rfl⟩;rw [hW];have HW:=Qh hW;clear h hW;go_in;go_wp2_with fail;(with_reducible refine (cR B _ gr (ae s.L.name) (.slice A n c) (.slice A' n' c') (.slice A'' n'' c'') s HP.out.rd).mono ?_);rintro e w1 ⟨rfl,h1,hg1⟩;have H1:=Qh h1;have hgl:=h1.lt;have BW1:=Qh (dN hg1 (B:=B) (by have:=HP.out.rd.lt;have:=HP.out.rd.hB;omega) HP.out.rd.hB);have t0:=HP.out.rd.tchR hg1;have BD1:=Qh (HP.out.bd.tch t0 (by decide) (fun _ _ x=>x.tch t0 (by decide)));have JT1:=Qh (HP.out.jt.tch t0 (by decide) (fun _ _ x=>x));have DR1:=Qh (HP.out.dr.tch t0 (by decide) (fun _ _ x=>x));obtain ⟨Ak,nk,ck,hbk,_⟩:=h1.blk;have HBk:=Qh hbk;clear h1 hg1 t0 hbk;have hn:=az s.word.1;go_wp2_with fail;change Code.wp _ _ _ (fr4 _ _ _ _ _ _ _ _ _ _ _ _ _ _ _ _ _ _ _ _ _ _ _ _ _ _ _ _ _ _ _ _ _ _ _ _ _ _ _ _ _ _ _ _ _ _ _ _ _ _ _ _ _ _ _ _ _ _ _ _ _ _ _ _ _ _ _ _ _ _ _ _ _ _ _ _ _ _ _ _ (fun _=>undef)) _;refine dV (n:=13) (a:=7) (K:=3) (x0:=fun _=>undef) (R:=fun ri=>List.getD ((VE (.pointer (some ⟨gr,0,none⟩))) :: (VE (.pointer (some ⟨gr,0,none⟩))) :: (VE (.pointer (some ⟨gr,0,none⟩))) :: (VE (.pointer (some ⟨gr,1,none⟩))) :: (VE (.pointer (some ⟨gr,2,none⟩))) :: (VE (.slice A n c)) :: (VE (.pointer (some ⟨gr,0,none⟩))) :: VA :: VA :: VA :: (VE (.pointer (some ⟨gr,0,none⟩))) :: (VE (.pointer (some ⟨gr,1,none⟩))) :: (VE (.pointer (some ⟨gr,2,none⟩))) :: []) ri VA) (T:=fun k x wq=>TB B gr w1 (ae s.L.name) (.slice A n c) (.slice A' n' c') (.slice A'' n'' c'') s.word.2.body.2 s.word.2.body.1 n s.L.bodies k (x 7) (x 8) (x 9) wq) (by kernel_rfl) rfl ?_ ?_ ?_ (by decide) ?_ ?_ rfl ?_ ?_ ?_
 ·exact aG ⟨(fun _ _ _=>rfl),(fun _ _ _=>rfl),(fun _ _ _=>rfl),(fun _ _ _=>rfl),(fun _ _ _=>rfl),(fun _ _ _=>rfl),(fun _ _ _=>rfl),(fun _ _ _=>rfl),(fun _ _ _=>rfl),(fun _ _ _=>rfl),(fun _ _ _=>rfl),(fun _ _ _=>rfl),(fun _ _ _=>rfl),(fun h=>absurd h (by decide)),trivial⟩
 ·exact aG (cd _ 0 (by kernel_rfl))
 ·exact (fun j hj=>gV (by kernel_rfl) hj)
 ·intro j o hj ho
  obtain rfl | rfl:j=0∨j=1:=by omega
  ·injection ho with ho
   subst ho;exact ⟨⟨7,.data⟩,by simp,rfl,rfl⟩
  injection ho with ho;subst ho;exact ⟨⟨8,.data⟩,by simp,rfl,rfl⟩
 ·intro k x i v w hi h
  have e7:upd x i v 7=x 7:=aH _ _ (by omega);have e8:upd x i v 8=x 8:=aH _ _ (by omega);have e9:upd x i v 9=x 9:=aH _ _ (by omega);simp only [e7,e8,e9];exact h
 ·refine aG ⟨?_,?_,?_,?_,?_,?_,?_,(fun _ h=>absurd h (by decide)),(fun _ h=>absurd h (by decide)),(fun _ h=>absurd h (by decide)),?_,?_,?_,(fun h=>absurd h (by decide)),trivial⟩
  ·intro _ _ k xf wq hT hd K hK
   (try dsimp only [fr4]);go_simp;have hz:=hK.out _ rfl;exact hz
  ·intro _ _ k xf wq hT hd K hK
   (try dsimp only [fr4]);go_simp;have hz:=hK.out _ rfl;exact hz
  ·intro _ _ k xf wq hT hd K hK
   have dq1:xf 1=.pointer (some ⟨gr,0,none⟩):=hd ⟨1,.data⟩ (by simp) rfl;(try dsimp only [fr4]);(try simp only [dq1]);go_simp;have hz:=hK.out _ rfl;dsimp only [fr4] at hz;simp only [dq1] at hz;exact hz
  ·intro _ _ k xf wq hT hd K hK
   have dq2:xf 2=.pointer (some ⟨gr,0,none⟩):=hd ⟨2,.data⟩ (by simp) rfl;(try dsimp only [fr4]);(try simp only [dq2]);go_simp;have hz:=hK.out _ rfl;dsimp only [fr4] at hz;simp only [dq2] at hz;exact hz
  ·intro _ _ k xf wq hT hd K hK
   have dq3:xf 3=.pointer (some ⟨gr,1,none⟩):=hd ⟨3,.data⟩ (by simp) rfl;(try dsimp only [fr4]);(try simp only [dq3]);go_simp;have hz:=hK.out _ rfl;dsimp only [fr4] at hz;simp only [dq3] at hz;exact hz
  ·intro _ _ k xf wq hT hd K hK
   have dq4:xf 4=.pointer (some ⟨gr,2,none⟩):=hd ⟨4,.data⟩ (by simp) rfl;obtain ⟨sz,hRz⟩:=TB.rd H1.out hT;obtain ⟨_,hc2,_⟩:=hRz.cells;(try dsimp only [fr4]);(try simp only [dq4]);go_simp;have hz:=hK.out _ rfl;dsimp only [fr4] at hz;simp only [dq4] at hz;exact hz
  ·intro _ _ k xf wq hT hd K hK
   (try dsimp only [fr4]);go_simp;have hz:=hK.out _ rfl;exact hz
  ·intro _ _ k xf wq hT hd K hK
   have dq0:xf 0=.pointer (some ⟨gr,0,none⟩):=hd ⟨0,.data⟩ (by simp) rfl;(try dsimp only [fr4]);(try simp only [dq0]);go_simp;have hz:=hK.out _ rfl;dsimp only [fr4] at hz;simp only [dq0] at hz;exact hz
  ·intro _ _ k xf wq hT hd K hK
   have dq10:xf 10=.pointer (some ⟨gr,0,none⟩):=hd ⟨10,.data⟩ (by simp) rfl;(try dsimp only [fr4]);(try simp only [dq10]);go_simp;have hz:=hK.out _ rfl;dsimp only [fr4] at hz;simp only [dq10] at hz;exact hz
  intro _ _ k xf wq hT hd K hK;have dq11:xf 11=.pointer (some ⟨gr,1,none⟩):=hd ⟨11,.data⟩ (by simp) rfl;(try dsimp only [fr4]);(try simp only [dq11]);go_simp;have hz:=hK.out _ rfl;dsimp only [fr4] at hz;simp only [dq11] at hz;exact hz
 ·intro k o hk ho
  obtain rfl | rfl | rfl:=(show k=0∨k=1∨k=2 by omega)
  ·injection ho with ho
   subst ho;intro xf wq hT hd K hK;have dq6:xf 6=.pointer (some ⟨gr,0,none⟩):=hd ⟨6,.data⟩ (by simp) rfl;have hT:wq=w1.drew:=hT;subst hT;(try dsimp only [fr4]);(try simp only [dq6]);go_simp;go_at_call 72;(with_reducible refine (xZ B _ gr (ae s.L.name) (.slice A n c) (.slice A' n' c') (.slice A'' n'' c'') s.word.2 H1.out.drew).mono ?_);rintro e wr ⟨A3,n3,c3,rfl,hm,hnm,hr,hg⟩;have hz:=hK.out _ _ trivial ⟨A3,n3,c3,rfl,hm,hnm,hr,aD (xX (rg_refl gr w1)) hg⟩;dsimp only [fr4] at hz;simp only [dq6] at hz;exact hz
  ·injection ho with ho
   subst ho;intro xf wq hT hd K hK;obtain ⟨A3,n3,c3,e7,hm,hnm,hr,hg⟩:TB B gr w1 (ae s.L.name) (.slice A n c) (.slice A' n' c') (.slice A'' n'' c'') s.word.2.body.2 s.word.2.body.1 n s.L.bodies 1 (xf 7) (xf 8) (xf 9) wq:=hT;(try dsimp only [fr4]);(try simp only [e7]);go_simp;have hz:=hK.out (.slice (some ⟨wq.heap.size,0,none⟩) 1 1) (wq.alloc (.cells #[ae s.word.2.body.1.name,.slice A3 n3 c3] 62)) trivial ⟨wq,A3,n3,c3,⟨A3,n3,c3,rfl,hm,hnm,hr,hg⟩,rfl,rfl⟩;dsimp only [fr4] at hz;simp only [e7] at hz;exact hz
  injection ho with ho;subst ho;intro xf wq hT hd K hK;obtain ⟨w2,A3,n3,c3,⟨A4,n4,c4,e4,hm,hnm,hr,hg⟩,e8,ew⟩:TB B gr w1 (ae s.L.name) (.slice A n c) (.slice A' n' c') (.slice A'' n'' c'') s.word.2.body.2 s.word.2.body.1 n s.L.bodies 2 (xf 7) (xf 8) (xf 9) wq:=hT;subst ew;cases e4;have dq5:xf 5=.slice A n c:=hd ⟨5,.data⟩ (by simp) rfl;obtain ⟨hl,xs,hown,hrow⟩:=BD1.out.rgt HBk.out (by decide) hg (fun _ _ x=>x.tch (H1.out.tchR hg) (by decide));have hlt:=hr.lt;have hBg:=hr.hB;rw [if_pos (show Region.wanted _ _=true from rfl)];refine fq _ noW _ _ _ rfl B 62 i0 (.agg #[.string ⟨#[]⟩,.slice none 0 0]) 2 40 Tryz.underlying32 HI.out.1 HI.out.2.1 HI.out.2.2.1 HI.out.2.2.2 rfl (by omega) rfl (.slice A n c) n xs dq5 (hown.belw ((Below.refl _ _).alloc Qr _)) ⟨w2.heap.size,0,none⟩ 1 1 [ae s.word.2.body.1.name,.slice A3 n3 c3] e8 rfl (World.news_of_block (heap_alloc_new w2 _)) (by simp [Value.oneCell']) rfl (by omega) (by have:=HP.out.cnt;unfold maxLen;omega) (by have:=HP.out.cnt;omega) (by simp;omega) ?_;intro g5 cap w5 hown5 hgrow _;have hp:=fh hl hown hrow (a:=s.word.2.body.1) (cs:=[ae s.word.2.body.1.name,.slice A3 n3 c3]) ⟨A3,n3,c3,rfl,hm,hnm⟩ rfl hown5 hgrow (by omega) (fun _ _ _ ht x=>x.tch ht (by decide));exact hK.out _ _ trivial ⟨w2,_,some ⟨g5,0,none⟩,cap,⟨A3,n3,c3,rfl,hm,hnm,hr,hg⟩,rfl,hp.1,hp.2.1,hp.2.2⟩
 intro o ho xf wq hT hr K hK;injection ho with ho;subst ho;obtain ⟨w2,v,A5,c5,⟨A4,n4,c4,e4,hm,hnm,hrd,hg⟩,e9,hrow,ht,hb⟩:TB B gr w1 (ae s.L.name) (.slice A n c) (.slice A' n' c') (.slice A'' n'' c'') s.word.2.body.2 s.word.2.body.1 n s.L.bodies 3 (xf 7) (xf 8) (xf 9) wq:=hT;have dq12:xf 12=.pointer (some ⟨gr,2,none⟩):=hr 12 (by decide);have RQ:=hrd.other ht (by decide) hb;obtain ⟨_,hc2,_,_,_,hf2,_⟩:=RQ.cells;rw [e9] at hrow;have RQ':=Qh RQ;have HROW:=Qh hrow;clear RQ hrow hrd hm hnm hr;(try dsimp only [fr4]);(try simp only [dq12,e9]);go_simp;refine hK.out _ _ ?_;go_wp2_with fail;go_end0;have t1:=H1.out.tchR hg;have t3:=RQ'.out.tchR (rg_set (rg_refl gr wq) 2 (.slice A5 (n+1) c5));have hst:=jQ s.word.2;have hL:s.word.2.body.2.L=s.L:=((ar s).trans hst).2.2.2;have htk:=iy (s:=s) (by rw [HW1.out];decide);have eW:W=s.word.2.body.2.addB s.word.2.body.1:=by rw [← HW.out];unfold PS.item;rw [if_pos HW1.out]
 subst eW;refine ⟨rfl,⟨A5,n+1,c5,A',n',c',A'',n'',c'',⟨?_,?_,?_,?_,?_,?_,?_⟩⟩,?_⟩
 ·show RdP B _ gr (ae s.word.2.body.2.L.name) _ _ _ _
  rw [hL];exact RQ'.out.put2 _ rfl rfl rfl
 ·show bi _ _ _ _ _ _ _ (s.word.2.body.2.L.bodies ++ [s.word.2.body.1])
  rw [hL];exact HROW.out.tch t3 (by decide) (fun _ _ x=>x.tch t3 (by decide))
 ·show bi _ _ _ _ _ _ _ s.word.2.body.2.L.joints
  rw [hL];exact ((JT1.out.tch t1 (by decide) (fun _ _ x=>x)).tch ht (by decide) (fun _ _ x=>x)).tch t3 (by decide) (fun _ _ x=>x)
 ·show bi _ _ _ _ _ _ _ s.word.2.body.2.L.drivers
  rw [hL];exact ((DR1.out.tch t1 (by decide) (fun _ _ x=>x)).tch ht (by decide) (fun _ _ x=>x)).tch t3 (by decide) (fun _ _ x=>x)
 ·show NmL s.word.2.body.2.L.name
  rw [hL];exact HP.out.nm
 ·show n+1+n'+n''+s.word.2.body.2.toks.length≤_
  have h1:=HP.out.cnt;have h2:=hst.1;omega
 ·intro b hbm
  have hbm:b∈s.word.2.body.2.L.bodies ++ [s.word.2.body.1]:=hbm;rw [hL] at hbm;rcases List.mem_append.1 hbm with hbm | hbm
  ·exact HP.out.pts b hbm
  simp at hbm;subst hbm;have h1:=vR s.word.2;have h2:=H1.out.len;omega
 exact ((BW1.out.trans (dN hg (by have:=H1.out.lt;have:=H1.out.hB;omega) H1.out.hB)).trans hb).setCell (p:=⟨gr,2,none⟩) H1.out.hB _
theorem qc (B:Nat) (w:World) (gr:Nat) (s:PS) (A:Option Addr) (n c:Nat) (A':Option Addr) (n' c':Nat) (A'':Option Addr) (n'' c'':Nat) (h:RdL B w gr s A n c A' n' c' A'' n'' c'') (hw1:s.word.1=gh):Calls Tryz.prog 41 #[.pointer (some ⟨gr,0,none⟩)] w (nI B w gr s.item):=by
 have HW1:=Qh hw1;have hb0:(s.word.1 == [98,111,100,121])=false:=by rw [hw1];decide
 have hb1:(s.word.1 == [112,105,110])=true:=by rw [hw1];decide
 have hb2:(s.word.1 == [115,108,105,100,101])=false:=by rw [hw1];decide
 clear hw1;obtain ⟨i0,hi0,hz0,hz1,hz2⟩:=info_parts iE;obtain ⟨ij,hj0,hj1,hj2,hj3⟩:=info_parts iG;obtain ⟨id,hd0,hd1,hd2,hd3⟩:=info_parts iI;have HI:=Qh (And.intro hi0 (And.intro hz0 (And.intro hz1 hz2)));have HIJ:=Qh (And.intro hj0 (And.intro hj1 (And.intro hj2 hj3)));have HID:=Qh (And.intro hd0 (And.intro hd1 (And.intro hd2 hd3)));clear hi0 hz0 hz1 hz2 hj0 hj1 hj2 hj3 hd0 hd1 hd2 hd3;have HL1:=Qh (ar s).2.2.2;have HL2:=Qh ((ar s).trans (ar s.word.2)).2.2.2;have HP:=Qh h;obtain ⟨W,hW⟩:∃ W,s.item=W:=⟨_,rfl⟩;rw [hW];have HW:=Qh hW;clear h hW;go_in;go_wp2_with fail;(with_reducible refine (cR B _ gr (ae s.L.name) (.slice A n c) (.slice A' n' c') (.slice A'' n'' c'') s HP.out.rd).mono ?_);rintro e w1 ⟨rfl,h1,hg1⟩;have H1:=Qh h1;have hgl:=h1.lt;have BW1:=Qh (dN hg1 (B:=B) (by have:=HP.out.rd.lt;have:=HP.out.rd.hB;omega) HP.out.rd.hB);have t0:=HP.out.rd.tchR hg1;have BD1:=Qh (HP.out.bd.tch t0 (by decide) (fun _ _ x=>x.tch t0 (by decide)));have JT1:=Qh (HP.out.jt.tch t0 (by decide) (fun _ _ x=>x));have DR1:=Qh (HP.out.dr.tch t0 (by decide) (fun _ _ x=>x));obtain ⟨Ak,nk,ck,hbk,_⟩:=h1.blk;have HBk:=Qh hbk;clear h1 hg1 t0 hbk;have hn:=az s.word.1;go_wp2_with fail;(with_reducible refine (cR B _ gr (ae s.L.name) (.slice A n c) (.slice A' n' c') (.slice A'' n'' c'') s.word.2 H1.out).mono ?_);rintro e w2 ⟨rfl,h2,hg2⟩;have H2:=Qh h2;have hlj:=h2.lt;have hw2:=hg2.size;have HNM:=Qh (gi H1.out.txt);clear h2;go_wp2_with fail;(with_reducible refine (jT B _ gr (ae s.L.name) (.slice A' n' c') (.slice A'' n'' c'') A n c s.word.2.word.2 (H2.out.alloc _) (by rw [HL2.out];exact H1.out.bodies BD1.out (aZ hg2 _)) (by have:=HP.out.cnt;omega) (by rw [HL2.out];exact fun b hb=>Nat.le_trans (HP.out.pts b hb) (by decide)) (-1)).mono ?_);rintro e w3 ⟨rfl,h3,hg3⟩;have hsa:=ci s.word.2.word.2 (-1);generalize hfa:s.word.2.word.2.full (-1)=fa at h3 hsa ⊢;have HFA:=Qh hfa;have HSA:=Qh ((ar s.word.2).trans hsa);clear hfa hsa;have G3:=aD (aZ hg2 _) hg3;have p3:Blk w3 w2.heap.size 79 #[ae s.word.2.word.1,.int .i64 0,.int .i64 0,.int .i64 0,.int .i64 0,.int .i64 0,.int .i64 0]:=bD hg3 (Blk.new _ _ _) (by omega);have hl3:=p3.lt;have H3:=Qh h3;generalize hgj:w2.heap.size=gj at hlj hw2 p3 hl3 ⊢;have HNE:=Qh (rb JT1.out (g:=gj) (by omega));clear hgj hg3 h3 hg2 H2;obtain ⟨cj0,cj1,cj2,cj3,cj4,cj5,cj6⟩:=p3.c7;obtain ⟨fj0,fj1,fj2,fj3,fj4,fj5,fj6⟩:=p3.f7;have P3:=Qh p3;clear p3;go_wp2_with fail;clear cj0 cj1 cj2 cj3 cj4 cj5 cj6 fj0 fj1 fj2 fj3 fj4 fj5 fj6;have B3:=eE w3 hlj 2 3 (.int .i64 fa.1) (.int .i64 fa.2.1);have G3':=dk G3 (eE w3 hw2 2 3 (.int .i64 fa.1) (.int .i64 fa.2.1));(with_reducible refine (jT B _ gr (ae s.L.name) (.slice A' n' c') (.slice A'' n'' c'') A n c fa.2.2 (H3.out.bel1 B3) (by rw [HSA.out.sameL,HL1.out];exact H1.out.bodies BD1.out G3') (by have:=HP.out.cnt;omega) (by rw [HSA.out.sameL,HL1.out];exact fun b hb=>Nat.le_trans (HP.out.pts b hb) (by decide)) (-1)).mono ?_);rintro e w4 ⟨rfl,h4,hg4⟩;have hsb:=ci fa.2.2 (-1);generalize hfb:fa.2.2.full (-1)=fb at h4 hsb ⊢;have HFB:=Qh hfb;have HSB:=Qh (HSA.out.trans hsb);clear hfb hsb;have G4:=aD G3' hg4;have p4:=bD hg4 ((P3.out.set_ 2 (.int .i64 fa.1)).set_ 3 (.int .i64 fa.2.1)) (by omega);have p4:=p4;have H4:=Qh h4;have hl4:=p4.lt;obtain ⟨cj0,cj1,cj2,cj3,cj4,cj5,cj6⟩:=p4.c7;obtain ⟨fj0,fj1,fj2,fj3,fj4,fj5,fj6⟩:=p4.f7;have P4:=Qh p4;clear p4 h4 hg4 G3 G3' B3 P3 H3 hl3;go_wp2_with fail;clear cj0 cj1 cj2 cj3 cj4 cj5 cj6 fj0 fj1 fj2 fj3 fj4 fj5 fj6;(with_reducible refine (eO B _ gr (ae s.L.name) (.slice A n c) (.slice A' n' c') (.slice A'' n'' c'') fb.2.2 (H4.out.bel1 (eE w4 hlj 4 5 (.int .i64 fb.1) (.int .i64 fb.2.1))) [59]).mono ?_);rintro e w6 ⟨rfl,h6,hg6⟩;have G6:=Qh (aD (dk G4 (eE w4 hw2 4 5 (.int .i64 fb.1) (.int .i64 fb.2.1))) hg6);have p6:=bD hg6 ((P4.out.set_ 4 (.int .i64 fb.1)).set_ 5 (.int .i64 fb.2.1)) (by omega);have H6:=Qh h6;have P6:=Qh p6;have HC:=Qh (show JtC w6 [ae s.word.2.word.1,.int .i64 0,.int .i64 fa.1,.int .i64 fa.2.1,.int .i64 fb.1,.int .i64 fb.2.1,.int .i64 0] ⟨s.word.2.word.1,0,fa.1,fa.2.1,fb.1,fb.2.1,0⟩ from ⟨rfl,HNM.out⟩);have JT6:=Qh (JT1.out.tch (H1.out.tchR G6.out) (by decide) (fun _ _ x=>x));clear h6 hg6 p6;go_wp2_with fail;change Code.wp _ _ _ (cl _ _ _ _ _ _ _ _ _ _ _ _ _ _ _ _ _ _ _ _ _ _ _ _ _ _ _ _ _ _ _ _ _ _ _ _ _ _ _ _ _ _ _ _ _ _ _ _ _ _ _ _ _ _ _ _ _ _ _ _ _ _ _ _ _ _ _ _ _ _ _ _ _ _ _ _ _ _ _ _ _ (fun _=>undef)) _;refine dV (n:=12) (a:=7) (K:=2) (x0:=fun _=>undef) (R:=fun ri=>List.getD ((VE (.pointer (some ⟨gr,0,none⟩))) :: (VE (.pointer (some ⟨gr,0,none⟩))) :: (VE (.pointer (some ⟨gr,0,none⟩))) :: (VE (.pointer (some ⟨gr,1,none⟩))) :: (VE (.pointer (some ⟨gr,3,none⟩))) :: (VE (.slice A' n' c')) :: (VE (.agg #[ae s.word.2.word.1,.int .i64 0,.int .i64 fa.1,.int .i64 fa.2.1,.int .i64 fb.1,.int .i64 fb.2.1,.int .i64 0])) :: VA :: VA :: (VE (.pointer (some ⟨gr,0,none⟩))) :: (VE (.pointer (some ⟨gr,1,none⟩))) :: (VE (.pointer (some ⟨gr,3,none⟩))) :: []) ri VA) (T:=fun k x wq=>TJ_ 79 JtC 7 B gj w6 [ae s.word.2.word.1,.int .i64 0,.int .i64 fa.1,.int .i64 fa.2.1,.int .i64 fb.1,.int .i64 fb.2.1,.int .i64 0] ⟨s.word.2.word.1,0,fa.1,fa.2.1,fb.1,fb.2.1,0⟩ n' s.L.joints k (x 7) (x 8) wq) (by kernel_rfl) rfl ?_ ?_ ?_ (by decide) ?_ ?_ rfl ?_ ?_ ?_
 ·exact aG ⟨(fun _ _ _=>rfl),(fun _ _ _=>rfl),(fun _ _ _=>rfl),(fun _ _ _=>rfl),(fun _ _ _=>rfl),(fun _ _ _=>rfl),(fun _ _ _=>rfl),(fun _ _ _=>rfl),(fun _ _ _=>rfl),(fun _ _ _=>rfl),(fun _ _ _=>rfl),(fun _ _ _=>rfl),(fun h=>absurd h (by decide)),trivial⟩
 ·exact aG (cd _ 0 (by kernel_rfl))
 ·exact (fun j hj=>gV (by kernel_rfl) hj)
 ·intro j o hj ho
  obtain rfl:j=0:=by omega
  injection ho with ho;subst ho;exact ⟨⟨7,.data⟩,by simp,rfl,rfl⟩
 ·intro k x i v w hi h
  have e7:upd x i v 7=x 7:=aH _ _ (by omega);have e8:upd x i v 8=x 8:=aH _ _ (by omega);simp only [e7,e8];exact h
 ·refine aG ⟨?_,?_,?_,?_,?_,?_,?_,(fun _ h=>absurd h (by decide)),(fun _ h=>absurd h (by decide)),?_,?_,?_,(fun h=>absurd h (by decide)),trivial⟩
  ·intro _ _ k xf wq hT hd K hK
   (try dsimp only [cl]);go_simp;have hz:=hK.out _ rfl;exact hz
  ·intro _ _ k xf wq hT hd K hK
   (try dsimp only [cl]);go_simp;have hz:=hK.out _ rfl;exact hz
  ·intro _ _ k xf wq hT hd K hK
   have dq1:xf 1=.pointer (some ⟨gr,0,none⟩):=hd ⟨1,.data⟩ (by simp) rfl;(try dsimp only [cl]);(try simp only [dq1]);go_simp;have hz:=hK.out _ rfl;dsimp only [cl] at hz;simp only [dq1] at hz;exact hz
  ·intro _ _ k xf wq hT hd K hK
   have dq2:xf 2=.pointer (some ⟨gr,0,none⟩):=hd ⟨2,.data⟩ (by simp) rfl;(try dsimp only [cl]);(try simp only [dq2]);go_simp;have hz:=hK.out _ rfl;dsimp only [cl] at hz;simp only [dq2] at hz;exact hz
  ·intro _ _ k xf wq hT hd K hK
   have dq3:xf 3=.pointer (some ⟨gr,1,none⟩):=hd ⟨3,.data⟩ (by simp) rfl;(try dsimp only [cl]);(try simp only [dq3]);go_simp;have hz:=hK.out _ rfl;dsimp only [cl] at hz;simp only [dq3] at hz;exact hz
  ·intro _ _ k xf wq hT hd K hK
   have dq4:xf 4=.pointer (some ⟨gr,3,none⟩):=hd ⟨4,.data⟩ (by simp) rfl;have hc2:=(TJ_.rd (by decide) H6.out hT).cells;obtain ⟨_,hc2,hc3,hc4,_⟩:=hc2;(try dsimp only [cl]);(try simp only [dq4]);go_simp;have hz:=hK.out _ rfl;dsimp only [cl] at hz;simp only [dq4] at hz;exact hz
  ·intro _ _ k xf wq hT hd K hK
   obtain ⟨hd0,hd1,hd2,hd3,hd4,hd5,hd6⟩:=(TJ_.blk P6.out hT).c7;(try dsimp only [cl]);go_simp;have hz:=hK.out _ rfl;exact hz
  ·intro _ _ k xf wq hT hd K hK
   have dq0:xf 0=.pointer (some ⟨gr,0,none⟩):=hd ⟨0,.data⟩ (by simp) rfl;(try dsimp only [cl]);(try simp only [dq0]);go_simp;have hz:=hK.out _ rfl;dsimp only [cl] at hz;simp only [dq0] at hz;exact hz
  ·intro _ _ k xf wq hT hd K hK
   have dq9:xf 9=.pointer (some ⟨gr,0,none⟩):=hd ⟨9,.data⟩ (by simp) rfl;(try dsimp only [cl]);(try simp only [dq9]);go_simp;have hz:=hK.out _ rfl;dsimp only [cl] at hz;simp only [dq9] at hz;exact hz
  intro _ _ k xf wq hT hd K hK;have dq10:xf 10=.pointer (some ⟨gr,1,none⟩):=hd ⟨10,.data⟩ (by simp) rfl;(try dsimp only [cl]);(try simp only [dq10]);go_simp;have hz:=hK.out _ rfl;dsimp only [cl] at hz;simp only [dq10] at hz;exact hz
 ·intro k o hk ho
  obtain rfl | rfl:=(show k=0∨k=1 by omega)
  ·injection ho with ho
   subst ho;intro xf wq hT hd K hK;have hT:wq=w6.drew:=hT;subst hT;have dq6:xf 6=.agg #[ae s.word.2.word.1,.int .i64 0,.int .i64 fa.1,.int .i64 fa.2.1,.int .i64 fb.1,.int .i64 fb.2.1,.int .i64 0]:=hd ⟨6,.data⟩ (by simp) rfl;(try dsimp only [cl]);(try simp only [dq6]);go_simp;have hz:=hK.out (.slice (some ⟨w6.heap.size,0,none⟩) 1 1) (w6.drew.alloc (.cells #[ae s.word.2.word.1,.int .i64 0,.int .i64 fa.1,.int .i64 fa.2.1,.int .i64 fb.1,.int .i64 fb.2.1,.int .i64 0] 79)) trivial ⟨rfl,rfl⟩;dsimp only [cl] at hz;simp only [dq6] at hz;exact hz
  injection ho with ho;subst ho;intro xf wq hT hd K hK;obtain ⟨e7,ew⟩:TJ_ 79 JtC 7 B gj w6 [ae s.word.2.word.1,.int .i64 0,.int .i64 fa.1,.int .i64 fa.2.1,.int .i64 fb.1,.int .i64 fb.2.1,.int .i64 0] ⟨s.word.2.word.1,0,fa.1,fa.2.1,fb.1,fb.2.1,0⟩ n' s.L.joints 1 (xf 7) (xf 8) wq:=hT;subst ew;have dq5:xf 5=.slice A' n' c':=hd ⟨5,.data⟩ (by simp) rfl;obtain ⟨hl,xs,hown,hrow⟩:=JT6.out;have hown:OwJ noW w6.drew B 79 7 (.slice A' n' c') n' xs:=hown;have hrow:iU JtC 7 w6.drew s.L.joints xs:=hrow;have hlt:=H6.out.lt;have hBg:=H6.out.hB;have hds:w6.drew.heap.size=w6.heap.size:=rfl;rw [if_pos (show Region.wanted _ _=true from rfl)];refine fq _ noW _ _ _ rfl B 79 ij (.agg #[.string ⟨#[]⟩,.int .i64 0,.int .i64 0,.int .i64 0,.int .i64 0,.int .i64 0,.int .i64 0]) 7 64 Tryz.underlying33 HIJ.out.1 HIJ.out.2.1 HIJ.out.2.2.1 HIJ.out.2.2.2 rfl (by omega) rfl (.slice A' n' c') n' xs dq5 (hown.belw ((Below.refl _ _).alloc Qr _)) ⟨w6.heap.size,0,none⟩ 1 1 [ae s.word.2.word.1,.int .i64 0,.int .i64 fa.1,.int .i64 fa.2.1,.int .i64 fb.1,.int .i64 fb.2.1,.int .i64 0] e7 rfl (World.news_of_block (heap_alloc_new w6.drew _)) (by simp [Value.oneCell']) rfl (by omega) (by have:=HP.out.cnt;unfold maxLen;omega) (by have:=HP.out.cnt;omega) (by simp;omega) ?_;intro g5 cap w5 hown5 hgrow _;have hp:=fh hl hown hrow (a:=⟨s.word.2.word.1,0,fa.1,fa.2.1,fb.1,fb.2.1,0⟩) (cs:=[ae s.word.2.word.1,.int .i64 0,.int .i64 fa.1,.int .i64 fa.2.1,.int .i64 fb.1,.int .i64 fb.2.1,.int .i64 0]) (show JtC w6.drew _ (⟨s.word.2.word.1,0,fa.1,fa.2.1,fb.1,fb.2.1,0⟩:aN) from HC.out) rfl hown5 hgrow (by omega) (fun _ _ _ _ x=>x);exact hK.out _ _ trivial ⟨some ⟨g5,0,none⟩,cap,rfl,hp.1,(P6.out.drew.alloc _).grown hgrow HNE.out,hp.2.1,((Below.refl B w6).drew).trans hp.2.2⟩
 intro o ho xf wq hT hr K hK;injection ho with ho;subst ho;obtain ⟨A5,c5,e8,hrow,_,ht,hb⟩:TJ_ 79 JtC 7 B gj w6 [ae s.word.2.word.1,.int .i64 0,.int .i64 fa.1,.int .i64 fa.2.1,.int .i64 fb.1,.int .i64 fb.2.1,.int .i64 0] ⟨s.word.2.word.1,0,fa.1,fa.2.1,fb.1,fb.2.1,0⟩ n' s.L.joints 2 (xf 7) (xf 8) wq:=hT;have dq11:xf 11=.pointer (some ⟨gr,3,none⟩):=hr 11 (by decide);have RQ:=H6.out.other ht (by decide) hb;obtain ⟨_,hc2,hc3,hc4,_,hf2,hf3,hf4⟩:=RQ.cells;rw [e8] at hrow;have RQ':=Qh RQ;have HROW:=Qh hrow;clear RQ hrow hr;(try dsimp only [cl]);(try simp only [dq11,e8]);go_simp;refine hK.out _ _ ?_;go_wp2_with fail;go_end0;have t1:=H1.out.tchR G6.out;have t3:=RQ'.out.tchR (rg_set (rg_refl gr wq) 3 (.slice A5 (n'+1) c5));have hst:=HSB.out.trans (ay fb.2.2 2 [59]);have hL:(PS.expect fb.2.2 2 [59]).L=s.L:=hst.2.2.2.trans HL1.out;have htk:=iy (s:=s) (by rw [HW1.out];decide);have hst1:=hst.1
 have eW:W=PS.addJ (PS.expect fb.2.2 2 [59]) ⟨s.word.2.word.1,0,fa.1,fa.2.1,fb.1,fb.2.1,0⟩:=by
  rw [← HW.out];unfold PS.item;rw [if_neg (by rw [HW1.out];decide),if_pos HW1.out];unfold PS.joint;simp only [HFA.out,HFB.out,Bool.false_eq_true,if_false]
 subst eW;refine ⟨rfl,⟨A,n,c,A5,n'+1,c5,A'',n'',c'',⟨?_,?_,?_,?_,?_,?_,?_⟩⟩,?_⟩
 ·show RdP B _ gr (ae (PS.expect fb.2.2 2 [59]).L.name) _ _ _ _
  rw [hL];exact RQ'.out.put3 _ rfl rfl rfl
 ·show bi _ _ _ _ _ _ _ (PS.expect fb.2.2 2 [59]).L.bodies
  rw [hL];exact ((BD1.out.tch t1 (by decide) (fun _ _ x=>x.tch t1 (by decide))).tch ht (by decide) (fun _ _ x=>x.tch ht (by decide))).tch t3 (by decide) (fun _ _ x=>x.tch t3 (by decide))
 ·show bi _ _ _ _ _ _ _ ((PS.expect fb.2.2 2 [59]).L.joints ++ [⟨s.word.2.word.1,0,fa.1,fa.2.1,fb.1,fb.2.1,0⟩])
  rw [hL];exact HROW.out.tch t3 (by decide) (fun _ _ x=>x)
 ·show bi _ _ _ _ _ _ _ (PS.expect fb.2.2 2 [59]).L.drivers
  rw [hL];exact ((DR1.out.tch t1 (by decide) (fun _ _ x=>x)).tch ht (by decide) (fun _ _ x=>x)).tch t3 (by decide) (fun _ _ x=>x)
 ·show NmL (PS.expect fb.2.2 2 [59]).L.name
  rw [hL];exact HP.out.nm
 ·show n+(n'+1)+n''+(PS.expect fb.2.2 2 [59]).toks.length≤_
  have h1:=HP.out.cnt;omega
 ·intro b hbm
  have hbm:b∈(PS.expect fb.2.2 2 [59]).L.bodies:=hbm;rw [hL] at hbm;exact HP.out.pts b hbm
 exact ((BW1.out.trans (dN G6.out (by have:=H1.out.lt;have:=H1.out.hB;omega) H1.out.hB)).trans hb).setCell (p:=⟨gr,3,none⟩) H1.out.hB _
theorem mE (B:Nat) (w:World) (gr:Nat) (s:PS) (A:Option Addr) (n c:Nat) (A':Option Addr) (n' c':Nat) (A'':Option Addr) (n'' c'':Nat) (h:RdL B w gr s A n c A' n' c' A'' n'' c'') (hw1:s.word.1=cZ):Calls Tryz.prog 41 #[.pointer (some ⟨gr,0,none⟩)] w (nI B w gr s.item):=by
 have HW1:=Qh hw1;have hb0:(s.word.1 == [98,111,100,121])=false:=by rw [hw1];decide
 have hb1:(s.word.1 == [112,105,110])=false:=by rw [hw1];decide
 have hb2:(s.word.1 == [115,108,105,100,101])=true:=by rw [hw1];decide
 clear hw1;obtain ⟨i0,hi0,hz0,hz1,hz2⟩:=info_parts iE;obtain ⟨ij,hj0,hj1,hj2,hj3⟩:=info_parts iG;obtain ⟨id,hd0,hd1,hd2,hd3⟩:=info_parts iI;have HI:=Qh (And.intro hi0 (And.intro hz0 (And.intro hz1 hz2)));have HIJ:=Qh (And.intro hj0 (And.intro hj1 (And.intro hj2 hj3)));have HID:=Qh (And.intro hd0 (And.intro hd1 (And.intro hd2 hd3)));clear hi0 hz0 hz1 hz2 hj0 hj1 hj2 hj3 hd0 hd1 hd2 hd3;have HL1:=Qh (ar s).2.2.2;have HL2:=Qh ((ar s).trans (ar s.word.2)).2.2.2;have HP:=Qh h;obtain ⟨W,hW⟩:∃ W,s.item=W:=⟨_,rfl⟩;rw [hW];have HW:=Qh hW;clear h hW;go_in;go_wp2_with fail;(with_reducible refine (cR B _ gr (ae s.L.name) (.slice A n c) (.slice A' n' c') (.slice A'' n'' c'') s HP.out.rd).mono ?_);rintro e w1 ⟨rfl,h1,hg1⟩;have H1:=Qh h1;have hgl:=h1.lt;have BW1:=Qh (dN hg1 (B:=B) (by have:=HP.out.rd.lt;have:=HP.out.rd.hB;omega) HP.out.rd.hB);have t0:=HP.out.rd.tchR hg1;have BD1:=Qh (HP.out.bd.tch t0 (by decide) (fun _ _ x=>x.tch t0 (by decide)));have JT1:=Qh (HP.out.jt.tch t0 (by decide) (fun _ _ x=>x));have DR1:=Qh (HP.out.dr.tch t0 (by decide) (fun _ _ x=>x));obtain ⟨Ak,nk,ck,hbk,_⟩:=h1.blk;have HBk:=Qh hbk;clear h1 hg1 t0 hbk;have hn:=az s.word.1;go_wp2_with fail;(with_reducible refine (cR B _ gr (ae s.L.name) (.slice A n c) (.slice A' n' c') (.slice A'' n'' c'') s.word.2 H1.out).mono ?_);rintro e w2 ⟨rfl,h2,hg2⟩;have H2:=Qh h2;have hlj:=h2.lt;have hw2:=hg2.size;have HNM:=Qh (gi H1.out.txt);clear h2;go_wp2_with fail;(with_reducible refine (jT B _ gr (ae s.L.name) (.slice A' n' c') (.slice A'' n'' c'') A n c s.word.2.word.2 (H2.out.alloc _) (by rw [HL2.out];exact H1.out.bodies BD1.out (aZ hg2 _)) (by have:=HP.out.cnt;omega) (by rw [HL2.out];exact fun b hb=>Nat.le_trans (HP.out.pts b hb) (by decide)) (-1)).mono ?_);rintro e w3 ⟨rfl,h3,hg3⟩;have hsa:=ci s.word.2.word.2 (-1);generalize hfa:s.word.2.word.2.full (-1)=fa at h3 hsa ⊢;have HFA:=Qh hfa;have HSA:=Qh ((ar s.word.2).trans hsa);clear hfa hsa;have G3:=aD (aZ hg2 _) hg3;have p3:Blk w3 w2.heap.size 79 #[ae s.word.2.word.1,.int .i64 0,.int .i64 0,.int .i64 0,.int .i64 0,.int .i64 0,.int .i64 0]:=bD hg3 (Blk.new _ _ _) (by omega);have hl3:=p3.lt;have H3:=Qh h3;generalize hgj:w2.heap.size=gj at hlj hw2 p3 hl3 ⊢;have HNE:=Qh (rb JT1.out (g:=gj) (by omega));clear hgj hg3 h3 hg2 H2;obtain ⟨cj0,cj1,cj2,cj3,cj4,cj5,cj6⟩:=p3.c7;obtain ⟨fj0,fj1,fj2,fj3,fj4,fj5,fj6⟩:=p3.f7;have P3:=Qh p3;clear p3;go_wp2_with fail;clear cj0 cj1 cj2 cj3 cj4 cj5 cj6 fj0 fj1 fj2 fj3 fj4 fj5 fj6;have B3:=eE w3 hlj 2 3 (.int .i64 fa.1) (.int .i64 fa.2.1);have G3':=dk G3 (eE w3 hw2 2 3 (.int .i64 fa.1) (.int .i64 fa.2.1));(with_reducible refine (jT B _ gr (ae s.L.name) (.slice A' n' c') (.slice A'' n'' c'') A n c fa.2.2 (H3.out.bel1 B3) (by rw [HSA.out.sameL,HL1.out];exact H1.out.bodies BD1.out G3') (by have:=HP.out.cnt;omega) (by rw [HSA.out.sameL,HL1.out];exact fun b hb=>Nat.le_trans (HP.out.pts b hb) (by decide)) (-1)).mono ?_);rintro e w4 ⟨rfl,h4,hg4⟩;have hsb:=ci fa.2.2 (-1);generalize hfb:fa.2.2.full (-1)=fb at h4 hsb ⊢;have HFB:=Qh hfb;have HSB:=Qh (HSA.out.trans hsb);clear hfb hsb;have G4:=aD G3' hg4;have p4:=bD hg4 ((P3.out.set_ 2 (.int .i64 fa.1)).set_ 3 (.int .i64 fa.2.1)) (by omega);have p4:=p4;have H4:=Qh h4;have hl4:=p4.lt;obtain ⟨cj0,cj1,cj2,cj3,cj4,cj5,cj6⟩:=p4.c7;obtain ⟨fj0,fj1,fj2,fj3,fj4,fj5,fj6⟩:=p4.f7;have P4:=Qh p4;clear p4 h4 hg4 G3 G3' B3 P3 H3 hl3;go_wp2_with fail;clear cj0 cj1 cj2 cj3 cj4 cj5 cj6 fj0 fj1 fj2 fj3 fj4 fj5 fj6;have B4:=(eE w4 hlj 4 5 (.int .i64 fb.1) (.int .i64 fb.2.1)).setCell (p:=⟨gj,1,none⟩) hlj (.int .i64 1);have G4':=dk G4 ((eE w4 hw2 4 5 (.int .i64 fb.1) (.int .i64 fb.2.1)).setCell (p:=⟨gj,1,none⟩) hw2 (.int .i64 1));have Q4:=Qh (((P4.out.set_ 4 (.int .i64 fb.1)).set_ 5 (.int .i64 fb.2.1)).set_ 1 (.int .i64 1));(with_reducible refine (jT B _ gr (ae s.L.name) (.slice A' n' c') (.slice A'' n'' c'') A n c fb.2.2 (H4.out.bel1 B4) (by rw [HSB.out.sameL,HL1.out];exact H1.out.bodies BD1.out G4') (by have:=HP.out.cnt;omega) (by rw [HSB.out.sameL,HL1.out];exact fun b hb=>Nat.le_trans (HP.out.pts b hb) (by decide)) fb.1).mono ?_);rintro e w5 ⟨rfl,h5,hg5⟩;have hsc:=ci fb.2.2 fb.1;generalize hft:fb.2.2.full fb.1=ft at h5 hsc ⊢;have HFT:=Qh hft;have HSC:=Qh (HSB.out.trans hsc);clear hft hsc;have G5:=aD G4' hg5;have p5:=bD hg5 Q4.out (by omega);have H5:=Qh h5;have hl5:=p5.lt;obtain ⟨cj0,cj1,cj2,cj3,cj4,cj5,cj6⟩:=p5.c7;obtain ⟨fj0,fj1,fj2,fj3,fj4,fj5,fj6⟩:=p5.f7;have P5:=Qh p5;clear p5 h5 hg5 G4 G4' B4 P4 H4 Q4 hl4;go_wp2_with fail;clear cj0 cj1 cj2 cj3 cj4 cj5 cj6 fj0 fj1 fj2 fj3 fj4 fj5 fj6;(with_reducible refine (eO B _ gr (ae s.L.name) (.slice A n c) (.slice A' n' c') (.slice A'' n'' c'') ft.2.2 (H5.out.bel1 ((Below.refl _ w5).setCell (p:=⟨gj,6,none⟩) hlj (.int .i64 ft.2.1))) [59]).mono ?_);rintro e w6 ⟨rfl,h6,hg6⟩;have G6:=Qh (aD (dk G5 ((Below.refl _ w5).setCell (p:=⟨gj,6,none⟩) hw2 (.int .i64 ft.2.1))) hg6);have p6:=bD hg6 (P5.out.set_ 6 (.int .i64 ft.2.1)) (by omega);have H6:=Qh h6;have P6:=Qh p6;have HC:=Qh (show JtC w6 [ae s.word.2.word.1,.int .i64 1,.int .i64 fa.1,.int .i64 fa.2.1,.int .i64 fb.1,.int .i64 fb.2.1,.int .i64 ft.2.1] ⟨s.word.2.word.1,1,fa.1,fa.2.1,fb.1,fb.2.1,ft.2.1⟩ from ⟨rfl,HNM.out⟩);have JT6:=Qh (JT1.out.tch (H1.out.tchR G6.out) (by decide) (fun _ _ x=>x));clear h6 hg6 p6;go_wp2_with fail;change Code.wp _ _ _ (cl _ _ _ _ _ _ _ _ _ _ _ _ _ _ _ _ _ _ _ _ _ _ _ _ _ _ _ _ _ _ _ _ _ _ _ _ _ _ _ _ _ _ _ _ _ _ _ _ _ _ _ _ _ _ _ _ _ _ _ _ _ _ _ _ _ _ _ _ _ _ _ _ _ _ _ _ _ _ _ _ _ (fun _=>undef)) _;refine dV (n:=12) (a:=7) (K:=2) (x0:=fun _=>undef) (R:=fun ri=>List.getD ((VE (.pointer (some ⟨gr,0,none⟩))) :: (VE (.pointer (some ⟨gr,0,none⟩))) :: (VE (.pointer (some ⟨gr,0,none⟩))) :: (VE (.pointer (some ⟨gr,1,none⟩))) :: (VE (.pointer (some ⟨gr,3,none⟩))) :: (VE (.slice A' n' c')) :: (VE (.agg #[ae s.word.2.word.1,.int .i64 1,.int .i64 fa.1,.int .i64 fa.2.1,.int .i64 fb.1,.int .i64 fb.2.1,.int .i64 ft.2.1])) :: VA :: VA :: (VE (.pointer (some ⟨gr,0,none⟩))) :: (VE (.pointer (some ⟨gr,1,none⟩))) :: (VE (.pointer (some ⟨gr,3,none⟩))) :: []) ri VA) (T:=fun k x wq=>TJ_ 79 JtC 7 B gj w6 [ae s.word.2.word.1,.int .i64 1,.int .i64 fa.1,.int .i64 fa.2.1,.int .i64 fb.1,.int .i64 fb.2.1,.int .i64 ft.2.1] ⟨s.word.2.word.1,1,fa.1,fa.2.1,fb.1,fb.2.1,ft.2.1⟩ n' s.L.joints k (x 7) (x 8) wq) (by kernel_rfl) rfl ?_ ?_ ?_ (by decide) ?_ ?_ rfl ?_ ?_ ?_
 ·exact aG ⟨(fun _ _ _=>rfl),(fun _ _ _=>rfl),(fun _ _ _=>rfl),(fun _ _ _=>rfl),(fun _ _ _=>rfl),(fun _ _ _=>rfl),(fun _ _ _=>rfl),(fun _ _ _=>rfl),(fun _ _ _=>rfl),(fun _ _ _=>rfl),(fun _ _ _=>rfl),(fun _ _ _=>rfl),(fun h=>absurd h (by decide)),trivial⟩
 ·exact aG (cd _ 0 (by kernel_rfl))
 ·exact (fun j hj=>gV (by kernel_rfl) hj)
 ·intro j o hj ho
  obtain rfl:j=0:=by omega
  injection ho with ho;subst ho;exact ⟨⟨7,.data⟩,by simp,rfl,rfl⟩
 ·intro k x i v w hi h
  have e7:upd x i v 7=x 7:=aH _ _ (by omega);have e8:upd x i v 8=x 8:=aH _ _ (by omega);simp only [e7,e8];exact h
 ·refine aG ⟨?_,?_,?_,?_,?_,?_,?_,(fun _ h=>absurd h (by decide)),(fun _ h=>absurd h (by decide)),?_,?_,?_,(fun h=>absurd h (by decide)),trivial⟩
  ·intro _ _ k xf wq hT hd K hK
   (try dsimp only [cl]);go_simp;have hz:=hK.out _ rfl;exact hz
  ·intro _ _ k xf wq hT hd K hK
   (try dsimp only [cl]);go_simp;have hz:=hK.out _ rfl;exact hz
  ·intro _ _ k xf wq hT hd K hK
   have dq1:xf 1=.pointer (some ⟨gr,0,none⟩):=hd ⟨1,.data⟩ (by simp) rfl;(try dsimp only [cl]);(try simp only [dq1]);go_simp;have hz:=hK.out _ rfl;dsimp only [cl] at hz;simp only [dq1] at hz;exact hz
  ·intro _ _ k xf wq hT hd K hK
   have dq2:xf 2=.pointer (some ⟨gr,0,none⟩):=hd ⟨2,.data⟩ (by simp) rfl;(try dsimp only [cl]);(try simp only [dq2]);go_simp;have hz:=hK.out _ rfl;dsimp only [cl] at hz;simp only [dq2] at hz;exact hz
  ·intro _ _ k xf wq hT hd K hK
   have dq3:xf 3=.pointer (some ⟨gr,1,none⟩):=hd ⟨3,.data⟩ (by simp) rfl;(try dsimp only [cl]);(try simp only [dq3]);go_simp;have hz:=hK.out _ rfl;dsimp only [cl] at hz;simp only [dq3] at hz;exact hz
  ·intro _ _ k xf wq hT hd K hK
   have dq4:xf 4=.pointer (some ⟨gr,3,none⟩):=hd ⟨4,.data⟩ (by simp) rfl;have hc2:=(TJ_.rd (by decide) H6.out hT).cells;obtain ⟨_,hc2,hc3,hc4,_⟩:=hc2;(try dsimp only [cl]);(try simp only [dq4]);go_simp;have hz:=hK.out _ rfl;dsimp only [cl] at hz;simp only [dq4] at hz;exact hz
  ·intro _ _ k xf wq hT hd K hK
   obtain ⟨hd0,hd1,hd2,hd3,hd4,hd5,hd6⟩:=(TJ_.blk P6.out hT).c7;(try dsimp only [cl]);go_simp;have hz:=hK.out _ rfl;exact hz
  ·intro _ _ k xf wq hT hd K hK
   have dq0:xf 0=.pointer (some ⟨gr,0,none⟩):=hd ⟨0,.data⟩ (by simp) rfl;(try dsimp only [cl]);(try simp only [dq0]);go_simp;have hz:=hK.out _ rfl;dsimp only [cl] at hz;simp only [dq0] at hz;exact hz
  ·intro _ _ k xf wq hT hd K hK
   have dq9:xf 9=.pointer (some ⟨gr,0,none⟩):=hd ⟨9,.data⟩ (by simp) rfl;(try dsimp only [cl]);(try simp only [dq9]);go_simp;have hz:=hK.out _ rfl;dsimp only [cl] at hz;simp only [dq9] at hz;exact hz
  intro _ _ k xf wq hT hd K hK;have dq10:xf 10=.pointer (some ⟨gr,1,none⟩):=hd ⟨10,.data⟩ (by simp) rfl;(try dsimp only [cl]);(try simp only [dq10]);go_simp;have hz:=hK.out _ rfl;dsimp only [cl] at hz;simp only [dq10] at hz;exact hz
 ·intro k o hk ho
  obtain rfl | rfl:=(show k=0∨k=1 by omega)
  ·injection ho with ho
   subst ho;intro xf wq hT hd K hK;have hT:wq=w6.drew:=hT;subst hT;have dq6:xf 6=.agg #[ae s.word.2.word.1,.int .i64 1,.int .i64 fa.1,.int .i64 fa.2.1,.int .i64 fb.1,.int .i64 fb.2.1,.int .i64 ft.2.1]:=hd ⟨6,.data⟩ (by simp) rfl;(try dsimp only [cl]);(try simp only [dq6]);go_simp;have hz:=hK.out (.slice (some ⟨w6.heap.size,0,none⟩) 1 1) (w6.drew.alloc (.cells #[ae s.word.2.word.1,.int .i64 1,.int .i64 fa.1,.int .i64 fa.2.1,.int .i64 fb.1,.int .i64 fb.2.1,.int .i64 ft.2.1] 79)) trivial ⟨rfl,rfl⟩;dsimp only [cl] at hz;simp only [dq6] at hz;exact hz
  injection ho with ho;subst ho;intro xf wq hT hd K hK;obtain ⟨e7,ew⟩:TJ_ 79 JtC 7 B gj w6 [ae s.word.2.word.1,.int .i64 1,.int .i64 fa.1,.int .i64 fa.2.1,.int .i64 fb.1,.int .i64 fb.2.1,.int .i64 ft.2.1] ⟨s.word.2.word.1,1,fa.1,fa.2.1,fb.1,fb.2.1,ft.2.1⟩ n' s.L.joints 1 (xf 7) (xf 8) wq:=hT;subst ew;have dq5:xf 5=.slice A' n' c':=hd ⟨5,.data⟩ (by simp) rfl;obtain ⟨hl,xs,hown,hrow⟩:=JT6.out;have hown:OwJ noW w6.drew B 79 7 (.slice A' n' c') n' xs:=hown;have hrow:iU JtC 7 w6.drew s.L.joints xs:=hrow;have hlt:=H6.out.lt;have hBg:=H6.out.hB;have hds:w6.drew.heap.size=w6.heap.size:=rfl;rw [if_pos (show Region.wanted _ _=true from rfl)];refine fq _ noW _ _ _ rfl B 79 ij (.agg #[.string ⟨#[]⟩,.int .i64 0,.int .i64 0,.int .i64 0,.int .i64 0,.int .i64 0,.int .i64 0]) 7 64 Tryz.underlying33 HIJ.out.1 HIJ.out.2.1 HIJ.out.2.2.1 HIJ.out.2.2.2 rfl (by omega) rfl (.slice A' n' c') n' xs dq5 (hown.belw ((Below.refl _ _).alloc Qr _)) ⟨w6.heap.size,0,none⟩ 1 1 [ae s.word.2.word.1,.int .i64 1,.int .i64 fa.1,.int .i64 fa.2.1,.int .i64 fb.1,.int .i64 fb.2.1,.int .i64 ft.2.1] e7 rfl (World.news_of_block (heap_alloc_new w6.drew _)) (by simp [Value.oneCell']) rfl (by omega) (by have:=HP.out.cnt;unfold maxLen;omega) (by have:=HP.out.cnt;omega) (by simp;omega) ?_;intro g5 cap w5 hown5 hgrow _;have hp:=fh hl hown hrow (a:=⟨s.word.2.word.1,1,fa.1,fa.2.1,fb.1,fb.2.1,ft.2.1⟩) (cs:=[ae s.word.2.word.1,.int .i64 1,.int .i64 fa.1,.int .i64 fa.2.1,.int .i64 fb.1,.int .i64 fb.2.1,.int .i64 ft.2.1]) (show JtC w6.drew _ (⟨s.word.2.word.1,1,fa.1,fa.2.1,fb.1,fb.2.1,ft.2.1⟩:aN) from HC.out) rfl hown5 hgrow (by omega) (fun _ _ _ _ x=>x);exact hK.out _ _ trivial ⟨some ⟨g5,0,none⟩,cap,rfl,hp.1,(P6.out.drew.alloc _).grown hgrow HNE.out,hp.2.1,((Below.refl B w6).drew).trans hp.2.2⟩
 intro o ho xf wq hT hr K hK;injection ho with ho;subst ho;obtain ⟨A5,c5,e8,hrow,_,ht,hb⟩:TJ_ 79 JtC 7 B gj w6 [ae s.word.2.word.1,.int .i64 1,.int .i64 fa.1,.int .i64 fa.2.1,.int .i64 fb.1,.int .i64 fb.2.1,.int .i64 ft.2.1] ⟨s.word.2.word.1,1,fa.1,fa.2.1,fb.1,fb.2.1,ft.2.1⟩ n' s.L.joints 2 (xf 7) (xf 8) wq:=hT;have dq11:xf 11=.pointer (some ⟨gr,3,none⟩):=hr 11 (by decide);have RQ:=H6.out.other ht (by decide) hb;obtain ⟨_,hc2,hc3,hc4,_,hf2,hf3,hf4⟩:=RQ.cells;rw [e8] at hrow;have RQ':=Qh RQ;have HROW:=Qh hrow;clear RQ hrow hr;(try dsimp only [cl]);(try simp only [dq11,e8]);go_simp;refine hK.out _ _ ?_;go_wp2_with fail;go_end0;have t1:=H1.out.tchR G6.out;have t3:=RQ'.out.tchR (rg_set (rg_refl gr wq) 3 (.slice A5 (n'+1) c5));have hst:=HSC.out.trans (ay ft.2.2 2 [59]);have hL:(PS.expect ft.2.2 2 [59]).L=s.L:=hst.2.2.2.trans HL1.out;have htk:=iy (s:=s) (by rw [HW1.out];decide);have hst1:=hst.1
 have eW:W=PS.addJ (PS.expect ft.2.2 2 [59]) ⟨s.word.2.word.1,1,fa.1,fa.2.1,fb.1,fb.2.1,ft.2.1⟩:=by
  rw [← HW.out];unfold PS.item;rw [if_neg (by rw [HW1.out];decide),if_neg (by rw [HW1.out];decide),if_pos HW1.out];unfold PS.joint;simp only [HFA.out,HFB.out,HFT.out,if_true]
 subst eW;refine ⟨rfl,⟨A,n,c,A5,n'+1,c5,A'',n'',c'',⟨?_,?_,?_,?_,?_,?_,?_⟩⟩,?_⟩
 ·show RdP B _ gr (ae (PS.expect ft.2.2 2 [59]).L.name) _ _ _ _
  rw [hL];exact RQ'.out.put3 _ rfl rfl rfl
 ·show bi _ _ _ _ _ _ _ (PS.expect ft.2.2 2 [59]).L.bodies
  rw [hL];exact ((BD1.out.tch t1 (by decide) (fun _ _ x=>x.tch t1 (by decide))).tch ht (by decide) (fun _ _ x=>x.tch ht (by decide))).tch t3 (by decide) (fun _ _ x=>x.tch t3 (by decide))
 ·show bi _ _ _ _ _ _ _ ((PS.expect ft.2.2 2 [59]).L.joints ++ [⟨s.word.2.word.1,1,fa.1,fa.2.1,fb.1,fb.2.1,ft.2.1⟩])
  rw [hL];exact HROW.out.tch t3 (by decide) (fun _ _ x=>x)
 ·show bi _ _ _ _ _ _ _ (PS.expect ft.2.2 2 [59]).L.drivers
  rw [hL];exact ((DR1.out.tch t1 (by decide) (fun _ _ x=>x)).tch ht (by decide) (fun _ _ x=>x)).tch t3 (by decide) (fun _ _ x=>x)
 ·show NmL (PS.expect ft.2.2 2 [59]).L.name
  rw [hL];exact HP.out.nm
 ·show n+(n'+1)+n''+(PS.expect ft.2.2 2 [59]).toks.length≤_
  have h1:=HP.out.cnt;omega
 ·intro b hbm
  have hbm:b∈(PS.expect ft.2.2 2 [59]).L.bodies:=hbm;rw [hL] at hbm;exact HP.out.pts b hbm
 exact ((BW1.out.trans (dN G6.out (by have:=H1.out.lt;have:=H1.out.hB;omega) H1.out.hB)).trans hb).setCell (p:=⟨gr,3,none⟩) H1.out.hB _
theorem lY (B:Nat) (w:World) (gr:Nat) (s:PS) (A:Option Addr) (n c:Nat) (A':Option Addr) (n' c':Nat) (A'':Option Addr) (n'' c'':Nat) (h:RdL B w gr s A n c A' n' c' A'' n'' c'') (hw1:s.word.1=cI):Calls Tryz.prog 41 #[.pointer (some ⟨gr,0,none⟩)] w (nI B w gr s.item):=by
 have HW1:=Qh hw1;have hb0:(s.word.1 == [98,111,100,121])=false:=by rw [hw1];decide
 have hb1:(s.word.1 == [112,105,110])=false:=by rw [hw1];decide
 have hb2:(s.word.1 == [115,108,105,100,101])=false:=by rw [hw1];decide
 have hb3:(s.word.1 == [100,114,105,118,101,114])=true:=by rw [hw1];decide
 clear hw1;obtain ⟨i0,hi0,hz0,hz1,hz2⟩:=info_parts iE;obtain ⟨ij,hj0,hj1,hj2,hj3⟩:=info_parts iG;obtain ⟨id,hd0,hd1,hd2,hd3⟩:=info_parts iI;have HI:=Qh (And.intro hi0 (And.intro hz0 (And.intro hz1 hz2)));have HIJ:=Qh (And.intro hj0 (And.intro hj1 (And.intro hj2 hj3)));have HID:=Qh (And.intro hd0 (And.intro hd1 (And.intro hd2 hd3)));clear hi0 hz0 hz1 hz2 hj0 hj1 hj2 hj3 hd0 hd1 hd2 hd3;have HL1:=Qh (ar s).2.2.2;have HL2:=Qh ((ar s).trans (ar s.word.2)).2.2.2;have HP:=Qh h;obtain ⟨W,hW⟩:∃ W,s.item=W:=⟨_,rfl⟩;rw [hW];have HW:=Qh hW;clear h hW;go_in;go_wp2_with fail;(with_reducible refine (cR B _ gr (ae s.L.name) (.slice A n c) (.slice A' n' c') (.slice A'' n'' c'') s HP.out.rd).mono ?_);rintro e w1 ⟨rfl,h1,hg1⟩;have H1:=Qh h1;have hgl:=h1.lt;have BW1:=Qh (dN hg1 (B:=B) (by have:=HP.out.rd.lt;have:=HP.out.rd.hB;omega) HP.out.rd.hB);have t0:=HP.out.rd.tchR hg1;have BD1:=Qh (HP.out.bd.tch t0 (by decide) (fun _ _ x=>x.tch t0 (by decide)));have JT1:=Qh (HP.out.jt.tch t0 (by decide) (fun _ _ x=>x));have DR1:=Qh (HP.out.dr.tch t0 (by decide) (fun _ _ x=>x));obtain ⟨Ak,nk,ck,hbk,_⟩:=h1.blk;have HBk:=Qh hbk;clear h1 hg1 t0 hbk;have hn:=az s.word.1;go_wp2_with fail;(with_reducible refine (cR B _ gr (ae s.L.name) (.slice A n c) (.slice A' n' c') (.slice A'' n'' c'') s.word.2 H1.out).mono ?_);rintro e w2 ⟨rfl,h2,hg2⟩;have H2:=Qh h2;have hlj:=h2.lt;have hw2:=hg2.size;have HNM:=Qh (gi H1.out.txt);clear h2;go_wp2_with fail;(with_reducible refine (p9 B _ gr (ae s.L.name) (.slice A' n' c') (.slice A'' n'' c'') A n c s.word.2.word.2 (H2.out.alloc _) (by rw [HL2.out];exact H1.out.bodies BD1.out (aZ hg2 _)) (by have:=HP.out.cnt;omega) (-1)).mono ?_);rintro e w3 ⟨rfl,h3,hg3⟩;have hsa:=eT s.word.2.word.2 (-1);generalize hfa:s.word.2.word.2.named (-1)=fa at h3 hsa ⊢;have HFA:=Qh hfa;have HSA:=Qh ((ar s.word.2).trans hsa);clear hfa hsa;have G3:=aD (aZ hg2 _) hg3;have p3:Blk w3 w2.heap.size 81 #[ae s.word.2.word.1,.int .i64 0]:=bD hg3 (Blk.new _ _ _) (by omega);have hl3:=p3.lt;have H3:=Qh h3;generalize hgj:w2.heap.size=gj at hlj hw2 p3 hl3 ⊢;have HNE:=Qh (rb DR1.out (g:=gj) (by omega));clear hgj hg3 h3 hg2 H2;obtain ⟨cj0,cj1⟩:=p3.c2;obtain ⟨fj0,fj1⟩:=p3.f2;have P3:=Qh p3;clear p3;go_wp2_with fail;clear cj0 cj1 fj0 fj1;(with_reducible refine (eO B _ gr (ae s.L.name) (.slice A n c) (.slice A' n' c') (.slice A'' n'' c'') fa.2 (H3.out.bel1 ((Below.refl _ w3).setCell (p:=⟨gj,1,none⟩) hlj (.int .i64 fa.1))) [59]).mono ?_);rintro e w6 ⟨rfl,h6,hg6⟩;have G6:=Qh (aD (dk G3 ((Below.refl _ w3).setCell (p:=⟨gj,1,none⟩) hw2 (.int .i64 fa.1))) hg6);have p6:=bD hg6 (P3.out.set_ 1 (.int .i64 fa.1)) (by omega);have H6:=Qh h6;have P6:=Qh p6;have HC:=Qh (show DrC w6 [ae s.word.2.word.1,.int .i64 fa.1] ⟨s.word.2.word.1,fa.1⟩ from ⟨rfl,HNM.out⟩);have DR6:=Qh (DR1.out.tch (H1.out.tchR G6.out) (by decide) (fun _ _ x=>x));clear h6 hg6 p6;go_wp2_with fail;change Code.wp _ _ _ (fF _ _ _ _ _ _ _ _ _ _ _ _ _ _ _ _ _ _ _ _ _ _ _ _ _ _ _ _ _ _ _ _ _ _ _ _ _ _ _ _ _ _ _ _ _ _ _ _ _ _ _ _ _ _ _ _ _ _ _ _ _ _ _ _ _ _ _ _ _ _ _ _ _ _ _ _ _ _ _ _ _ (fun _=>undef)) _;refine dV (n:=12) (a:=7) (K:=2) (x0:=fun _=>undef) (R:=fun ri=>List.getD ((VE (.pointer (some ⟨gr,0,none⟩))) :: (VE (.pointer (some ⟨gr,0,none⟩))) :: (VE (.pointer (some ⟨gr,0,none⟩))) :: (VE (.pointer (some ⟨gr,1,none⟩))) :: (VE (.pointer (some ⟨gr,4,none⟩))) :: (VE (.slice A'' n'' c'')) :: (VE (.agg #[ae s.word.2.word.1,.int .i64 fa.1])) :: VA :: VA :: (VE (.pointer (some ⟨gr,0,none⟩))) :: (VE (.pointer (some ⟨gr,1,none⟩))) :: (VE (.pointer (some ⟨gr,4,none⟩))) :: []) ri VA) (T:=fun k x wq=>TJ_ 81 DrC 2 B gj w6 [ae s.word.2.word.1,.int .i64 fa.1] ⟨s.word.2.word.1,fa.1⟩ n'' s.L.drivers k (x 7) (x 8) wq) (by kernel_rfl) rfl ?_ ?_ ?_ (by decide) ?_ ?_ rfl ?_ ?_ ?_
 ·exact aG ⟨(fun _ _ _=>rfl),(fun _ _ _=>rfl),(fun _ _ _=>rfl),(fun _ _ _=>rfl),(fun _ _ _=>rfl),(fun _ _ _=>rfl),(fun _ _ _=>rfl),(fun _ _ _=>rfl),(fun _ _ _=>rfl),(fun _ _ _=>rfl),(fun _ _ _=>rfl),(fun _ _ _=>rfl),(fun h=>absurd h (by decide)),trivial⟩
 ·exact aG (cd _ 0 (by kernel_rfl))
 ·exact (fun j hj=>gV (by kernel_rfl) hj)
 ·intro j o hj ho
  obtain rfl:j=0:=by omega
  injection ho with ho;subst ho;exact ⟨⟨7,.data⟩,by simp,rfl,rfl⟩
 ·intro k x i v w hi h
  have e7:upd x i v 7=x 7:=aH _ _ (by omega);have e8:upd x i v 8=x 8:=aH _ _ (by omega);simp only [e7,e8];exact h
 ·refine aG ⟨?_,?_,?_,?_,?_,?_,?_,(fun _ h=>absurd h (by decide)),(fun _ h=>absurd h (by decide)),?_,?_,?_,(fun h=>absurd h (by decide)),trivial⟩
  ·intro _ _ k xf wq hT hd K hK
   (try dsimp only [fF]);go_simp;have hz:=hK.out _ rfl;exact hz
  ·intro _ _ k xf wq hT hd K hK
   (try dsimp only [fF]);go_simp;have hz:=hK.out _ rfl;exact hz
  ·intro _ _ k xf wq hT hd K hK
   have dq1:xf 1=.pointer (some ⟨gr,0,none⟩):=hd ⟨1,.data⟩ (by simp) rfl;(try dsimp only [fF]);(try simp only [dq1]);go_simp;have hz:=hK.out _ rfl;dsimp only [fF] at hz;simp only [dq1] at hz;exact hz
  ·intro _ _ k xf wq hT hd K hK
   have dq2:xf 2=.pointer (some ⟨gr,0,none⟩):=hd ⟨2,.data⟩ (by simp) rfl;(try dsimp only [fF]);(try simp only [dq2]);go_simp;have hz:=hK.out _ rfl;dsimp only [fF] at hz;simp only [dq2] at hz;exact hz
  ·intro _ _ k xf wq hT hd K hK
   have dq3:xf 3=.pointer (some ⟨gr,1,none⟩):=hd ⟨3,.data⟩ (by simp) rfl;(try dsimp only [fF]);(try simp only [dq3]);go_simp;have hz:=hK.out _ rfl;dsimp only [fF] at hz;simp only [dq3] at hz;exact hz
  ·intro _ _ k xf wq hT hd K hK
   have dq4:xf 4=.pointer (some ⟨gr,4,none⟩):=hd ⟨4,.data⟩ (by simp) rfl;have hc2:=(TJ_.rd (by decide) H6.out hT).cells;obtain ⟨_,hc2,hc3,hc4,_⟩:=hc2;(try dsimp only [fF]);(try simp only [dq4]);go_simp;have hz:=hK.out _ rfl;dsimp only [fF] at hz;simp only [dq4] at hz;exact hz
  ·intro _ _ k xf wq hT hd K hK
   obtain ⟨hd0,hd1⟩:=(TJ_.blk P6.out hT).c2;(try dsimp only [fF]);go_simp;have hz:=hK.out _ rfl;exact hz
  ·intro _ _ k xf wq hT hd K hK
   have dq0:xf 0=.pointer (some ⟨gr,0,none⟩):=hd ⟨0,.data⟩ (by simp) rfl;(try dsimp only [fF]);(try simp only [dq0]);go_simp;have hz:=hK.out _ rfl;dsimp only [fF] at hz;simp only [dq0] at hz;exact hz
  ·intro _ _ k xf wq hT hd K hK
   have dq9:xf 9=.pointer (some ⟨gr,0,none⟩):=hd ⟨9,.data⟩ (by simp) rfl;(try dsimp only [fF]);(try simp only [dq9]);go_simp;have hz:=hK.out _ rfl;dsimp only [fF] at hz;simp only [dq9] at hz;exact hz
  intro _ _ k xf wq hT hd K hK;have dq10:xf 10=.pointer (some ⟨gr,1,none⟩):=hd ⟨10,.data⟩ (by simp) rfl;(try dsimp only [fF]);(try simp only [dq10]);go_simp;have hz:=hK.out _ rfl;dsimp only [fF] at hz;simp only [dq10] at hz;exact hz
 ·intro k o hk ho
  obtain rfl | rfl:=(show k=0∨k=1 by omega)
  ·injection ho with ho
   subst ho;intro xf wq hT hd K hK;have hT:wq=w6.drew:=hT;subst hT;have dq6:xf 6=.agg #[ae s.word.2.word.1,.int .i64 fa.1]:=hd ⟨6,.data⟩ (by simp) rfl;(try dsimp only [fF]);(try simp only [dq6]);go_simp;have hz:=hK.out (.slice (some ⟨w6.heap.size,0,none⟩) 1 1) (w6.drew.alloc (.cells #[ae s.word.2.word.1,.int .i64 fa.1] 81)) trivial ⟨rfl,rfl⟩;dsimp only [fF] at hz;simp only [dq6] at hz;exact hz
  injection ho with ho;subst ho;intro xf wq hT hd K hK;obtain ⟨e7,ew⟩:TJ_ 81 DrC 2 B gj w6 [ae s.word.2.word.1,.int .i64 fa.1] ⟨s.word.2.word.1,fa.1⟩ n'' s.L.drivers 1 (xf 7) (xf 8) wq:=hT;subst ew;have dq5:xf 5=.slice A'' n'' c'':=hd ⟨5,.data⟩ (by simp) rfl;obtain ⟨hl,xs,hown,hrow⟩:=DR6.out;have hown:OwJ noW w6.drew B 81 2 (.slice A'' n'' c'') n'' xs:=hown;have hrow:iU DrC 2 w6.drew s.L.drivers xs:=hrow;have hlt:=H6.out.lt;have hBg:=H6.out.hB;have hds:w6.drew.heap.size=w6.heap.size:=rfl;rw [if_pos (show Region.wanted _ _=true from rfl)];refine fq _ noW _ _ _ rfl B 81 id (.agg #[.string ⟨#[]⟩,.int .i64 0]) 2 24 Tryz.underlying34 HID.out.1 HID.out.2.1 HID.out.2.2.1 HID.out.2.2.2 rfl (by omega) rfl (.slice A'' n'' c'') n'' xs dq5 (hown.belw ((Below.refl _ _).alloc Qr _)) ⟨w6.heap.size,0,none⟩ 1 1 [ae s.word.2.word.1,.int .i64 fa.1] e7 rfl (World.news_of_block (heap_alloc_new w6.drew _)) (by simp [Value.oneCell']) rfl (by omega) (by have:=HP.out.cnt;unfold maxLen;omega) (by have:=HP.out.cnt;omega) (by simp;omega) ?_;intro g5 cap w5 hown5 hgrow _;have hp:=fh hl hown hrow (a:=⟨s.word.2.word.1,fa.1⟩) (cs:=[ae s.word.2.word.1,.int .i64 fa.1]) (show DrC w6.drew _ (⟨s.word.2.word.1,fa.1⟩:bc) from HC.out) rfl hown5 hgrow (by omega) (fun _ _ _ _ x=>x);exact hK.out _ _ trivial ⟨some ⟨g5,0,none⟩,cap,rfl,hp.1,(P6.out.drew.alloc _).grown hgrow HNE.out,hp.2.1,((Below.refl B w6).drew).trans hp.2.2⟩
 intro o ho xf wq hT hr K hK;injection ho with ho;subst ho;obtain ⟨A5,c5,e8,hrow,_,ht,hb⟩:TJ_ 81 DrC 2 B gj w6 [ae s.word.2.word.1,.int .i64 fa.1] ⟨s.word.2.word.1,fa.1⟩ n'' s.L.drivers 2 (xf 7) (xf 8) wq:=hT;have dq11:xf 11=.pointer (some ⟨gr,4,none⟩):=hr 11 (by decide);have RQ:=H6.out.other ht (by decide) hb;obtain ⟨_,hc2,hc3,hc4,_,hf2,hf3,hf4⟩:=RQ.cells;rw [e8] at hrow;have RQ':=Qh RQ;have HROW:=Qh hrow;clear RQ hrow hr;(try dsimp only [fF]);(try simp only [dq11,e8]);go_simp;refine hK.out _ _ ?_;go_wp2_with fail;go_end0;have t1:=H1.out.tchR G6.out;have t3:=RQ'.out.tchR (rg_set (rg_refl gr wq) 4 (.slice A5 (n''+1) c5));have hst:=HSA.out.trans (ay fa.2 2 [59]);have hL:(PS.expect fa.2 2 [59]).L=s.L:=hst.2.2.2.trans HL1.out;have htk:=iy (s:=s) (by rw [HW1.out];decide);have hst1:=hst.1
 have eW:W=PS.addD (PS.expect fa.2 2 [59]) ⟨s.word.2.word.1,fa.1⟩:=by
  rw [← HW.out];unfold PS.item;rw [if_neg (by rw [HW1.out];decide),if_neg (by rw [HW1.out];decide),if_neg (by rw [HW1.out];decide),if_pos HW1.out];unfold PS.driver;simp only [HFA.out]
 subst eW;refine ⟨rfl,⟨A,n,c,A',n',c',A5,n''+1,c5,⟨?_,?_,?_,?_,?_,?_,?_⟩⟩,?_⟩
 ·show RdP B _ gr (ae (PS.expect fa.2 2 [59]).L.name) _ _ _ _
  rw [hL];exact RQ'.out.put4 _ rfl rfl rfl
 ·show bi _ _ _ _ _ _ _ (PS.expect fa.2 2 [59]).L.bodies
  rw [hL];exact ((BD1.out.tch t1 (by decide) (fun _ _ x=>x.tch t1 (by decide))).tch ht (by decide) (fun _ _ x=>x.tch ht (by decide))).tch t3 (by decide) (fun _ _ x=>x.tch t3 (by decide))
 ·show bi _ _ _ _ _ _ _ (PS.expect fa.2 2 [59]).L.joints
  rw [hL];exact ((JT1.out.tch t1 (by decide) (fun _ _ x=>x)).tch ht (by decide) (fun _ _ x=>x)).tch t3 (by decide) (fun _ _ x=>x)
 ·show bi _ _ _ _ _ _ _ ((PS.expect fa.2 2 [59]).L.drivers ++ [⟨s.word.2.word.1,fa.1⟩])
  rw [hL];exact HROW.out.tch t3 (by decide) (fun _ _ x=>x)
 ·show NmL (PS.expect fa.2 2 [59]).L.name
  rw [hL];exact HP.out.nm
 ·show n+n'+(n''+1)+(PS.expect fa.2 2 [59]).toks.length≤_
  have h1:=HP.out.cnt;omega
 ·intro b hbm
  have hbm:b∈(PS.expect fa.2 2 [59]).L.bodies:=hbm;rw [hL] at hbm;exact HP.out.pts b hbm
 exact ((BW1.out.trans (dN G6.out (by have:=H1.out.lt;have:=H1.out.hB;omega) H1.out.hB)).trans hb).setCell (p:=⟨gr,4,none⟩) H1.out.hB _
theorem oH (B:Nat) (w:World) (gr:Nat) (s:PS) (A:Option Addr) (n c:Nat) (A':Option Addr) (n' c':Nat) (A'':Option Addr) (n'' c'':Nat) (h:RdL B w gr s A n c A' n' c' A'' n'' c'') (k1:s.word.1≠cY) (k2:s.word.1≠gh) (k3:s.word.1≠cZ) (k4:s.word.1≠cI):Calls Tryz.prog 41 #[.pointer (some ⟨gr,0,none⟩)] w (nI B w gr s.item):=by
 have hb0:(s.word.1 == [98,111,100,121])=false:=beq_eq_false_iff_ne.2 k1;have hb1:(s.word.1 == [112,105,110])=false:=beq_eq_false_iff_ne.2 k2;have hb2:(s.word.1 == [115,108,105,100,101])=false:=beq_eq_false_iff_ne.2 k3;have hb3:(s.word.1 == [100,114,105,118,101,114])=false:=beq_eq_false_iff_ne.2 k4;have HK:=Qh (show s.item=s.word.2.fail 2 by unfold PS.item;rw [if_neg k1,if_neg k2,if_neg k3,if_neg k4]);clear k1 k2 k3 k4;obtain ⟨i0,hi0,hz0,hz1,hz2⟩:=info_parts iE;obtain ⟨ij,hj0,hj1,hj2,hj3⟩:=info_parts iG;obtain ⟨id,hd0,hd1,hd2,hd3⟩:=info_parts iI;have HI:=Qh (And.intro hi0 (And.intro hz0 (And.intro hz1 hz2)));have HIJ:=Qh (And.intro hj0 (And.intro hj1 (And.intro hj2 hj3)));have HID:=Qh (And.intro hd0 (And.intro hd1 (And.intro hd2 hd3)));clear hi0 hz0 hz1 hz2 hj0 hj1 hj2 hj3 hd0 hd1 hd2 hd3;have HL1:=Qh (ar s).2.2.2;have HL2:=Qh ((ar s).trans (ar s.word.2)).2.2.2;have HP:=Qh h;obtain ⟨W,hW⟩:∃ W,s.item=W:=⟨_,rfl⟩;rw [hW];have HW:=Qh hW;clear h hW;go_in;go_wp2_with fail;(with_reducible refine (cR B _ gr (ae s.L.name) (.slice A n c) (.slice A' n' c') (.slice A'' n'' c'') s HP.out.rd).mono ?_);rintro e w1 ⟨rfl,h1,hg1⟩;have H1:=Qh h1;have hgl:=h1.lt;have BW1:=Qh (dN hg1 (B:=B) (by have:=HP.out.rd.lt;have:=HP.out.rd.hB;omega) HP.out.rd.hB);have t0:=HP.out.rd.tchR hg1;have BD1:=Qh (HP.out.bd.tch t0 (by decide) (fun _ _ x=>x.tch t0 (by decide)));have JT1:=Qh (HP.out.jt.tch t0 (by decide) (fun _ _ x=>x));have DR1:=Qh (HP.out.dr.tch t0 (by decide) (fun _ _ x=>x));obtain ⟨Ak,nk,ck,hbk,_⟩:=h1.blk;have HBk:=Qh hbk;clear h1 hg1 t0 hbk;have hn:=az s.word.1;have HB1:=HBk.out;clear HBk;obtain ⟨Ak,nk,ck,hbk,htk⟩:=H1.out.blk;have HBk:=Qh hbk;have HTk:=Qh htk;clear hbk htk HB1;go_wp2_with fail;(with_reducible refine (fs _ gr (.slice Ak nk ck) (ae s.L.name) (.slice A n c) (.slice A' n' c') (.slice A'' n'' c'') s.word.2.x 2 HBk.out (by decide)).mono ?_);rintro e w2 ⟨rfl,hb2,g2⟩;have HB2:=Qh hb2;clear hb2;go_wp2_with fail;go_end0;have t1:=H1.out.tchR g2;have eW:W=s.word.2.fail 2:=by rw [← HW.out,HK.out]
 have R2:RdP B w2 gr (ae s.L.name) (.slice A n c) (.slice A' n' c') (.slice A'' n'' c'') (s.word.2.fail 2):=by
  have hb2:=HB2.out;unfold PS.fail;split
  ·rename_i hx
   rw [if_pos hx] at hb2;exact ⟨⟨Ak,nk,ck,hb2,HTk.out.rg H1.out.hB g2⟩,H1.out.mx.rg H1.out.hB g2,H1.out.hB,H1.out.len,H1.out.txt,H1.out.hw⟩
  rename_i hx;rw [if_neg hx] at hb2;exact ⟨⟨Ak,nk,ck,hb2,HTk.out.rg H1.out.hB g2⟩,H1.out.mx.rg H1.out.hB g2,H1.out.hB,H1.out.len,H1.out.txt,H1.out.hw⟩
 have hst:=(ar s).trans (ff s.word.2 2 (by decide) 0);have hL:(s.word.2.fail 2).L=s.L:=hst.2.2.2;subst eW;refine ⟨rfl,⟨A,n,c,A',n',c',A'',n'',c'',⟨by rw [hL];exact R2,?_,?_,?_,by rw [hL];exact HP.out.nm,?_,by rw [hL];exact HP.out.pts⟩⟩,?_⟩
 ·rw [hL];exact BD1.out.tch t1 (by decide) (fun _ _ x=>x.tch t1 (by decide))
 ·rw [hL];exact JT1.out.tch t1 (by decide) (fun _ _ x=>x)
 ·rw [hL];exact DR1.out.tch t1 (by decide) (fun _ _ x=>x)
 ·have h1:=HP.out.cnt
  have h2:=hst.1;omega
 exact BW1.out.trans (dN g2 (by have:=H1.out.lt;have:=H1.out.hB;omega) H1.out.hB)
theorem x8 (B:Nat) (w:World) (gr:Nat) (s:PS) (A:Option Addr) (n c:Nat) (A':Option Addr) (n' c':Nat) (A'':Option Addr) (n'' c'':Nat) (h:RdL B w gr s A n c A' n' c' A'' n'' c''):Calls Tryz.prog 41 #[.pointer (some ⟨gr,0,none⟩)] w (nI B w gr s.item):=by
 by_cases h1:s.word.1=cY
 ·exact oG B w gr s A n c A' n' c' A'' n'' c'' h h1
 by_cases h2:s.word.1=gh
 ·exact qc B w gr s A n c A' n' c' A'' n'' c'' h h2
 by_cases h3:s.word.1=cZ
 ·exact mE B w gr s A n c A' n' c' A'' n'' c'' h h3
 by_cases h4:s.word.1=cI
 ·exact lY B w gr s A n c A' n' c' A'' n'' c'' h h4
 exact oH B w gr s A n c A' n' c' A'' n'' c'' h h1 h2 h3 h4
theorem v6:∀ (f:Nat) (r:List UInt8) (line col:Nat) (l:List Tkn),toks f r line col=.ok l→(l.map fun t=>t.text.length).sum≤r.length∧∀ t∈l,0 < t.text.length:=by
 intro f
 induction f with
 | zero=>intro r line col l h;unfold toks at h;injection h with h;subst h;simp
 | succ f ih =>
  intro r line col l h
  cases r with
  | nil=>unfold toks at h;injection h with h;subst h;simp
  | cons c s =>
   unfold toks at h;split at h
   ·have:=ih _ _ _ _ h
    refine ⟨?_,this.2⟩;rw [List.length_cons];omega
   split at h
   ·have:=ih _ _ _ _ h
    refine ⟨?_,this.2⟩;rw [List.length_cons];omega
   split at h
   ·have:=ih _ _ _ _ h
    refine ⟨?_,this.2⟩;rw [List.length_drop] at this;omega
   split at h
   ·cases h
   rename_i k n hf;have hn:=dt hf
   cases hx:toks f ((c :: s).drop n) line (col+n) with
   | err x=>rw [hx] at h;cases h
   | ok l' =>
    rw [hx] at h;injection h with h;subst h;have:=ih _ _ _ _ hx;have hl:((c :: s).take n).length=n:=by rw [List.length_take];omega
    rw [List.length_drop] at this;refine ⟨?_,fun t ht=>?_⟩
    ·simp only [List.map_cons,List.sum_cons,hl];omega
    rcases List.mem_cons.1 ht with e | e
    ·subst e;show 0 < ((c :: s).take n).length;omega
    exact this.2 t e
theorem lZ:∀ {l:List Tkn},(∀ t∈l,0 < t.text.length)→l.length≤(l.map fun t=>t.text.length).sum
 | [],_=>by simp
 | t :: l,h=>by
  have h1:=lZ (l:=l) (fun x hx=>h x (by simp [hx]));have h2:=h t (by simp);simp only [List.length_cons,List.map_cons,List.sum_cons];omega
theorem l7 {s:List UInt8}{l:List Tkn}(h:dC s=.ok l):l.length≤s.length∧(l.map fun t=>t.text.length).sum≤s.length:=by
 obtain ⟨h1,h2⟩:=v6 _ _ _ _ _ h;have:=lZ h2;omega
theorem aR.len {s:List UInt8}{x:Int}{l:List Tkn}(h:aR s x l):l.length≤65536:=by
 rcases h with ⟨_,_,rfl⟩ | ⟨h,ht,_⟩ | ⟨_,_,_,_,rfl⟩
 ·simp
 ·have:=(l7 ht).1;omega
 simp
def rc (w:World) (v:Value) (L:ao) (e:Ending) (w':World):Prop :=
  ∃ A n c A' n' c' A'' n'' c'',e=.returned (.tuple #[.agg #[ae L.name,.slice A n c,.slice A' n' c',.slice A'' n'' c''],v])∧LkS 130 w' A n c A' n' c' A'' n'' c'' L∧Below w.heap.size w w'
theorem ya {l:List Tkn}{t:Tkn}(h:t∈l):t.text.length≤(l.map fun t=>t.text.length).sum:=by
 induction l with
 | nil=>cases h
 | cons a l ih =>
  rw [List.map_cons,List.sum_cons];rcases List.mem_cons.1 h with rfl | h
  ·omega
  have:=ih h;omega
theorem nJ {s:List UInt8}{l:List Tkn}(h:aR s 0 l):∀ t∈l,NmL t.text:=by
 intro t ht;rcases h with ⟨_,h,_⟩ | ⟨h,hk,_⟩ | ⟨_,_,_,_,rfl⟩
 ·cases h
 ·have h1:=(l7 hk).2
  have h2:=ya ht;show t.text.length < _;omega
 cases ht
theorem kT (w:World) (k:Nat):LkS k w none 0 0 none 0 0 none 0 0 L0:=⟨by show ([]:List UInt8).length < _;decide,⟨rfl,Qr,fun h=>absurd h (by omega)⟩,⟨rfl,Qr,fun h=>absurd h (by omega)⟩,⟨rfl,Qr,fun h=>absurd h (by omega)⟩⟩
theorem wc {w:World}{A:Option Addr}{n c:Nat}{s:List UInt8}{l:List Tkn}(hs:aR s 0 l) (ht:TkS w A n c l) (hmx:Mx w) (L:ao) (hL:L.name=[]∧L.bodies=[]∧L.joints=[]∧L.drivers=[]):RdL w.heap.size (w.alloc (.cells #[.slice A n c,.string ⟨#[]⟩,.slice none 0 0,.slice none 0 0,.slice none 0 0,.nilIface] 87)) w.heap.size ⟨l,L,0⟩ none 0 0 none 0 0 none 0 0:=by
 obtain ⟨h1,h2,h3,h4⟩:=hL;have hb:Below w.heap.size w (w.alloc (.cells #[.slice A n c,.string ⟨#[]⟩,.slice none 0 0,.slice none 0 0,.slice none 0 0,.nilIface] 87)):=(Below.refl _ _).alloc Qr _;refine ⟨⟨⟨A,n,c,?_,(TkA.of_tks ht).belB hb⟩,(MxA.of_mx hmx).belB hb,Qr,hs.len,nJ hs,by rw [h1];exact ⟨rfl,rfl,rfl,rfl⟩⟩,by rw [h2];exact bi.nil,by rw [h3];exact bi.nil,by rw [h4];exact bi.nil,by rw [h1];show ([]:List UInt8).length < _;decide,?_,by rw [h2];intro b hb;cases hb⟩
 ·rw [h1];exact Blk.new _ _ _
 have:=hs.len;show 0+0+0+l.length≤_;omega
theorem RdL.lk {B:Nat}{w:World}{gr:Nat}{s:PS}{A A' A'':Option Addr}{n c n' c' n'' c'':Nat}(h:RdL B w gr s A n c A' n' c' A'' n'' c''):LkS 130 w A n c A' n' c' A'' n'' c'' s.L:=⟨h.nm,h.bd.bds,h.jt.jts,h.dr.drs⟩
theorem RdL.call {B:Nat}{w w':World}{gr:Nat}{s s':PS}{A A' A'':Option Addr}{n c n' c' n'' c'':Nat}(h:RdL B w gr s A n c A' n' c' A'' n'' c'') (h':RdP B w' gr (ae s.L.name) (.slice A n c) (.slice A' n' c') (.slice A'' n'' c'') s') (k:w.grownBy w' (some gr)) (hL:s'.L=s.L) (hl:s'.toks.length≤s.toks.length):RdL B w' gr s' A n c A' n' c' A'' n'' c'':=by
 have t:=h.rd.tchR k;exact ⟨by rw [hL];exact h',by rw [hL];exact h.bd.tch t (by decide) (fun _ _ x=>x.tch t (by decide)),by rw [hL];exact h.jt.tch t (by decide) (fun _ _ x=>x),by rw [hL];exact h.dr.tch t (by decide) (fun _ _ x=>x),by rw [hL];exact h.nm,by have:=h.cnt;omega,by rw [hL];exact h.pts⟩
theorem RdL.below {B:Nat}{w w':World}{gr:Nat}{s:PS}{A A' A'':Option Addr}{n c n' c' n'' c'':Nat}(h:RdL B w gr s A n c A' n' c' A'' n'' c'') (k:w.grownBy w' (some gr)):Below B w w':=dN k (by have:=h.rd.lt;have:=h.rd.hB;omega) h.rd.hB
theorem RdL.name {B:Nat}{w:World}{gr:Nat}{s:PS}{A A' A'':Option Addr}{n c n' c' n'' c'':Nat}(h:RdL B w gr s A n c A' n' c' A'' n'' c'') (nm:List UInt8) (hn:NmL nm):RdL B (w.setCell ⟨gr,1,none⟩ (ae nm)) gr { s with L:={ s.L with name:=nm } } A n c A' n' c' A'' n'' c'':=by
 have t:=h.rd.tchR (rg_set (rg_refl gr w) 1 (ae nm));exact ⟨h.rd.put1 _ rfl rfl rfl,h.bd.tch t (by decide) (fun _ _ x=>x.tch t (by decide)),h.jt.tch t (by decide) (fun _ _ x=>x),h.dr.tch t (by decide) (fun _ _ x=>x),hn,h.cnt,h.pts⟩
theorem RdL.belw {B:Nat}{w w':World}{gr:Nat}{s:PS}{A A' A'':Option Addr}{n c n' c' n'' c'':Nat}(h:RdL B w gr s A n c A' n' c' A'' n'' c'') (k:Below w.heap.size w w'):RdL B w' gr s A n c A' n' c' A'' n'' c'':=by
 have t:Tch (fun _=>false) w w':=Tch.below k;exact ⟨h.rd.belw k,h.bd.tch t rfl (fun _ _ x=>x.tch t rfl),h.jt.tch t rfl (fun _ _ x=>x),h.dr.tch t rfl (fun _ _ x=>x),h.nm,h.cnt,h.pts⟩
theorem RdL.lkA {B:Nat}{w w':World}{gr:Nat}{s:PS}{A A' A'':Option Addr}{n c n' c' n'' c'':Nat}(h:RdL B w gr s A n c A' n' c' A'' n'' c'') (t:Tch (bK 36) w w'):LkS 130 w' A n c A' n' c' A'' n'' c'' s.L :=
 ⟨h.nm,(h.bd.tch t (by decide) (fun _ _ x=>x.tch t (by decide))).bds,(h.jt.tch t (by decide) (fun _ _ x=>x)).jts,(h.dr.tch t (by decide) (fun _ _ x=>x)).drs⟩
theorem AW {w:World}{g:Nat}{t:TypeId}{a0 a1 a2 a3:Value}(z:Blk w g t #[a0,a1,a2,a3]) (hz:noW a0=true∧noW a1=true∧noW a2=true∧noW a3=true) (u0 u1 u2 u3:Value):Tch (bK t) w ((((w.setCell ⟨g,0,none⟩ u0).setCell ⟨g,1,none⟩ u1).setCell ⟨g,2,none⟩ u2).setCell ⟨g,3,none⟩ u3) :=
 Tch.of_ne (by simp [World.setCell]) z (by simp [bK]) (by simp [hz]) fun g' _ hne=>by
  rw [Below.heap_setCell _ _ _ _ hne,Below.heap_setCell _ _ _ _ hne,Below.heap_setCell _ _ _ _ hne,Below.heap_setCell _ _ _ _ hne]
theorem re {B g:Nat}{a w:World}(h:Below B a w) (hB:B≤g) (u0 u1 u2 u3:Value):Below B a ((((w.setCell ⟨g,0,none⟩ u0).setCell ⟨g,1,none⟩ u1).setCell ⟨g,2,none⟩ u2).setCell ⟨g,3,none⟩ u3) :=
 (((h.setCell (p:=⟨g,0,none⟩) hB u0).setCell (p:=⟨g,1,none⟩) hB u1).setCell (p:=⟨g,2,none⟩) hB u2).setCell (p:=⟨g,3,none⟩) hB u3
theorem qe (w:World) (s:List UInt8) (x:Int) (l:List Tkn) (hs:aR s x l) (hx:x≠0):Calls Tryz.prog 15 #[ae s] w (rc w (cD x) L0):=by
 have HS:=Qh hs;have HX:=Qh hx;rw [eVp hx];clear hs hx;go_in;go_wp2_with fail;(with_reducible refine (nG _ s x l HS.out).mono ?_);rintro e w1 ⟨A,n,c,rfl,_,hb1⟩;rw [eVp HX.out];have z1:Blk w1 w.heap.size 36 #[.string ⟨#[]⟩,.slice none 0 0,.slice none 0 0,.slice none 0 0]:=(ah _ _ _ (by simp)).below hb1 (by simp);have cz0:=z1.c4;have fz0:=z1.f4;have q1:=hb1.q1;clear hb1 z1;go_wp2_with fail;refine bodyPost_ret (v:=.tuple #[.agg #[.string ⟨#[]⟩,.slice none 0 0,.slice none 0 0,.slice none 0 0],.iface 49 (.int .i64 x)]) (by simp [results,Tryz.results15,go_sem, *] <;> trivial) rfl ?_;exact ⟨_,_,_,_,_,_,_,_,_,rfl,kT _ _,(((q1.setCell (p:=⟨w.heap.size,0,none⟩) Qr _).setCell (p:=⟨w.heap.size,1,none⟩) Qr _).setCell (p:=⟨w.heap.size,2,none⟩) Qr _).setCell (p:=⟨w.heap.size,3,none⟩) Qr _⟩
theorem gY (w:World) (s:List UInt8) (l:List Tkn) (hmx:Mx w) (hs:aR s 0 l) (x:Int) (L:ao) (h:((cN l).x≠0∧x=(cN l).x∧L=L0)∨((cN l).x=0∧dh (cN l).L≠0∧x=dh (cN l).L∧L=L0)∨((cN l).x=0∧dh (cN l).L=0∧x=0∧L=(cN l).L)):Calls Tryz.prog 15 #[ae s] w (rc w (cD x) L):=by
 have HS:=Qh hs;have HM:=Qh hmx;obtain ⟨R,hR⟩:∃ R,cN l=R:=⟨_,rfl⟩;rw [hR] at h;have HR:=Qh hR;have HH:=Qh h;clear hs hmx hR h;go_in;go_wp2_with fail;(with_reducible refine (nG _ s 0 l HS.out).mono ?_);rintro e w1 ⟨A,n,c,rfl,ht,hb1⟩;rw [dE];have z1:Blk w1 w.heap.size 36 #[.string ⟨#[]⟩,.slice none 0 0,.slice none 0 0,.slice none 0 0]:=(ah _ _ _ (by simp)).below hb1 (by simp);have q1:=hb1.q1;have hz1:=z1.lt;have H1:=Qh (wc HS.out ht (HM.out.belw q1) L0 ⟨rfl,rfl,rfl,rfl⟩);have Z1:=Qh (z1.alloc (.cells #[.slice A n c,.string ⟨#[]⟩,.slice none 0 0,.slice none 0 0,.slice none 0 0,.nilIface] 87));have Q1:=Qh (q1.alloc q1.size (.cells #[.slice A n c,.string ⟨#[]⟩,.slice none 0 0,.slice none 0 0,.slice none 0 0,.nilIface] 87));clear hb1 z1 q1 ht;go_wp2_with fail;(with_reducible refine (nH w1.heap.size _ w1.heap.size _ _ _ _ ⟨l,L0,0⟩ H1.out.rd 0 0 rfl [108,105,110,107,97,103,101]).mono ?_);rintro e w2 ⟨rfl,h2,hg2⟩;have H2:=Qh (H1.out.call h2 hg2 (ay _ 0 _).sameL (ay _ 0 _).1);have B2:=H1.out.below hg2;have Z2:=Qh (Z1.out.below B2 hz1);have Q2:=Qh (Q1.out.trans (B2.mono (by omega)));have hl2:=h2.lt;clear h2 hg2 B2 Z1 Q1 H1;generalize hgr:w1.heap.size=gr at hz1 H2 hl2 ⊢;have hs1:(⟨l,L0,0⟩:PS).expect 0 [108,105,110,107,97,103,101]=(⟨l,L0,0⟩:PS).expect 0 aJ:=rfl;rw [hs1] at H2;clear hs1;have HR1:=HR.out;unfold cN at HR1;simp only at HR1;have hst1:=ay (⟨l,L0,0⟩:PS) 0 aJ;generalize (⟨l,L0,0⟩:PS).expect 0 aJ=s1 at H2 HR1 hst1;have HR2:=Qh HR1;have HST1:=Qh hst1;clear HR1 hst1 HR;go_wp2_with fail;(with_reducible refine (cR gr _ gr _ _ _ _ s1 H2.out.rd).mono ?_);rintro e w3 ⟨rfl,h3,hg3⟩;have hnm:=gi H2.out.rd.txt;have H3:=Qh (H2.out.call h3 hg3 (ar _).sameL (ar _).1);have B3:=H2.out.below hg3;have Z3:=Qh (Z2.out.below B3 hz1);have Q3:=Qh (Q2.out.trans (B3.mono (by omega)));have H3n:=Qh (H3.out.name s1.word.1 hnm);have hl3:=h3.lt;obtain ⟨cn1,_,_,_,fn1,_⟩:=h3.cells;clear h3 hg3 B3 hnm;go_wp2_with fail;clear cn1 fn1;(with_reducible refine (eO gr _ gr _ _ _ _ _ H3n.out.rd [59]).mono ?_);rintro e w4 ⟨rfl,h4,hg4⟩;have H4:=Qh (H3n.out.call h4 hg4 (ay _ 2 _).sameL (ay _ 2 _).1);have B4:=H3n.out.below hg4;have hz3:=Z3.out.far (p:=⟨gr,1,none⟩) (by show w.heap.size≠gr;omega) (ae s1.word.1);have Z4:=Qh (hz3.below B4 hz1);have Q4:=Qh ((Q3.out.setCell (p:=⟨gr,1,none⟩) (by show w.heap.size≤gr;omega) (ae s1.word.1)).trans (B4.mono (by omega)))
 have hlen:s1.word.2.toks.length < l.length+1:=by
  have h1:=HST1.out.1;have h2:=(ar s1).1;have h3:s1.toks.length≤l.length:=h1;omega
 have hst4:=(ay (⟨s1.word.2.toks,⟨s1.word.1,s1.word.2.L.bodies,s1.word.2.L.joints,s1.word.2.L.drivers⟩,s1.word.2.x⟩:PS) 2 [59]).1;clear h4 hg4 B4 H3n H3 H2 Z2 Q2 Z3 Q3 hz3 HST1;generalize (⟨s1.word.2.toks,⟨s1.word.1,s1.word.2.L.bodies,s1.word.2.L.joints,s1.word.2.L.drivers⟩,s1.word.2.x⟩:PS).expect 2 [59]=s4 at H4 HR2 hst4
 have hlen4:s4.toks.length < l.length+1:=by
  have h3:s4.toks.length≤s1.word.2.toks.length:=hst4;omega
 clear hst4 hlen;go_wp2_with fail;go_loopw [] (fun wr=>∃ f s' A n c A' n' c' A'' n'' c'',RdL gr wr gr s' A n c A' n' c' A'' n'' c''∧(s'.x=0→s'.toks.length < f)∧Hid (PS.items f s'=R)∧Below w.heap.size w wr∧Blk wr w.heap.size 36 #[.string ⟨#[]⟩,.slice none 0 0,.slice none 0 0,.slice none 0 0]) (fun wr=>mOf gr wr)
 case atStart=>exact ⟨l.length+1,s4,_,_,_,_,_,_,_,_,_,H4.out,fun _=>hlen4,HR2,Q4.out,Z4.out⟩
 case round =>
  clear H4 HR2 Q4 Z4 hlen4;obtain ⟨f,s',A,n,c,A',n',c',A'',n'',c'',hrd,hf,HRr,hq,hz⟩:=hrel;rename World=>wr;have HRD:=Qh hrd;have HQ:=Qh hq;have HZ:=Qh hz;have HF:=Qh hf;clear hrd hq hz hf;by_cases hmr:s'.x=0∧s'.toks≠[]
  ·have HMR:=Qh hmr
   clear hmr;go_wp2_with fail;(with_reducible refine (su gr _ gr _ _ _ _ s' HRD.out.rd true (by simp only [HMR.out,and_self,decide_true,ne_eq,not_false_eq_true])).mono ?_);rintro e w5 ⟨rfl,h5,hg5⟩;have H5:=Qh (HRD.out.call h5 hg5 rfl Qr);have B5:=HRD.out.below hg5;clear h5 hg5;go_wp2_with fail;(with_reducible refine (x8 gr _ gr s' A n c A' n' c' A'' n'' c'' H5.out).mono ?_);rintro e w6 ⟨rfl,⟨A5,n5,c5,A6,n6,c6,A7,n7,c7,h6⟩,hb6⟩;have H6:=Qh h6;have B6:=B5.trans hb6;clear h6 hb6;go_wp2_with fail;have hil:=pY s';have hff:=HF.out HMR.out.1;have hst:=lS (f:=f) (by omega) HMR.out;rw [HRr.out] at hst;go_roundw
   case rel=>exact ⟨f - 1,s'.item,_,_,_,_,_,_,_,_,_,H6.out,fun hx=>by have:=hil.2 hx;omega,Qh hst.symm,HQ.out.trans (B6.mono (by omega)),HZ.out.below B6 hz1⟩
   case measure =>
    rw [H6.out.rd.meas,HRD.out.rd.meas,if_pos HMR.out.1];have h8:=hil.1;by_cases hx:s'.item.x=0
    ·have h9:=hil.2 hx
     rw [if_pos hx];omega
    rw [if_neg hx];omega
  have hend:=nD (f:=f) hmr;rw [HRr.out] at hend;subst hend;have HMR:=Qh hmr;clear hmr;go_wp2_with fail;(with_reducible refine (su gr _ gr _ _ _ _ R HRD.out.rd false (decide_eq_false HMR.out)).mono ?_);rintro e w5 ⟨rfl,h5,hg5⟩;have B5:=HRD.out.below hg5;have H5:=Qh (HRD.out.call h5 hg5 rfl Qr);have Q5:=Qh (HQ.out.trans (B5.mono (by omega)));have z5:=HZ.out.below B5 hz1;have Z5:=Qh z5;obtain ⟨D5,m5,d5,hb5,_⟩:=h5.blk;obtain ⟨_,g1,g2,g3,g4,g5⟩:=hb5.c6;have hl5:=h5.lt;obtain ⟨cz0,cz1,cz2,cz3⟩:=z5.c4;obtain ⟨fz0,fz1,fz2,fz3⟩:=z5.f4;have hne:¬ gr=w.heap.size:=by omega
  clear h5 hg5 B5 z5 hb5 HRD HQ HZ HMR HF;rcases HH.out with ⟨hx,rfl,rfl⟩ | ⟨hx,hc,rfl,rfl⟩ | ⟨hx,hc,rfl,rfl⟩
  ·rw [eVp hx] at g5
   have HX:=Qh hx;clear hx;go_wp2_with fail;go_region
   all_goals
    go_wp2_with fail;refine bodyPost_ret (v:=.tuple #[.agg #[.string ⟨#[]⟩,.slice none 0 0,.slice none 0 0,.slice none 0 0],.iface 49 (.int .i64 R.x)]) (by simp [results,Tryz.results15,go_sem, *] <;> trivial) rfl ?_;rw [eVp HX.out];exact ⟨_,_,_,_,_,_,_,_,_,rfl,kT _ _,by first | exact re Q5.out Qr _ _ _ _ | exact re Q5.out.drew Qr _ _ _ _⟩
  ·rw [hx,dE] at g5
   clear hx;have HCK:=Qh hc;clear hc;go_wp2_with fail;(with_reducible refine (sn _ A n c A' n' c' A'' n'' c'' R.L 130 H5.out.lk (by decide) (by decide) _ rfl).mono ?_);rintro e w6 ⟨rfl,hb6⟩;rw [eVp HCK.out];have z6:=Z5.out.below hb6 (by omega);obtain ⟨cy0,cy1,cy2,cy3⟩:=z6.c4;obtain ⟨fy0,fy1,fy2,fy3⟩:=z6.f4;have Q6:=Qh (Q5.out.trans (hb6.mono Q5.out.size));clear hb6 z6 cz0 cz1 cz2 cz3 fz0 fz1 fz2 fz3 g1 g2 g3 g4 g5;go_wp2_with fail;refine bodyPost_ret (v:=.tuple #[.agg #[.string ⟨#[]⟩,.slice none 0 0,.slice none 0 0,.slice none 0 0],.iface 49 (.int .i64 (dh R.L))]) (by simp [results,Tryz.results15,go_sem, *] <;> trivial) rfl ?_;rw [eVp HCK.out];exact ⟨_,_,_,_,_,_,_,_,_,rfl,kT _ _,re Q6.out Qr _ _ _ _⟩
  rw [hx,dE] at g5;clear hx;have HCK:=Qh hc;clear hc;go_wp2_with fail;(with_reducible refine (sn _ A n c A' n' c' A'' n'' c'' R.L 130 H5.out.lk (by decide) (by decide) 0 HCK.out).mono ?_);rintro e w6 ⟨rfl,hb6⟩;rw [dE];have z6:=Z5.out.below hb6 (by omega);obtain ⟨cy0,cy1,cy2,cy3⟩:=z6.c4;obtain ⟨fy0,fy1,fy2,fy3⟩:=z6.f4;have H6:=Qh (H5.out.belw hb6);have Z6:=Qh z6;obtain ⟨k1,k2,k3,k4,_⟩:=H6.out.rd.cells;have Q6:=Qh (Q5.out.trans (hb6.mono Q5.out.size));clear hb6 z6 cz0 cz1 cz2 cz3 fz0 fz1 fz2 fz3 g1 g2 g3 g4 g5;go_wp2_with fail;refine bodyPost_ret (v:=.tuple #[.agg #[ae R.L.name,.slice A n c,.slice A' n' c',.slice A'' n'' c''],.nilIface]) (by simp [results,Tryz.results15,go_sem, *] <;> trivial) rfl ?_;exact ⟨_,_,_,_,_,_,_,_,_,rfl,H6.out.lkA (AW Z6.out ⟨rfl,rfl,rfl,rfl⟩ _ _ _ _),re Q6.out Qr _ _ _ _⟩
theorem l8 (w:World) (s:List UInt8) (x:Int) (L:ao) (hmx:Mx w) (h:ch s x L):Calls Tryz.prog 15 #[ae s] w (rc w (cD x) L):=by
 rcases h with ⟨l,hs,hx,rfl⟩ | ⟨l,hs,hr,hx,rfl⟩ | ⟨l,hs,hr,hc,hx,rfl⟩ | ⟨l,hs,hr,hc,rfl,rfl⟩
 ·exact qe w s x l hs hx
 ·exact gY w s l hmx hs x L0 (.inl ⟨by rw [hr];exact hx,hr.symm,rfl⟩)
 ·exact gY w s l hmx hs x L0 (.inr (.inl ⟨hr,by rw [hc];exact hx,hc.symm,rfl⟩))
 exact gY w s l hmx hs 0 _ (.inr (.inr ⟨hr,hc,rfl,rfl⟩))
noncomputable def we (l:List Tkn):al × PS :=
  let b:=((⟨l,L0,0⟩:PS).expect 0 cY).body
  (b.1,if b.2.x=0∧b.2.toks≠[] then b.2.fail 2 else b.2)
def B0:al:=⟨[],[]⟩
inductive oI (s:List UInt8) (x:Int) (b:al):Prop
  | split (l:List Tkn) (hs:aR s x l) (hx:x≠0) (hb:b=B0)
  | read (l:List Tkn) (hs:aR s 0 l) (hr:(we l).2.x=x) (hx:x≠0) (hb:b=B0)
  | ok (l:List Tkn) (hs:aR s 0 l) (hr:(we l).2.x=0) (hx:x=0) (hb:b=(we l).1)
theorem oI.uniq {s:List UInt8}{x y:Int}{b d:al}(h:oI s x b) (h':oI s y d):x=y∧b=d:=by
 cases h with
 | split l hs hx hL =>
  cases h' with
  | split l' hs' hx' hL'=>exact ⟨(hs.uniq hs').1,by rw [hL,hL']⟩
  | read l' hs' _ _ _=>exact absurd (hs.uniq hs').1 hx
  | ok l' hs' _ _ _=>exact absurd (hs.uniq hs').1 hx
 | read l hs hr hx hL =>
  cases h' with
  | split l' hs' hx' hL'=>exact absurd (hs.uniq hs').1.symm hx'
  | read l' hs' hr' hx' hL' =>
   obtain ⟨_,rfl⟩:=hs.uniq hs';exact ⟨hr.symm.trans hr',by rw [hL,hL']⟩
  | ok l' hs' hr' _ _ =>
   obtain ⟨_,rfl⟩:=hs.uniq hs';exact absurd (hr.symm.trans hr') hx
 | ok l hs hr hx hL =>
  cases h' with
  | split l' hs' hx' hL'=>exact absurd (hs.uniq hs').1.symm hx'
  | read l' hs' hr' hx' hL' =>
   obtain ⟨_,rfl⟩:=hs.uniq hs';exact absurd (hr'.symm.trans hr) hx'
  | ok l' hs' hr' hx' hL' =>
   obtain ⟨_,rfl⟩:=hs.uniq hs';exact ⟨by rw [hx,hx'],by rw [hL,hL']⟩
theorem AX {w:World}{g:Nat}{t:TypeId}{a0 a1:Value}(z:Blk w g t #[a0,a1]) (hz:noW a0=true∧noW a1=true) (u0 u1:Value):Tch (bK t) w ((w.setCell ⟨g,0,none⟩ u0).setCell ⟨g,1,none⟩ u1) :=
 Tch.of_ne (by simp [World.setCell]) z (by simp [bK]) (by simp [hz]) fun g' _ hne=>by
  rw [Below.heap_setCell _ _ _ _ hne,Below.heap_setCell _ _ _ _ hne]
theorem BB {B g:Nat}{a w:World}(h:Below B a w) (hB:B≤g) (u0 u1:Value):Below B a ((w.setCell ⟨g,0,none⟩ u0).setCell ⟨g,1,none⟩ u1):=(h.setCell (p:=⟨g,0,none⟩) hB u0).setCell (p:=⟨g,1,none⟩) hB u1
/-! The tokens of a linkage. -/
def jV (m:aq):List (Nat × List UInt8):=[(0,m.name),(1,bg m.x.q),(1,bg m.y.q),(2,[59])]
def ma (b:al):List (Nat × List UInt8):=(0,cY) :: (0,b.name) :: (2,[123]) :: (b.pts.flatMap jV ++ [(2,[125])])
def mb (bs:List al) (i j:Int):List (Nat × List UInt8):=match bs[i.toNat]? with
  | some b=>(match b.pts[j.toNat]? with | some m=>[(0,b.name),(2,[46]),(0,m.name)] | none=>[])
  | none=>[]
def ji (bs:List al) (j:aN):List (Nat × List UInt8) :=
  (0,if j.kind=1 then cZ else gh) :: (0,j.name) :: (mb bs j.a j.point ++ (mb bs j.b j.on ++ ((if j.kind=1 then mb bs j.b j.to_ else []) ++ [(2,[59])])))
def gk (bs:List al) (d:bc):List (Nat × List UInt8):=[(0,cI),(0,d.name),(0,rY bs d.body),(2,[59])]
def mc (L:ao):List (Nat × List UInt8):=(0,aJ) :: (0,L.name) :: (2,[59]) :: (L.bodies.flatMap ma ++ (L.joints.flatMap (ji L.bodies) ++ L.drivers.flatMap (gk L.bodies)))
theorem sx {bs:List al}{i j:Nat}{b:al}{m:aq}(hb:bs[i]?=some b) (hm:b.pts[j]?=some m):mb bs (i:Nat) (j:Nat)=[(0,b.name),(2,[46]),(0,m.name)]:=by
 unfold mb;show (match bs[i]? with | some b=>(match b.pts[j]? with | some m=>[(0,b.name),(2,[46]),(0,m.name)] | none=>[]) | none=>[])=_;rw [hb];show (match b.pts[j]? with | some m=>[(0,b.name),(2,[46]),(0,m.name)] | none=>[])=_;rw [hm]
/-! Splitting. -/
theorem gH {p:UInt8→Prop}{c:UInt8}{t:List UInt8}(h:p c):∀ c' t',c :: t=c' :: t'→p c':=fun c' t' e=>by injection e with e _;subst e;exact h
def MkN (m:aq):Prop:=(bg m.x.q).length≤60∧(bg m.y.q).length≤60
theorem Spl.mark {m:aq}{s:List UInt8}{K:List (Nat × List UInt8)}(hm:aP m.name=true) (hn:MkN m) (h:Spl s K):Spl (gS m ++ s) (jV m ++ K):=by
 unfold gS jV;simp only [List.cons_append,List.append_assoc,List.nil_append];exact .blank (.word hm (gH (by decide)) (.blank (.num hn.1 (gH (.inl rfl)) (.blank (.num hn.2 (gH (.inr rfl)) (.sign (by decide) h))))))
theorem Spl.marks {s:List UInt8}{K:List (Nat × List UInt8)}(h:Spl s K):∀ {l:List aq},(∀ m∈l,aP m.name=true∧MkN m)→Spl (l.flatMap gS ++ s) (l.flatMap jV ++ K)
 | [],_=>h
 | m :: l,hl=>by
  rw [List.flatMap_cons,List.flatMap_cons,List.append_assoc,List.append_assoc];have:=hl m (by simp);exact .mark this.1 this.2 (Spl.marks h fun x hx=>hl x (by simp [hx]))
theorem Spl.body {b:al}{s:List UInt8}{K:List (Nat × List UInt8)}(hb:aP b.name=true) (hp:∀ m∈b.pts,aP m.name=true∧MkN m) (h:Spl s K):Spl (pU b ++ s) (ma b ++ K):=by
 unfold pU ma;simp only [List.cons_append,List.append_assoc,List.nil_append];have hm:Spl (b.pts.flatMap gS ++ 32 :: 125 :: s) (b.pts.flatMap jV ++ (2,[125]) :: K):=Spl.marks (.blank (.sign (by decide) h)) hp;exact Spl.word (x:=cY) (by decide) (gH (by decide)) (.blank (.word hb (gH (by decide)) (.blank (.sign (by decide) hm))))
theorem Spl.full {bs:List al}{i j:Nat}{b:al}{m:aq}(hb:bs[i]?=some b) (hm:b.pts[j]?=some m) (n1:aP b.name=true) (n2:aP m.name=true) {s:List UInt8}{K:List (Nat × List UInt8)}(hs:∀ c t,s=c :: t→aM c=false) (h:Spl s K):Spl (kB bs (i:Nat) (j:Nat) ++ s) (mb bs (i:Nat) (j:Nat) ++ K):=by
 rw [xQ hb hm,sx hb hm];simp only [List.cons_append,List.append_assoc,List.nil_append];exact .word n1 (gH (by decide)) (.sign (by decide) (.word n2 hs h))
theorem Spl.joint {bs:List al}(hB:∀ b∈bs,BdF b) {j:aN}(hn:aP j.name=true) (hj:kP bs j) {s:List UInt8}{K:List (Nat × List UInt8)}(h:Spl s K):Spl (nA bs j ++ s) (ji bs j ++ K):=by
 obtain ⟨_,a,b,p,o,x,y,m1,m2,ea,eb,ep,eo,hx,hy,hm1,hm2,hk⟩:=hj;have bx:=hB x (List.mem_of_getElem? hx);have by_:=hB y (List.mem_of_getElem? hy);have n1:=(bx.pts m1 (List.mem_of_getElem? hm1)).name;have n2:=(by_.pts m2 (List.mem_of_getElem? hm2)).name;unfold nA ji lN;rcases hk with ⟨k0,_⟩ | ⟨k1,t,m3,et,hm3⟩
 ·rw [if_neg (by omega),if_neg (by omega),if_neg (by omega),ea,eb,ep,eo]
  simp only [rU,List.cons_append,List.append_assoc,List.nil_append];exact Spl.word (x:=gh) (by decide) (gH (by decide)) (.blank (.word hn (gH (by decide)) (.blank (.full hx hm1 bx.name n1 (gH (by decide)) (.blank (.full hy hm2 by_.name n2 (gH (by decide)) (.sign (by decide) (.line h))))))))
 have n3:=(by_.pts m3 (List.mem_of_getElem? hm3)).name;rw [if_pos k1,if_pos k1,if_pos k1,ea,eb,ep,eo,et];simp only [rU,List.cons_append,List.append_assoc,List.nil_append];exact Spl.word (x:=cZ) (by decide) (gH (by decide)) (.blank (.word hn (gH (by decide)) (.blank (.full hx hm1 bx.name n1 (gH (by decide)) (.blank (.full hy hm2 by_.name n2 (gH (by decide)) (.blank (.full hy hm3 by_.name n3 (gH (by decide)) (.sign (by decide) (.line h))))))))))
theorem Spl.driver {bs:List al}(hB:∀ b∈bs,BdF b) {d:bc}(hn:aP d.name=true) (hd:jO bs d) {s:List UInt8}{K:List (Nat × List UInt8)}(h:Spl s K):Spl (lO bs d ++ s) (gk bs d ++ K):=by
 obtain ⟨_,i,b,ei,hb⟩:=hd;have bb:=hB b (List.mem_of_getElem? hb);unfold lO gk;rw [ei,rZ hb];simp only [List.cons_append,List.append_assoc,List.nil_append];exact Spl.word (x:=cI) (by decide) (gH (by decide)) (.blank (.word hn (gH (by decide)) (.blank (.word bb.name (gH (by decide)) (.sign (by decide) (.line h))))))
theorem Spl.list {α:Type}{f:α→List UInt8}{g:α→List (Nat × List UInt8)}{s:List UInt8}{K:List (Nat × List UInt8)}(h:Spl s K):∀ {l:List α},(∀ a∈l,∀ s K,Spl s K→Spl (f a ++ s) (g a ++ K))→Spl (l.flatMap f ++ s) (l.flatMap g ++ K)
 | [],_=>h
 | a :: l,hl=>by
  rw [List.flatMap_cons,List.flatMap_cons,List.append_assoc,List.append_assoc];exact hl a (by simp) _ _ (Spl.list h fun x hx=>hl x (by simp [hx]))
theorem wg {l:List al}(h:rX l≠true):∀ b∈l,∀ m∈b.pts,MkN m:=by
 intro b hb m hm
 have h1:¬ vL m=true:=fun h2=>h (by
  unfold rX;rw [List.any_eq_true]
  exact ⟨b,hb,List.any_eq_true.2 ⟨m,hm,h2⟩⟩)
 unfold vL at h1;simp only [Bool.or_eq_true,decide_eq_true_eq,not_or] at h1;exact ⟨by omega,by omega⟩
theorem Spl.out {s:List UInt8}{K:List (Nat × List UInt8)}(h:Spl s K) (hl:s.length≤65536):∃ l,aR s 0 l∧kt l=K:=by
 have h1:=h 1 1;have e:tk s 1 1=dC s:=rfl;rw [e] at h1
 cases ht:dC s with
 | err x=>rw [ht] at h1;cases h1
 | ok l =>
  rw [ht] at h1;injection h1 with h1;exact ⟨l,.ok hl ht rfl,h1⟩
/-! Reading. -/
theorem AtK.mark {s:PS}{m:aq}{K:List (Nat × List UInt8)}{L:ao}(h:AtK s (jV m ++ K) L) (hn:MkN m) (hF:MkF m) (hW:MkW m):s.mark.1=m∧AtK s.mark.2 K L:=by
 obtain ⟨e1,h1⟩:=AtK.word h;obtain ⟨vx,vq⟩:=si hn.1;obtain ⟨wx,wq⟩:=si hn.2;obtain ⟨e2,h2⟩:=h1.number vx;obtain ⟨e3,h3⟩:=h2.number wx;unfold PS.mark;refine ⟨?_,h3.expect⟩;rw [e1,e2,e3,vq,wq,jl hW.1.1 hW.1.2 hF.x,jl hW.2.1 hW.2.2 hF.y]
theorem AtK.marks:∀ {l:List aq}{f:Nat}{s:PS}{p:List aq}{K:List (Nat × List UInt8)}{L:ao},(∀ m∈l,MkN m∧MkF m∧MkW m)→l.length < f→AtK s (l.flatMap jV ++ (2,[125]) :: K) L→(PS.marks f s p).1=p ++ l∧AtK (PS.marks f s p).2 K L
 | [],f,s,p,K,L,_,hf,h=>by
  have hs:s.signHead=true:=by
   obtain ⟨u,r,e,e1,_,_⟩:=AtK.head (k:=2) (t:=[125]) (K:=K) h;unfold PS.signHead;rw [e];show (u.kind == 2)=true;rw [e1];rfl
  rw [fV (by omega) h.x hs];exact ⟨by simp,AtK.expect h⟩
 | m :: l,f,s,p,K,L,hl,hf,h=>by
  rw [List.flatMap_cons,List.append_assoc] at h
  have hs:s.signHead=false:=by
   obtain ⟨u,r,e,e1,_,_⟩:=AtK.head (k:=0) (t:=m.name) h;unfold PS.signHead;rw [e];show (u.kind == 2)=false;rw [e1];rfl
  rw [List.length_cons] at hf;rw [dm (by omega) h.x hs];obtain ⟨h1,h2,h3⟩:=hl m (by simp);obtain ⟨e1,h4⟩:=AtK.mark h h1 h2 h3;obtain ⟨e2,h5⟩:=AtK.marks (l:=l) (f:=f - 1) (p:=p ++ [s.mark.1]) (fun x hx=>hl x (by simp [hx])) (by omega) h4;refine ⟨?_,h5⟩;rw [e2,e1];simp
theorem rf (l:List Tkn):(kt l).length=l.length:=by unfold kt;simp
theorem me:∀ (l:List aq),l.length≤(l.flatMap jV).length
 | []=>by simp
 | m :: l=>by
  have:=me l;rw [List.flatMap_cons,List.length_append,List.length_cons];show _≤4+_;omega
theorem AtK.body {s:PS}{b:al}{K:List (Nat × List UInt8)}{L:ao}(h:AtK s ((0,b.name) :: (2,[123]) :: (b.pts.flatMap jV ++ (2,[125]) :: K)) L) (hb:∀ m∈b.pts,MkN m∧MkF m∧MkW m):s.body.1=b∧AtK s.body.2 K L:=by
 have hlen:b.pts.length < s.toks.length+1:=by
  have h1:=congrArg List.length h.k;rw [rf] at h1;have:=me b.pts;simp only [List.length_cons,List.length_append] at h1;omega
 obtain ⟨e1,h1⟩:=h.word;obtain ⟨e2,h2⟩:=AtK.marks (p:=[]) hb hlen h1.expect;refine ⟨?_,h2⟩;show (⟨s.word.1,(PS.marks (s.toks.length+1) (s.word.2.expect 2 [123]) []).1⟩:al)=b;rw [e1,e2];rfl
theorem iL {α:Type}{nm:α→List UInt8}{l:List α}(hd:∀ {i j:Nat}{a b:α},l[i]?=some a→l[j]?=some b→nm a=nm b→i=j) {i:Nat}{a:α}(ha:l[i]?=some a):l.findIdx? (fun b=>nm b == nm a)=some i:=by
 obtain ⟨hi,e⟩:=List.getElem?_eq_some_iff.1 ha;rw [List.findIdx?_eq_some_iff_getElem];refine ⟨hi,by rw [e];simp,fun j hj=>?_⟩;intro h;have h2:nm l[j]=nm a:=by simpa using h
 have:=hd (List.getElem?_eq_getElem (by omega:j < l.length)) ha h2;omega
theorem AtK.named {s:PS}{K:List (Nat × List UInt8)}{L:ao}{nm:List UInt8}{i:Nat}{only:Int}(h:AtK s ((0,nm) :: K) L) (hf:findB L.bodies nm=some i) (ho:only < 0∨only=(i:Int)):(s.named only).1=(i:Int)∧AtK (s.named only).2 K L:=by
 obtain ⟨e1,h1⟩:=h.word;unfold PS.named;simp only;rw [if_neg (by rw [h1.x];simp),e1,h1.l,hf];show (i:Int)=(i:Int)∧AtK (if 0≤only∧(i:Int)≠only then s.word.2.fail 7 else s.word.2) K L;rw [if_neg (by rcases ho with h | h;omega;rw [h];simp)];exact ⟨rfl,h1⟩
theorem AtK.full {s:PS}{K:List (Nat × List UInt8)}{L:ao}{i j:Nat}{b:al}{m:aq}{only:Int}(hb:L.bodies[i]?=some b) (hm:b.pts[j]?=some m) (h:AtK s (mb L.bodies (i:Nat) (j:Nat) ++ K) L) (hf:findB L.bodies b.name=some i) (hg:findM b.pts m.name=some j) (ho:only < 0∨only=(i:Int)):(s.full only).1=(i:Int)∧(s.full only).2.1=(j:Int)∧AtK (s.full only).2.2 K L:=by
 rw [sx hb hm] at h;obtain ⟨e1,h1⟩:=AtK.named (K:=(2,[46]) :: (0,m.name) :: K) h hf ho;obtain ⟨e2,h2⟩:=h1.expect.word;unfold PS.full;simp only;rw [if_neg (by rw [h2.x];simp),e1,e2,h2.l,kQ (n:=i) rfl hb,hg];exact ⟨rfl,rfl,h2⟩
theorem AtK.addJ {s:PS}{K:List (Nat × List UInt8)}{L:ao}(h:AtK s K L) (j:aN):AtK (s.addJ j) K { L with joints:=L.joints ++ [j] }:=⟨h.x,h.k,by
 show ({ s.L with joints:=s.L.joints ++ [j] }:ao)=_
 rw [h.l]⟩
theorem AtK.joint {s:PS}{K:List (Nat × List UInt8)}{L:ao}(hB:∀ b∈L.bodies,BdF b) (hd:∀ {i j:Nat}{a b:al},L.bodies[i]?=some a→L.bodies[j]?=some b→a.name=b.name→i=j) {j:aN}(hj:kP L.bodies j) (h:AtK s (ji L.bodies j ++ K) L):AtK s.item K { L with joints:=L.joints ++ [j] }:=by
 obtain ⟨_,a,b,p,o,x,y,m1,m2,ea,eb,ep,eo,hx,hy,hm1,hm2,hk⟩:=hj;have bx:=hB x (List.mem_of_getElem? hx);have by_:=hB y (List.mem_of_getElem? hy);have fx:findB L.bodies x.name=some a:=iL (nm:=al.name) hd hx;have fy:findB L.bodies y.name=some b:=iL (nm:=al.name) hd hy;have g1:findM x.pts m1.name=some p:=iL (nm:=aq.name) bx.dist hm1;have g2:findM y.pts m2.name=some o:=iL (nm:=aq.name) by_.dist hm2;unfold ji at h;rcases hk with ⟨k0,t0⟩ | ⟨k1,t,m3,et,hm3⟩
 ·rw [if_neg (by omega),if_neg (by omega),ea,eb,ep,eo] at h
  simp only [List.cons_append,List.append_assoc,List.nil_append] at h;obtain ⟨e0,h0⟩:=h.word;obtain ⟨e1,h1⟩:=h0.word;obtain ⟨e2,e3,h2⟩:=AtK.full (only:=-1) hx hm1 h1 fx g1 (.inl (by decide));obtain ⟨e4,e5,h3⟩:=AtK.full (only:=-1) hy hm2 h2 fy g2 (.inl (by decide));unfold PS.item;simp only;rw [e0,if_neg (by decide),if_pos rfl];unfold PS.joint;simp only [Bool.false_eq_true,if_false]
  have hj:(⟨j.name,0,(a:Int),(p:Int),(b:Int),(o:Int),0⟩:aN)=j:=by
   obtain ⟨jn,jk,ja,jp,jb,jo,jt⟩:=j;simp only at ea eb ep eo k0 t0;subst ea eb ep eo k0 t0;rfl
  rw [e1,e2,e3,e4,e5,hj];exact h3.expect.addJ j
 have g3:findM y.pts m3.name=some t:=iL (nm:=aq.name) by_.dist hm3;rw [if_pos k1,if_pos k1,ea,eb,ep,eo,et] at h;simp only [List.cons_append,List.append_assoc,List.nil_append] at h;obtain ⟨e0,h0⟩:=h.word;obtain ⟨e1,h1⟩:=h0.word;obtain ⟨e2,e3,h2⟩:=AtK.full (only:=-1) hx hm1 h1 fx g1 (.inl (by decide));obtain ⟨e4,e5,h3⟩:=AtK.full (only:=-1) hy hm2 h2 fy g2 (.inl (by decide));obtain ⟨e6,e7,h4⟩:=AtK.full (only:=(b:Int)) hy hm3 h3 fy g3 (.inr rfl);unfold PS.item;simp only;rw [e0,if_neg (by decide),if_neg (by decide),if_pos rfl];unfold PS.joint;simp only [if_true]
 have hj:(⟨j.name,1,(a:Int),(p:Int),(b:Int),(o:Int),(t:Int)⟩:aN)=j:=by
  obtain ⟨jn,jk,ja,jp,jb,jo,jt⟩:=j;simp only at ea eb ep eo k1 et;subst ea eb ep eo k1 et;rfl
 rw [e4,e1,e2,e3,e5,e7,hj];exact h4.expect.addJ j
theorem AtK.driver {s:PS}{K:List (Nat × List UInt8)}{L:ao}(hd:∀ {i j:Nat}{a b:al},L.bodies[i]?=some a→L.bodies[j]?=some b→a.name=b.name→i=j) {d:bc}(hj:jO L.bodies d) (h:AtK s (gk L.bodies d ++ K) L):AtK s.item K { L with drivers:=L.drivers ++ [d] }:=by
 obtain ⟨_,i,b,ei,hb⟩:=hj;have fb:findB L.bodies b.name=some i:=iL (nm:=al.name) hd hb;unfold gk at h;rw [ei,rZ hb] at h;simp only [List.cons_append,List.nil_append] at h;obtain ⟨e0,h0⟩:=h.word;obtain ⟨e1,h1⟩:=h0.word;obtain ⟨e2,h2⟩:=AtK.named (only:=-1) h1 fb (.inl (by decide));unfold PS.item;simp only;rw [e0,if_neg (by decide),if_neg (by decide),if_neg (by decide),if_pos rfl];unfold PS.driver;simp only;refine ⟨h2.expect.x,h2.expect.k,?_⟩;show ({ (PS.expect _ 2 [59]).L with drivers:=_ }:ao)=_;rw [h2.expect.l,e1,e2];obtain ⟨dn,db⟩:=d;simp only at ei;subst ei;rfl
theorem AtK.bodyI {s:PS}{K:List (Nat × List UInt8)}{L:ao}{b:al}(hb:∀ m∈b.pts,MkN m∧MkF m∧MkW m) (h:AtK s (ma b ++ K) L):AtK s.item K { L with bodies:=L.bodies ++ [b] }:=by
 unfold ma at h;simp only [List.cons_append,List.append_assoc,List.nil_append] at h;obtain ⟨e0,h0⟩:=h.word;obtain ⟨e1,h1⟩:=AtK.body h0 hb;unfold PS.item;simp only;rw [e0,if_pos rfl];refine ⟨h1.x,h1.k,?_⟩;show ({ s.word.2.body.2.L with bodies:=_ }:ao)=_;rw [h1.l,e1]
def jj (s:PS) (L:ao):Prop:=∀ f,s.toks.length < f→(PS.items f s).x=0∧(PS.items f s).L=L
theorem jj.nil {s:PS}{L:ao}(h:AtK s [] L):jj s L:=fun f _=>by
 have e:s.toks=[]:=List.eq_nil_of_length_eq_zero (by have:=congrArg List.length h.k;rw [rf] at this;simpa using this);rw [nD (by rw [e];simp)];exact ⟨h.x,h.l⟩
theorem jj.step {s:PS}{p:Nat × List UInt8}{K K':List (Nat × List UInt8)}{M M' L:ao}(h:AtK s (p :: K) M) (h':AtK s.item K' M') (k:jj s.item L):jj s L:=fun f hf=>by
 obtain ⟨u,r,e,_,_,_⟩:=AtK.head (k:=p.1) (t:=p.2) h;have h1:=(pY s).2 h'.x;rw [lS (by omega) ⟨h.x,by rw [e];simp⟩];exact k _ (by omega)
theorem jj.list {α:Type}{g:α→List (Nat × List UInt8)}(add:ao→α→ao) (P:ao→Prop) {K:List (Nat × List UInt8)}{L:ao}:∀ (l:List α) (s:PS) (M:ao),(∀ a∈l,∃ p q,g a=p :: q)→(∀ a∈l,∀ s K M,P M→AtK s (g a ++ K) M→AtK s.item K (add M a)∧P (add M a))→P M→(∀ s,AtK s K (l.foldl add M)→P (l.foldl add M)→jj s L)→AtK s (l.flatMap g ++ K) M→jj s L
 | [],s,M,_,_,hp,hk,h=>hk s h hp
 | a :: l,s,M,hne,hs,hp,hk,h=>by
  rw [List.flatMap_cons,List.append_assoc] at h;obtain ⟨h1,h2⟩:=hs a (by simp) s _ M hp h;obtain ⟨p,q,e⟩:=hne a (by simp);rw [e,List.cons_append] at h;exact jj.step h h1 (jj.list add P l s.item (add M a) (fun x hx=>hne x (by simp [hx])) (fun x hx=>hs x (by simp [hx])) h2 hk h1)
theorem zO (l:List al):∀ M:ao,l.foldl (fun M b=>{ M with bodies:=M.bodies ++ [b] }) M={ M with bodies:=M.bodies ++ l }:=by
 induction l with
 | nil=>intro M;simp
 | cons a l ih=>intro M;rw [List.foldl_cons,ih];simp
theorem zP (l:List aN):∀ M:ao,l.foldl (fun M b=>{ M with joints:=M.joints ++ [b] }) M={ M with joints:=M.joints ++ l }:=by
 induction l with
 | nil=>intro M;simp
 | cons a l ih=>intro M;rw [List.foldl_cons,ih];simp
theorem zQ (l:List bc):∀ M:ao,l.foldl (fun M b=>{ M with drivers:=M.drivers ++ [b] }) M={ M with drivers:=M.drivers ++ l }:=by
 induction l with
 | nil=>intro M;simp
 | cons a l ih=>intro M;rw [List.foldl_cons,ih];simp
theorem tR {l:List Tkn}{L:ao}(hk:kt l=mc L) (hF:LkF L) (hW:LkW L) (h60:rX L.bodies≠true):(cN l).x=0∧(cN l).L=L:=by
 have hN:=wg h60;have h0:AtK (⟨l,L0,0⟩:PS) (mc L) L0:=⟨rfl,hk,rfl⟩;unfold mc at h0;obtain ⟨e1,h1⟩:=h0.expect.word;unfold cN;simp only
 have h2:AtK ({ (((⟨l,L0,0⟩:PS).expect 0 aJ).word.2) with L:={ (((⟨l,L0,0⟩:PS).expect 0 aJ).word.2).L with name:=(((⟨l,L0,0⟩:PS).expect 0 aJ).word.1) } }:PS) ((2,[59]) :: (L.bodies.flatMap ma ++ (L.joints.flatMap (ji L.bodies) ++ L.drivers.flatMap (gk L.bodies)))) ⟨L.name,[],[],[]⟩:=⟨h1.x,h1.k,by
  show ({ (((⟨l,L0,0⟩:PS).expect 0 aJ).word.2).L with name:=(((⟨l,L0,0⟩:PS).expect 0 aJ).word.1) }:ao)=_
  rw [h1.l,e1];rfl⟩
 have h3:=h2.expect
 have hl:(({ (((⟨l,L0,0⟩:PS).expect 0 aJ).word.2) with L:={ (((⟨l,L0,0⟩:PS).expect 0 aJ).word.2).L with name:=(((⟨l,L0,0⟩:PS).expect 0 aJ).word.1) } }:PS).expect 2 [59]).toks.length < l.length+1:=by
  have a1:=congrArg List.length h3.k;have a2:=congrArg List.length hk;unfold mc at a2;rw [rf] at a1 a2;rw [a1,a2];simp only [List.length_cons];omega
 generalize ({ (((⟨l,L0,0⟩:PS).expect 0 aJ).word.2) with L:={ (((⟨l,L0,0⟩:PS).expect 0 aJ).word.2).L with name:=(((⟨l,L0,0⟩:PS).expect 0 aJ).word.1) } }:PS).expect 2 [59]=s at h3 hl ⊢
 have key:jj s L:=by
  refine jj.list (g:=ma) (fun M b=>{ M with bodies:=M.bodies ++ [b] }) (fun _=>True) L.bodies s _ (fun b _=>⟨_,_,rfl⟩) (fun b hb s K M _ h=>⟨AtK.bodyI (fun m hm=>⟨hN b hb m hm,(hF.body b hb).pts m hm,hW b hb m hm⟩) h,trivial⟩) trivial (fun s h _=>?_) h3;rw [zO,List.nil_append] at h;refine jj.list (g:=ji L.bodies) (fun M b=>{ M with joints:=M.joints ++ [b] }) (fun M=>M.bodies=L.bodies) L.joints s ⟨L.name,L.bodies,[],[]⟩ (fun b _=>⟨_,_,rfl⟩) (fun j hj s K M hM h=>⟨?_,hM⟩) rfl (fun s h hM=>?_) h
  ·rw [← hM] at h
   exact AtK.joint (by rw [hM];exact hF.body) (by rw [hM];exact hF.dist) (by rw [hM];exact hF.ok.joint j hj) h
  rw [zP,List.nil_append] at h;rw [← List.append_nil (L.drivers.flatMap _)] at h;refine jj.list (g:=gk L.bodies) (fun M b=>{ M with drivers:=M.drivers ++ [b] }) (fun M=>M.bodies=L.bodies) L.drivers s ⟨L.name,L.bodies,L.joints,[]⟩ (fun b _=>⟨_,_,rfl⟩) (fun d hd s K M hM h=>⟨?_,hM⟩) rfl (fun s h _=>?_) h
  ·rw [← hM] at h
   exact AtK.driver (by rw [hM];exact hF.dist) (by rw [hM];exact hF.ok.driver d hd) h
  rw [zQ,List.nil_append] at h;exact jj.nil h
 exact key _ hl
def plT (t:Tkn):Tkn:=⟨t.kind,t.text,0,0⟩
def PS.st (s:PS):PS:={ s with toks:=s.toks.map plT }
theorem kg.nm {b:al}(h:kg b):b.name.length≤1000:=by have:=h.1;omega
theorem kg.np {b:al}(h:kg b):b.pts.length≤8:=h.2.1
theorem Blk.strs {w:World}{g t:Nat}{l:List (List UInt8)}(h:Blk w g t (lU l).toArray) (k:Nat) (x:List UInt8) (hx:l[k]?=some x):w.cell? ⟨g,k,none⟩=some (ae x):=by
 rw [h.cell k,List.getElem?_toArray];unfold lU;rw [List.getElem?_map,hx];rfl
theorem Blk.owns {w:World}{base g t n:Nat}{l:List (List UInt8)}(h:Blk w g t (lU l).toArray) (hb:base≤g) (hl:l.length=n) (hn:n≤1000):w.ownsRow base t 1 (.slice (some ⟨g,0,none⟩) n n) n (lU l):=by
 subst hl;exact ⟨by simp [lU],.inr ⟨g,_,_,rfl,hb,h,Qr,by unfold maxLen;omega,by simp [lU],by rw [List.take_of_length_le (by simp [lU])]⟩⟩
theorem zR (w:World) (i:Int) (n:Nat) (v:Bool) (hv:inI i n=v):Calls Tryz.prog 94 #[.int .i64 i,.int .i64 (n:Nat)] w (fun e w'=>e=.returned (.bool v)∧w'=w):=by
 subst hv;by_cases h1:0≤i
 ·by_cases h2:i < (n:Int)
  ·have e:inI i n=true:=by unfold inI;simp [h1,h2]
   rw [e];have f1:(0≤i)=True:=eq_true h1;have f2:(i < (n:Int))=True:=eq_true h2;go_in;go_wp2;go_ret;exact ⟨rfl,rfl⟩
  have e:inI i n=false:=by unfold inI;simp [h2]
  rw [e];have f1:(0≤i)=True:=eq_true h1;have f2:(i < (n:Int))=False:=eq_false h2;go_in;go_wp2;go_ret;exact ⟨rfl,rfl⟩
 have e:inI i n=false:=by unfold inI;simp [h1]
 rw [e];have f1:(0≤i)=False:=eq_false h1;go_in;go_wp2;go_ret;exact ⟨rfl,rfl⟩
theorem mF (w:World) (i:Int) (n:Nat) (v:Bool) (hv:inI i n=v):Calls Tryz.prog 94 #[.int .i64 i,.int .i64 (n:Nat)] w (av w (.bool v)):=(zR w i n v hv).mono fun _ _ ⟨h1,h2⟩=>⟨h1,h2 ▸ aa _⟩
theorem wi (w:World) (A:Option Addr) (n c:Nat) (b:al) (k:Nat) (h:SlS (eN k) 7 w A n c b.pts) (hk:k≤300000000) (x:Int) (hx:(if 8 < b.pts.length then 4 else bq bk [] b.pts)=x):Calls Tryz.prog 93 #[.agg #[ae b.name,.slice A n c]] w (av w (.int .i64 x)):=by
 have hln:=h.1;by_cases h8:8 < n
 ·have f8:((8:Int) < (n:Int))=True:=eq_true (by omega)
  have h4:x=4:=by rw [← hx,if_pos (by rw [hln];exact h8)]
  clear hln;go_in;go_wp2;go_ret;exact ⟨by rw [h4];rfl,(aa w).alloc Qr _⟩
 have f8:((8:Int) < (n:Int))=False:=eq_false (by omega);have hbd:n≤8:=by omega
 rw [if_neg (by rw [hln];exact h8)] at hx;have hnc:=h.2.1;have HX:=Qh (cX hx);have HLN:=Qh hln;clear hx hln h8;go_in;go_wp2_with fail;go_loopw [3] (fun iv wr=>∃ i:Nat,iv=.int .i64 (i:Nat)∧i≤n∧Hid (bq bk (b.pts.take i) (b.pts.drop i)=x)∧Blk wr w.heap.size 62 #[ae b.name,.slice A n c]∧Below w.heap.size w wr) (fun iv _=>n - (intOf iv).toNat)
 case atStart=>exact ⟨0,rfl,Nat.zero_le _,HX,ah _ _ _ (by simp),(aa w).alloc Qr _⟩
 case round =>
  clear HX;obtain ⟨p,rfl,hp,HP,xB,hb3⟩:=hrel;rename World=>w3;obtain ⟨cB0,cB1⟩:=xB.c2;have hlB:w.heap.size < w3.heap.size:=xB.lt;rcases Nat.lt_or_ge p n with hpl | hpg
  ·have hp1:((p:Int) < (n:Int))=True:=by simp;omega
   have HM3:=Qh (h.mk_ hb3);obtain ⟨g',o',m,e,hg',_,hmp,hMk⟩:=HM3.out.at_ hpl;subst e;have hst:=du HP.out hmp;obtain ⟨d0,⟨b1,A1,n1,c1,D1,m1,e1,d1,d2,d3,hQ1⟩,⟨b2,A2,n2,c2,D2,m2,e2,d4,d5,d6,hQ2⟩,hmn⟩:=hMk;have d2:w3.cell? ⟨g',o'+p * 7+2,none⟩=some (.slice A1 n1 c1):=d2;have d3:w3.cell? ⟨g',o'+p * 7+3,none⟩=some (.slice D1 m1 e1):=d3;have d5:w3.cell? ⟨g',o'+p * 7+5,none⟩=some (.slice A2 n2 c2):=d5;have d6:w3.cell? ⟨g',o'+p * 7+6,none⟩=some (.slice D2 m2 e2):=d6;have HST:=Qh hst;have HQ1:=Qh hQ1;have HQ2:=Qh hQ2;have HMN:=Qh hmn;have hpn:((p:Int) < (n:Int)):=by omega
   obtain ⟨v,hv⟩:∃ v,aP m.name=v:=⟨_,rfl⟩;have HV:=Qh hv;clear hst hQ1 hQ2 hmn hmp hv h HP;go_wp2_with fail;(with_reducible refine (lL _ m.name HMN.out v HV.out).mono ?_);rintro e w4 ⟨rfl,hb4⟩;have q4:=hb4.q1;have x4:Blk w4 w3.heap.size 67 #[ae m.name,.bool b1,.slice A1 n1 c1,.slice D1 m1 e1,.bool b2,.slice A2 n2 c2,.slice D2 m2 e2]:=(ah _ _ _ (by simp)).below hb4 (by simp);have xB4:=xB.below q4 xB.lt;have bw4:=hb3.trans (q4.mono hb3.size);clear hb4 d0 d1 d2 d3 d4 d5 d6 cB0 cB1
   have hxz:∀ z:Int,z≠0→bk (b.pts.take p) m=z→x=z:=fun z hz hm=>by
    rcases HST.out with ⟨u,_⟩ | ⟨_,u⟩
    ·exact absurd (hm.symm.trans u) hz
    exact u.symm.trans hm
   have HXZ:=Qh hxz;clear hxz;cases v
   ·have h5:x=5:=HXZ.out 5 (by decide) (if_pos HV.out)
    go_wp2;go_ret;exact ⟨by rw [h5];rfl,bw4⟩
   go_wp2_with fail;go_loopw [5] (fun jv wr=>∃ r:Nat,jv=.int .i64 (r:Nat)∧r≤p∧Hid (twN ((b.pts.take r).map aq.name) m.name=false)∧Below w4.heap.size w4 wr) (fun jv _=>p - (intOf jv).toNat)
   case atStart=>exact ⟨0,rfl,Nat.zero_le _,Qh rfl,aa w4⟩
   case round =>
    obtain ⟨r,rfl,hr,HT,hb5⟩:=hrel;rename World=>w5;have x5:=x4.below hb5 x4.lt;have xB5:=xB4.below hb5 xB4.lt;have bw5:=bw4.trans (hb5.mono bw4.size);have cD0:=x5.cell 0;rcases Nat.lt_or_ge r p with hrl | hrg
    ·have hr1:((r:Int) < (p:Int))=True:=by simp;omega
     have hrn:r < n:=by omega
     obtain ⟨a,ha,hA⟩:=((HM3.out.mk_ q4).mk_ hb5).rowAt hrn;obtain ⟨d0,_,_,_⟩:=hA;obtain ⟨cB0,cB1⟩:=xB5.c2;have hrn2:((r:Int) < (n:Int)):=by omega
     have htl:=az m.name;by_cases heq:a.name=m.name
     ·have h6:x=6:=HXZ.out 6 (by decide) (by
       unfold bk
       rw [HV.out,if_neg (by decide),if_pos (dU ha hrl heq)])
      rw [heq] at d0;have hee:(m.name == m.name)=true:=by simp
      clear heq ha;go_wp2_with fail;go_quiet (fail);go_wp2;go_ret;exact ⟨by rw [h6];rfl,af bw5 _⟩
     have hta:=az a.name;have HT2:=Qh (eC ha HT.out heq);have hee:(a.name == m.name)=false:=beq_eq_false_iff_ne.2 heq;clear heq ha HT;go_wp2_with fail;go_quiet (fail);go_wp2_with fail;go_roundw
     case rel=>exact ⟨r+1,by go_num,by omega,HT2,af hb5 _⟩
     case measure=>simp [intOf];omega
    have hr1:((r:Int) < (p:Int))=False:=by simp;omega
    obtain rfl:r=p:=by omega
    have cD1:=x5.cell 1;have cD2:=x5.cell 2;have cD3:=x5.cell 3;obtain ⟨v1,hv1⟩:∃ v,m.x.ok=v:=⟨_,rfl⟩;obtain ⟨v2,hv2⟩:∃ v,m.y.ok=v:=⟨_,rfl⟩;have HV1:=Qh hv1;have HV2:=Qh hv2;clear hv1 hv2;go_wp2_with fail;(with_reducible refine (io _ b1 A1 n1 c1 D1 m1 e1 m.x k v1 ((HQ1.out.belw q4).belw hb5) hk HV1.out).mono ?_);rintro e w6 ⟨rfl,hb6⟩;have x6:=x5.below hb6 x5.lt;have xB6:=xB5.below hb6 xB5.lt;have bw6:=bw5.trans (hb6.mono bw5.size);clear cD0 cD1 cD2 cD3
    have hE3:v1=false∨v2=false→bk (b.pts.take r) m=3:=fun hh=>by
     unfold bk;rw [HV.out,if_neg (by decide),HT.out,if_neg (by decide),HV1.out,HV2.out];rcases hh with e | e
     ·rw [e,if_pos rfl]
     rw [e];cases v1
     ·rfl
     rfl
    have HE3:=Qh hE3;clear hE3;cases v1
    ·have h3:x=3:=HXZ.out 3 (by decide) (HE3.out (.inl rfl))
     go_wp2;go_ret;exact ⟨by rw [h3];rfl,bw6⟩
    have cE4:=x6.cell 4;have cE5:=x6.cell 5;have cE6:=x6.cell 6;go_wp2_with fail;(with_reducible refine (io _ b2 A2 n2 c2 D2 m2 e2 m.y k v2 (((HQ2.out.belw q4).belw hb5).belw hb6) hk HV2.out).mono ?_);rintro e w7 ⟨rfl,hb7⟩;have bw7:=bw6.trans (hb7.mono bw6.size);have xB7:=xB6.below hb7 xB6.lt;clear cE4 cE5 cE6;cases v2
    ·have h3:x=3:=HXZ.out 3 (by decide) (HE3.out (.inr rfl))
     go_wp2;go_ret;exact ⟨by rw [h3];rfl,bw7⟩
    have h0:bk (b.pts.take r) m=0:=by
     unfold bk;rw [HV.out,if_neg (by decide),HT.out,if_neg (by decide),HV1.out,HV2.out];rfl
    have HP2:Hid (bq bk (b.pts.take (r+1)) (b.pts.drop (r+1))=x):=Qh (by
     rcases HST.out with ⟨_,u⟩ | ⟨u,_⟩
     ·exact u
     exact absurd h0 u)
    clear h0;go_wp2_with fail;go_roundw
    case rel=>exact ⟨r+1,by go_num,by omega,HP2,xB7,bw7⟩
    case measure=>simp [intOf];omega
  have hp1:((p:Int) < (n:Int))=False:=by simp;omega
  have hx0:x=0:=eB HP.out (by rw [HLN.out];exact hpg);go_wp2;go_ret;exact ⟨by rw [hx0];rfl,hb3⟩
theorem wj (w:World) (A:Option Addr) (n c:Nat) (B:Option Addr) (p d:Nat) (C:Option Addr) (q e:Nat) (L:ao) (k:Nat) (h:LkS k w A n c B p d C q e L) (hk:k≤10000000) (hn:n≤8) (x:Int) (hx:bq aU [] L.bodies=x):Calls Tryz.prog 53 #[.agg #[ae L.name,.slice A n c,.slice B p d,.slice C q e]] w (av w (.int .i64 x)):=by
 have HX:=Qh (cX hx);have hnc:=h.bodies.2.1;have HLN:=Qh h.bodies.1;clear hx;go_in;go_wp2_with fail;go_loopw [3] (fun iv wr=>∃ i:Nat,iv=.int .i64 (i:Nat)∧i≤n∧Hid (bq aU (L.bodies.take i) (L.bodies.drop i)=x)∧Blk wr w.heap.size 36 #[ae L.name,.slice A n c,.slice B p d,.slice C q e]∧Below w.heap.size w wr) (fun iv _=>n - (intOf iv).toNat)
 case atStart=>exact ⟨0,rfl,Nat.zero_le _,HX,ah _ _ _ (by simp),(aa w).alloc Qr _⟩
 case round =>
  clear HX;obtain ⟨i,rfl,hi,HX,xL,hb⟩:=hrel;rename World=>wa;have cL1:=xL.cell 1;rcases Nat.lt_or_ge i n with hlt | hge
  ·have hi1:((i:Int) < (n:Int))=True:=by simp;omega
   have hR:=(h.belw hb).bodies;obtain ⟨g,o,b,e1,hg,_,hbi,hB⟩:=hR.at_ hlt;subst e1;have hstep:=du HX.out hbi;obtain ⟨A',n',c',c0,c1,hM,hnm⟩:=hB;have HR:=Qh hR;have HM:=Qh hM;have HS:=Qh hstep;have HN:=Qh hnm;have hin:((i:Int) < (n:Int)):=by omega
   obtain ⟨v,hv⟩:∃ v,aP b.name=v:=⟨_,rfl⟩;have HV:=Qh hv;clear h hR hM hstep hnm hbi hv HX;go_wp2_with fail;(with_reducible refine (lL _ b.name HN.out v HV.out).mono ?_);rintro e' w1 ⟨rfl,hb1⟩;have xL1:=xL.below hb1 xL.lt;have bw1:=hb.trans (hb1.mono hb.size)
   have hxz:∀ z:Int,z≠0→aU (L.bodies.take i) b=z→x=z:=fun z hz hm=>by
    rcases HS.out with ⟨u,_⟩ | ⟨_,u⟩
    ·exact absurd (hm.symm.trans u) hz
    exact u.symm.trans hm
   have HXZ:=Qh hxz;clear hxz cL1;cases v
   ·have h5:x=5:=HXZ.out 5 (by decide) (if_pos HV.out)
    go_wp2;go_ret;exact ⟨by rw [h5];rfl,bw1⟩
   go_wp2_with fail;go_loopw [4] (fun jv wr=>∃ j:Nat,jv=.int .i64 (j:Nat)∧j≤i∧Hid (twN ((L.bodies.take j).map al.name) b.name=false)∧Below w1.heap.size w1 wr) (fun jv _=>i - (intOf jv).toNat)
   case atStart=>exact ⟨0,rfl,Nat.zero_le _,Qh rfl,aa w1⟩
   case round =>
    obtain ⟨j,rfl,hj,HT,hb2⟩:=hrel;rename World=>w2;have xL2:=xL1.below hb2 xL1.lt;have bw2:=bw1.trans (hb2.mono bw1.size);have cL1:=xL2.cell 1;have c0:=aE (aE c0 hb1) hb2;rcases Nat.lt_or_ge j i with hjl | hjg
    ·have hj1:((j:Int) < (i:Int))=True:=by simp;omega
     have hjn:j < n:=by omega
     have hjn2:((j:Int) < (n:Int)):=by omega
     obtain ⟨a,ha,hA⟩:=((HR.out.bd hb1).bd hb2).rowAt hjn;obtain ⟨A2,n2,c2,d0,_,_,_⟩:=hA;have htl:=az b.name;by_cases heq:a.name=b.name
     ·have h6:x=6:=HXZ.out 6 (by decide) (by
       unfold aU
       rw [HV.out,if_neg (by decide),if_pos (dU ha hjl heq)])
      rw [heq] at d0;have hee:(b.name == b.name)=true:=by simp
      clear heq ha;go_wp2_with fail;go_quiet (fail);go_wp2;go_ret;exact ⟨by rw [h6];rfl,af bw2 _⟩
     have hta:=az a.name;have HT2:=Qh (eC ha HT.out heq);have hee:(a.name == b.name)=false:=beq_eq_false_iff_ne.2 heq;clear heq ha HT;go_wp2_with fail;go_quiet (fail);go_wp2_with fail;go_roundw
     case rel=>exact ⟨j+1,by go_num,by omega,HT2,af hb2 _⟩
     case measure=>simp [intOf];omega
    have hj1:((j:Int) < (i:Int))=False:=by simp;omega
    obtain rfl:j=i:=by omega
    have c1:=aE (aE c1 hb1) hb2;obtain ⟨y,hy⟩:∃ y,(if 8 < b.pts.length then (4:Int) else bq bk [] b.pts)=y:=⟨_,rfl⟩
    have HE:Hid (aU (L.bodies.take j) b=y):=Qh (by
     unfold aU;rw [HV.out,if_neg (by decide),HT.out,if_neg (by decide)]
     exact hy)
    have HY:=Qh hy;clear hy;go_wp2_with fail;(with_reducible refine (wi _ A' n' c' b k ((HM.out.mk_ hb1).mk_ hb2) (by omega) y HY.out).mono ?_);rintro e' w3 ⟨rfl,hb3⟩;have bw3:=bw2.trans (hb3.mono bw2.size);have xL3:=xL2.below hb3 xL2.lt;clear cL1;by_cases hy0:y=0
    ·have HX2:Hid (bq aU (L.bodies.take (j+1)) (L.bodies.drop (j+1))=x):=Qh (by
      rcases HS.out with ⟨_,u⟩ | ⟨u,_⟩
      ·exact u
      exact absurd (HE.out.trans hy0) u)
     have e0:(y == 0)=true:=beq_iff_eq.2 hy0;have e1:(y != 0)=false:=by rw [hy0];rfl
     clear hy0;go_wp2_with fail;go_roundw
     case rel=>exact ⟨j+1,by go_num,by omega,HX2,xL3,bw3⟩
     case measure=>simp [intOf];omega
    have hxy:x=y:=HXZ.out y hy0 HE.out;have e0:(y == 0)=false:=beq_eq_false_iff_ne.2 hy0;have e1:(y != 0)=true:=bne_iff_ne.2 hy0;clear hy0;go_wp2;go_ret;exact ⟨by rw [hxy];rfl,bw3⟩
  have hi1:((i:Int) < (n:Int))=False:=by simp;omega
  have hx0:x=0:=eB HX.out (by rw [HLN.out];exact hge);go_wp2;go_ret;exact ⟨by rw [hx0];rfl,hb⟩
theorem wk (w:World) (A:Option Addr) (n c:Nat) (B:Option Addr) (p d:Nat) (C:Option Addr) (q e:Nat) (L:ao) (k:Nat) (h:LkS k w A n c B p d C q e L) (hk:k≤10000000) (hn:n≤8) (hq:q≤2) (i:Nat) (hi:i < q) (b:bc) (hbi:L.drivers[i]?=some b) (x:Int) (hx:ax n (L.drivers.take i) b=x):Calls Tryz.prog 55 #[.agg #[ae L.name,.slice A n c,.slice B p d,.slice C q e],.int .i64 (i:Nat)] w (av w (.int .i64 x)):=by
 have hqc:=h.drivers.2.1;have hlb:=h.bodies.1;obtain ⟨g,o,b9,e1,hg,_,hb9,hB⟩:=h.drivers.at_ hi;subst e1;obtain rfl:b9=b:=Option.some.inj (hb9.symm.trans hbi);obtain ⟨c0,c1,hnm⟩:=hB;have HX:=Qh hx;have H:=Qh h;have HN:=Qh hnm;have hin:((i:Int) < (q:Int)):=by omega
 obtain ⟨v,hv⟩:∃ v,aP b9.name=v:=⟨_,rfl⟩;have HV:=Qh hv;have hwg:¬ g=w.heap.size:=by omega
 clear hx h hnm hv hb9 hlb hbi;go_in;go_wp2_with fail;(with_reducible refine (lL _ b9.name HN.out v HV.out).mono ?_);rintro e' w1 ⟨rfl,hb1⟩;have q1:=hb1.q2;have xL:Blk w1 w.heap.size 36 #[ae L.name,.slice A n c,.slice B p d,.slice (some ⟨g,o,none⟩) q e]:=((ah _ _ _ (by simp)).alloc _).below hb1 (by simp <;> omega);have x1:Blk w1 (w.heap.size+1) 81 #[ae b9.name,.int .i64 b9.body]:=(ah _ _ _ (by simp)).below hb1 (by simp);clear hb1;cases v
 ·have h5:x=5:=HX.out.symm.trans (if_pos HV.out)
  go_wp2;go_ret;exact ⟨by rw [h5];rfl,q1⟩
 go_wp2_with fail;go_loopw [6] (fun jv wr=>∃ j:Nat,jv=.int .i64 (j:Nat)∧j≤i∧Hid (twN ((L.drivers.take j).map bc.name) b9.name=false)∧Below w1.heap.size w1 wr) (fun jv _=>i - (intOf jv).toNat)
 case atStart=>exact ⟨0,rfl,Nat.zero_le _,Qh rfl,aa w1⟩
 case round =>
  obtain ⟨j,rfl,hj,HT,hb2⟩:=hrel;rename World=>w2;have xL2:=xL.below hb2 xL.lt;have x2:=x1.below hb2 x1.lt;have bw2:=q1.trans (hb2.mono q1.size);rcases Nat.lt_or_ge j i with hjl | hjg
  ·have hj1:((j:Int) < (i:Int))=True:=by simp;omega
   have hjn:j < q:=by omega
   have hjn2:((j:Int) < (q:Int)):=by omega
   obtain ⟨a,ha,d0,_,_⟩:=(H.out.drivers.dr bw2).rowAt hjn;have cL3:=xL2.cell 3;have z0:=x2.cell 0;have htl:=az b9.name;by_cases heq:a.name=b9.name
   ·have h6:x=6:=by
     rw [← HX.out];unfold ax;rw [HV.out,if_neg (by decide),if_pos (dU ha hjl heq)]
    rw [heq] at d0;have hee:(b9.name == b9.name)=true:=by simp
    clear heq ha;go_wp2_with fail;go_quiet (fail);go_wp2;go_ret;exact ⟨by rw [h6];rfl,af bw2 _⟩
   have hta:=az a.name;have HT2:=Qh (eC ha HT.out heq);have hee:(a.name == b9.name)=false:=beq_eq_false_iff_ne.2 heq;clear heq ha HT;go_wp2_with fail;go_quiet (fail);go_wp2_with fail;go_roundw
   case rel=>exact ⟨j+1,by go_num,by omega,HT2,af hb2 _⟩
   case measure=>simp [intOf];omega
  have hj1:((j:Int) < (i:Int))=False:=by simp;omega
  obtain rfl:j=i:=by omega
  have cL1:=xL2.cell 1;have z1:=x2.cell 1;obtain ⟨v1,hv1⟩:∃ v,inI b9.body n=v:=⟨_,rfl⟩;have HV1:=Qh hv1;clear hv1;go_wp2_with fail;(with_reducible refine (mF _ b9.body n v1 HV1.out).mono ?_);rintro e' w3 ⟨rfl,hb3⟩;have bw3:=bw2.trans (hb3.mono bw2.size);have xL3:=xL2.below hb3 xL2.lt;have x3:=x2.below hb3 x2.lt;clear cL1 z1;cases v1
  ·have h9:x=9:=by
    rw [← HX.out];unfold ax;rw [HV.out,if_neg (by decide),HT.out,if_neg (by decide),if_pos HV1.out]
   go_wp2;go_ret;exact ⟨by rw [h9];rfl,bw3⟩
  have z1:=x3.cell 1;by_cases hb0:b9.body=0
  ·have e0:(b9.body == 0)=true:=beq_iff_eq.2 hb0
   have h7:x=7:=by
    rw [← HX.out];unfold ax;rw [HV.out,if_neg (by decide),HT.out,if_neg (by decide),HV1.out,if_neg (by decide),if_pos hb0]
   clear hb0;go_wp2;go_ret;exact ⟨by rw [h7];rfl,bw3⟩
  have e0:(b9.body == 0)=false:=beq_eq_false_iff_ne.2 hb0;have HB0:=Qh hb0;clear hb0;go_wp2_with fail;clear z1;go_loopw [7] (fun jv wr=>∃ r:Nat,jv=.int .i64 (r:Nat)∧r≤j∧Hid (((L.drivers.take r).any fun p=>p.body == b9.body)=false)∧Below w3.heap.size w3 wr) (fun jv _=>j - (intOf jv).toNat)
  case atStart=>exact ⟨0,rfl,Nat.zero_le _,Qh rfl,aa w3⟩
  case round =>
   obtain ⟨r,rfl,hr,HR,hb4⟩:=hrel;rename World=>w4;have x4:=x3.below hb4 x3.lt;have xL4:=xL3.below hb4 xL3.lt;have bw4:=bw3.trans (hb4.mono bw3.size);rcases Nat.lt_or_ge r j with hrl | hrg
   ·have hr1:((r:Int) < (j:Int))=True:=by simp;omega
    have hrn:r < q:=by omega
    have hrn2:((r:Int) < (q:Int)):=by omega
    obtain ⟨a,ha,d0,d1,_⟩:=(H.out.drivers.dr bw4).rowAt hrn;have ht4:L.drivers.take (r+1)=L.drivers.take r ++ [a]:=by rw [List.take_add_one,ha];rfl
    have cL3:=xL4.cell 3;have z1:=x4.cell 1;by_cases heq:a.body=b9.body
    ·have h6:x=6:=by
      rw [← HX.out];unfold ax;rw [HV.out,if_neg (by decide),HT.out,if_neg (by decide),HV1.out,if_neg (by decide),if_neg HB0.out,if_pos];rw [List.any_eq_true];exact ⟨a,List.mem_of_getElem? (i:=r) (by rw [List.getElem?_take,if_pos hrl];exact ha),by simpa using heq⟩
     have hee:(a.body == b9.body)=true:=beq_iff_eq.2 heq;clear heq ha ht4;go_wp2_with fail;go_quiet (fail);go_wp2;go_ret;exact ⟨by rw [h6];rfl,af bw4 _⟩
    ·have HR2:Hid (((L.drivers.take (r+1)).any fun p=>p.body == b9.body)=false):=Qh (by
      rw [ht4,List.any_append,HR.out]
      simpa using heq)
     have hee:(a.body == b9.body)=false:=beq_eq_false_iff_ne.2 heq;clear heq ha ht4 HR;go_wp2_with fail;go_quiet (fail);go_wp2_with fail;go_roundw
     case rel=>exact ⟨r+1,by go_num,by omega,HR2,af hb4 _⟩
     case measure=>simp [intOf];omega
   have hr1:((r:Int) < (j:Int))=False:=by simp;omega
   obtain rfl:r=j:=by omega
   have h0:x=0:=by
    rw [← HX.out];unfold ax;rw [HV.out,if_neg (by decide),HT.out,if_neg (by decide),HV1.out,if_neg (by decide),if_neg HB0.out,HR.out];rfl
   go_wp2;go_ret;exact ⟨by rw [h0];rfl,bw4⟩
theorem ko {i:Int}{n:Nat}(h:inI i n=true):∃ m:Nat,i=(m:Int)∧m < n:=by
 unfold inI at h;simp only [Bool.and_eq_true,decide_eq_true_eq] at h;exact ⟨i.toNat,by omega,by omega⟩
theorem zS (w:World) (k:Nat) (hk:k≤10000000) (hk1:0 < k) (nm nm2:List UInt8) (b1:Bool) (A1:Option Addr) (n1 c1:Nat) (D1:Option Addr) (m1 e1:Nat) (r1:RD) (h1:QD w b1 A1 n1 c1 D1 m1 e1 r1 k) (b2:Bool) (A2:Option Addr) (n2 c2:Nat) (D2:Option Addr) (m2 e2:Nat) (r2:RD) (h2:QD w b2 A2 n2 c2 D2 m2 e2 r2 k) (b3:Bool) (A3:Option Addr) (n3 c3:Nat) (D3:Option Addr) (m3 e3:Nat) (r3:RD) (h3:QD w b3 A3 n3 c3 D3 m3 e3 r3 k) (b4:Bool) (A4:Option Addr) (n4 c4:Nat) (D4:Option Addr) (m4 e4:Nat) (r4:RD) (h4:QD w b4 A4 n4 c4 D4 m4 e4 r4 k) (v:Bool) (hv:(decide (r1.q=r3.q) && decide (r2.q=r4.q))=v):Calls Tryz.prog 95 #[.agg #[ae nm,.bool b1,.slice A1 n1 c1,.slice D1 m1 e1,.bool b2,.slice A2 n2 c2,.slice D2 m2 e2],.agg #[ae nm2,.bool b3,.slice A3 n3 c3,.slice D3 m3 e3,.bool b4,.slice A4 n4 c4,.slice D4 m4 e4]] w (av w (.bool v)):=by
 obtain ⟨s1,hs1⟩:∃ s,kE r1.q r3.q=s:=⟨_,rfl⟩;obtain ⟨s2,hs2⟩:∃ s,kE r2.q r4.q=s:=⟨_,rfl⟩;have HS1:=Qh hs1;have HS2:=Qh hs2;have HV:=Qh hv;have H1:=Qh h1;have H2:=Qh h2;have H3:=Qh h3;have H4:=Qh h4;clear hs1 hs2 hv h1 h2 h3 h4;go_in;go_wp2_with fail;(with_reducible refine (rR _ b1 A1 n1 c1 D1 m1 e1 r1.q k ?_ b3 A3 n3 c3 D3 m3 e3 r3.q k ?_ s1 HS1.out hk1 hk hk1 hk).mono ?_);(exact (H1.out.qz).belw (((aa w).alloc Qr _).alloc (by simp) _));(exact (H3.out.qz).belw (((aa w).alloc Qr _).alloc (by simp) _));rintro e' w1 ⟨rfl,hb1⟩;have q1:=hb1.q2;have xa:Blk w1 w.heap.size 67 #[ae nm,.bool b1,.slice A1 n1 c1,.slice D1 m1 e1,.bool b2,.slice A2 n2 c2,.slice D2 m2 e2]:=((ah _ _ _ (by simp)).alloc _).below hb1 (by simp <;> omega);have xb:Blk w1 (w.heap.size+1) 67 #[ae nm2,.bool b3,.slice A3 n3 c3,.slice D3 m3 e3,.bool b4,.slice A4 n4 c4,.slice D4 m4 e4]:=(ah _ _ _ (by simp)).below hb1 (by simp);clear hb1;by_cases hs1:s1=0
 ·have es:(s1 == 0)=true:=beq_iff_eq.2 hs1
  have hqx:r1.q=r3.q:=bZ.1 (HS1.out.trans hs1);have HQX:=Qh hqx;have ca4:=xa.cell 4;have ca5:=xa.cell 5;have ca6:=xa.cell 6;have cb4:=xb.cell 4;have cb5:=xb.cell 5;have cb6:=xb.cell 6;clear hs1 hqx;go_wp2_with fail;(with_reducible refine (rR _ b2 A2 n2 c2 D2 m2 e2 r2.q k ?_ b4 A4 n4 c4 D4 m4 e4 r4.q k ?_ s2 HS2.out hk1 hk hk1 hk).mono ?_);(exact (H2.out.qz).belw q1);(exact (H4.out.qz).belw q1);rintro e' w2 ⟨rfl,hb2⟩;have q2:=q1.trans (hb2.mono q1.size);clear ca4 ca5 ca6 cb4 cb5 cb6;by_cases hs2:s2=0
  ·have es2:(s2 == 0)=true:=beq_iff_eq.2 hs2
   have hqy:r2.q=r4.q:=bZ.1 (HS2.out.trans hs2);have hv1:v=true:=HV.out.symm.trans (by rw [decide_eq_true HQX.out,decide_eq_true hqy];rfl);clear hs2 hqy;go_wp2;go_ret;exact ⟨by rw [hv1];rfl,q2⟩
  have es2:(s2 == 0)=false:=beq_eq_false_iff_ne.2 hs2;have hv0:v=false:=HV.out.symm.trans (by rw [decide_eq_false (fun e=>hs2 (HS2.out.symm.trans (bZ.2 e)))];simp);clear hs2;go_wp2;go_ret;exact ⟨by rw [hv0];rfl,q2⟩
 have es:(s1 == 0)=false:=beq_eq_false_iff_ne.2 hs1;have hv0:v=false:=HV.out.symm.trans (by rw [decide_eq_false (fun e=>hs1 (HS1.out.symm.trans (bZ.2 e)))];rfl);clear hs1;go_wp2;go_ret;exact ⟨by rw [hv0];rfl,q1⟩
theorem yb (w:World) (A:Option Addr) (n c:Nat) (B:Option Addr) (p d:Nat) (C:Option Addr) (q e:Nat) (L:ao) (k:Nat) (h:LkS k w A n c B p d C q e L) (hk:k≤10000000) (hk1:0 < k) (hn:n≤8) (hp:p≤16) (i:Nat) (hi:i < p) (j:aN) (hji:L.joints[i]?=some j) (x:Int) (hx:aQ L (L.joints.take i) j=x):Calls Tryz.prog 54 #[.agg #[ae L.name,.slice A n c,.slice B p d,.slice C q e],.int .i64 (i:Nat)] w (av w (.int .i64 x)):=by
 have hpc:=h.joints.2.1;obtain ⟨g,o,j9,e1,hg,_,hj9,hB⟩:=h.joints.at_ hi;subst e1;obtain rfl:j9=j:=Option.some.inj (hj9.symm.trans hji);obtain ⟨c0,c1,c2,c3,c4,c5,c6,hnm⟩:=hB;have HX:=Qh hx;have H:=Qh h;have HL:=Qh h.bodies.1;have HN:=Qh hnm;have hin:((i:Int) < (p:Int)):=by omega
 obtain ⟨v,hv⟩:∃ v,aP j9.name=v:=⟨_,rfl⟩;have HV:=Qh hv;have hwg:¬ g=w.heap.size:=by omega
 clear hx h hnm hv hj9 hji;go_in;go_wp2_with fail;(with_reducible refine (lL _ j9.name HN.out v HV.out).mono ?_);rintro e' w1 ⟨rfl,hb1⟩;have q1:=hb1.q2;have xL:Blk w1 w.heap.size 36 #[ae L.name,.slice A n c,.slice (some ⟨g,o,none⟩) p d,.slice C q e]:=((ah _ _ _ (by simp)).alloc _).below hb1 (by simp <;> omega);have x1:Blk w1 (w.heap.size+1) 79 #[ae j9.name,.int .i64 j9.kind,.int .i64 j9.a,.int .i64 j9.point,.int .i64 j9.b,.int .i64 j9.on,.int .i64 j9.to_]:=(ah _ _ _ (by simp)).below hb1 (by simp);clear hb1 c0 c1 c2 c3 c4 c5 c6;cases v
 ·have h5:x=5:=HX.out.symm.trans (if_pos HV.out)
  go_wp2;go_ret;exact ⟨by rw [h5];rfl,q1⟩
 go_wp2_with fail;go_loopw [6] (fun jv wr=>∃ r:Nat,jv=.int .i64 (r:Nat)∧r≤i∧Hid (twN ((L.joints.take r).map aN.name) j9.name=false)∧Below w1.heap.size w1 wr) (fun jv _=>i - (intOf jv).toNat)
 case atStart=>exact ⟨0,rfl,Nat.zero_le _,Qh rfl,aa w1⟩
 case round =>
  obtain ⟨r,rfl,hr,HT,hb2⟩:=hrel;rename World=>w2;have xL2:=xL.below hb2 xL.lt;have x2:=x1.below hb2 x1.lt;have bw2:=q1.trans (hb2.mono q1.size);rcases Nat.lt_or_ge r i with hrl | hrg
  ·have hr1:((r:Int) < (i:Int))=True:=by simp;omega
   have hrn:r < p:=by omega
   have hrn2:((r:Int) < (p:Int)):=by omega
   obtain ⟨a,ha,d0,_⟩:=(H.out.joints.jt bw2).rowAt hrn;have cL2:=xL2.cell 2;have z0:=x2.cell 0;have htl:=az j9.name;by_cases heq:a.name=j9.name
   ·have h6:x=6:=by
     rw [← HX.out];unfold aQ;rw [HV.out,if_neg (by decide),if_pos (dU ha hrl heq)]
    rw [heq] at d0;have hee:(j9.name == j9.name)=true:=by simp
    clear heq ha;go_wp2_with fail;go_quiet (fail);go_wp2;go_ret;exact ⟨by rw [h6];rfl,af bw2 _⟩
   have hta:=az a.name;have HT2:=Qh (eC ha HT.out heq);have hee:(a.name == j9.name)=false:=beq_eq_false_iff_ne.2 heq;clear heq ha HT;go_wp2_with fail;go_quiet (fail);go_wp2_with fail;go_roundw
   case rel=>exact ⟨r+1,by go_num,by omega,HT2,af hb2 _⟩
   case measure=>simp [intOf];omega
  have hr1:((r:Int) < (i:Int))=False:=by simp;omega
  obtain rfl:r=i:=by omega
  have hxE:bh L j9=x:=by
   rw [← HX.out];unfold aQ;rw [HV.out,if_neg (by decide),HT.out,if_neg (by decide)]
  have HE:=Qh hxE;clear hxE;by_cases hkk:j9.kind≠0∧j9.kind≠1
  ·have e0:(j9.kind == 0)=false:=beq_eq_false_iff_ne.2 hkk.1
   have e1:(j9.kind == 1)=false:=beq_eq_false_iff_ne.2 hkk.2;have e2:(j9.kind != 0)=true:=bne_iff_ne.2 hkk.1;have e3:(j9.kind != 1)=true:=bne_iff_ne.2 hkk.2;have h7:x=7:=by rw [← HE.out];exact if_pos hkk
   have z1:=x2.cell 1;clear hkk;go_wp2;go_ret;exact ⟨by rw [h7];rfl,bw2⟩
  have HKK:=Qh hkk;by_cases hk0:j9.kind=0
  ·have e0:(j9.kind == 0)=true:=beq_iff_eq.2 hk0
   have e2:(j9.kind != 0)=false:=by rw [hk0];rfl
   have HK0:=Qh hk0;clear hk0 hkk;have z1:=x2.cell 1;have z2:=x2.cell 2;have cL1:=xL2.cell 1;obtain ⟨v1,hv1⟩:∃ v,inI j9.a n=v:=⟨_,rfl⟩;obtain ⟨v2,hv2⟩:∃ v,inI j9.b n=v:=⟨_,rfl⟩;have HV1:=Qh hv1;have HV2:=Qh hv2;clear hv1 hv2;go_wp2_with fail;(with_reducible refine (mF _ j9.a n v1 HV1.out).mono ?_);rintro e' w3 ⟨rfl,hb3⟩;have bw3:=bw2.trans (hb3.mono bw2.size);have xL3:=xL2.below hb3 xL2.lt;have x3:=x2.below hb3 x2.lt;clear z1 z2 cL1 hb3;cases v1
   ·have h9:x=9:=by rw [← HE.out];unfold bh;rw [if_neg HKK.out,HL.out,if_pos HV1.out]
    go_wp2;go_ret;exact ⟨by rw [h9];rfl,bw3⟩
   have z4:=x3.cell 4;have cL1:=xL3.cell 1;go_wp2_with fail;(with_reducible refine (mF _ j9.b n v2 HV2.out).mono ?_);rintro e' w4 ⟨rfl,hb4⟩;have bw4:=bw3.trans (hb4.mono bw3.size);have xL4:=xL3.below hb4 xL3.lt;have x4:=x3.below hb4 x3.lt;clear z4 cL1 hb4;cases v2
   ·have h9:x=9:=by rw [← HE.out];unfold bh;rw [if_neg HKK.out,HL.out,if_neg (by rw [HV1.out];decide),if_pos HV2.out]
    go_wp2;go_ret;exact ⟨by rw [h9];rfl,bw4⟩
   obtain ⟨an,han,hal⟩:=ko HV1.out;obtain ⟨bn,hbn,hbl⟩:=ko HV2.out;have HA:=Qh han;have HBN:=Qh hbn;have cL1:=xL4.cell 1;have z2:=x4.cell 2;have z4:=x4.cell 4;rw [han] at z2;rw [hbn] at z4;clear han hbn;by_cases hab:an=bn
   ·have h13:x=13:=by
     rw [← HE.out];unfold bh;rw [if_neg HKK.out,HL.out,if_neg (by rw [HV1.out];decide),if_neg (by rw [HV2.out];decide),if_pos (by rw [HA.out,HBN.out,hab])]
    subst hab;go_wp2;go_ret;exact ⟨by rw [h13];rfl,bw4⟩
   have eab:((an:Int) == (bn:Int))=false:=beq_eq_false_iff_ne.2 (by omega);obtain ⟨g2,o2,bb,e1',hg2,hnc,hbb,hBb⟩:=(H.out.bodies.bd bw4).at_ hbl;subst e1';obtain ⟨ab,hab',hAb⟩:=(H.out.bodies.bd bw4).rowAt hal;obtain ⟨Ab,nb,cb,k0,k1,hMb,_⟩:=hBb;obtain ⟨Aa,na,ca,l0,l1,hMa,_⟩:=hAb;have hpa:cH L j9.a=ab.pts:=by unfold cH;rw [HA.out];show (match L.bodies[an]? with | some b=>b.pts | none=>[])=_;rw [hab']
   have hpb:cH L j9.b=bb.pts:=by unfold cH;rw [HBN.out];show (match L.bodies[bn]? with | some b=>b.pts | none=>[])=_;rw [hbb]
   have HLA:=Qh hMa.1;have HLB:=Qh hMb.1;have hbn2:((bn:Nat):Int) < ((n:Nat):Int):=by omega
   have han2:((an:Nat):Int) < ((n:Nat):Int):=by omega
   obtain ⟨v3,hv3⟩:∃ v,inI j9.point na=v:=⟨_,rfl⟩;obtain ⟨v4,hv4⟩:∃ v,inI j9.on nb=v:=⟨_,rfl⟩;have HV3:=Qh hv3;have HV4:=Qh hv4;have HMB:=Qh hMb;have HPA:=Qh hpa;have HPB:=Qh hpb;have HAB:=Qh (show ¬ j9.a=j9.b by rw [HA.out,HBN.out];omega);have z3:=x4.cell 3;clear hv3 hv4 hMb hMa hpa hpb hbb hab' hab;go_wp2_with fail;go_quiet (fail);go_wp2_with fail;(with_reducible refine (mF _ j9.point na v3 HV3.out).mono ?_);rintro e' w5 ⟨rfl,hb5⟩;have q45:Below w4.heap.size w4 w5:=ak (af (aa w4) _) hb5;have bw5:=bw4.trans (q45.mono bw4.size);have x5:=x4.below q45 x4.lt;clear z2 z3 z4 cL1 k0 k1 l0 l1 hb5;cases v3
   ·have h9:x=9:=by
     rw [← HE.out];unfold bh;rw [if_neg HKK.out,HL.out,if_neg (by rw [HV1.out];decide),if_neg (by rw [HV2.out];decide),if_neg HAB.out,HPA.out,HLA.out,if_pos HV3.out]
    go_wp2;go_ret;exact ⟨by rw [h9];rfl,bw5⟩
   have z5:=x5.cell 5;go_wp2_with fail;(with_reducible refine (mF _ j9.on nb v4 HV4.out).mono ?_);rintro e' w6 ⟨rfl,hb6⟩;have q46:=q45.trans (hb6.mono q45.size);have bw6:=bw5.trans (hb6.mono bw5.size);have x6:=x5.below hb6 x5.lt;clear z5 hb6;cases v4
   ·have h9:x=9:=by
     rw [← HE.out];unfold bh;rw [if_neg HKK.out,HL.out,if_neg (by rw [HV1.out];decide),if_neg (by rw [HV2.out];decide),if_neg HAB.out,HPA.out,HLA.out,if_neg (by rw [HV3.out];decide),HPB.out,HLB.out,if_pos HV4.out]
    go_wp2;go_ret;exact ⟨by rw [h9];rfl,bw6⟩
   have hX2:x=(if j9.kind=0 then (if j9.to_=0 then 0 else 2) else if inI j9.to_ nb=false then 9 else if eM bb.pts j9.on j9.to_=true then 8 else 0):=by
    rw [← HE.out];unfold bh;rw [if_neg HKK.out,HL.out,if_neg (by rw [HV1.out];decide),if_neg (by rw [HV2.out];decide),if_neg HAB.out,HPA.out,HLA.out,if_neg (by rw [HV3.out];decide),HPB.out,HLB.out,if_neg (by rw [HV4.out];decide)]
   have HX2:=Qh hX2;clear hX2;have z1:=x6.cell 1;have z6:=x6.cell 6;by_cases hto:j9.to_=0
   ·have hx:x=0:=by rw [HX2.out,if_pos HK0.out,if_pos hto]
    have t0:(j9.to_ == 0)=true:=beq_iff_eq.2 hto;have t1:(j9.to_ != 0)=false:=by rw [hto];rfl
    clear hto;go_wp2;go_ret;exact ⟨by rw [hx];rfl,bw6⟩
   have hx:x=2:=by rw [HX2.out,if_pos HK0.out,if_neg hto]
   have t0:(j9.to_ == 0)=false:=beq_eq_false_iff_ne.2 hto;have t1:(j9.to_ != 0)=true:=bne_iff_ne.2 hto;clear hto;go_wp2;go_ret;exact ⟨by rw [hx];rfl,bw6⟩
  have e0:(j9.kind == 0)=false:=beq_eq_false_iff_ne.2 hk0;have e2:(j9.kind != 0)=true:=bne_iff_ne.2 hk0;have hk2:j9.kind=1:=by omega
  have e1:(j9.kind == 1)=true:=beq_iff_eq.2 hk2;have e3:(j9.kind != 1)=false:=by rw [hk2];rfl
  have HK0:=Qh hk0;clear hk0 hkk hk2;have z1:=x2.cell 1;have z2:=x2.cell 2;have cL1:=xL2.cell 1;obtain ⟨v1,hv1⟩:∃ v,inI j9.a n=v:=⟨_,rfl⟩;obtain ⟨v2,hv2⟩:∃ v,inI j9.b n=v:=⟨_,rfl⟩;have HV1:=Qh hv1;have HV2:=Qh hv2;clear hv1 hv2;go_wp2_with fail;(with_reducible refine (mF _ j9.a n v1 HV1.out).mono ?_);rintro e' w3 ⟨rfl,hb3⟩;have bw3:=bw2.trans (hb3.mono bw2.size);have xL3:=xL2.below hb3 xL2.lt;have x3:=x2.below hb3 x2.lt;clear z1 z2 cL1 hb3;cases v1
  ·have h9:x=9:=by rw [← HE.out];unfold bh;rw [if_neg HKK.out,HL.out,if_pos HV1.out]
   go_wp2;go_ret;exact ⟨by rw [h9];rfl,bw3⟩
  have z4:=x3.cell 4;have cL1:=xL3.cell 1;go_wp2_with fail;(with_reducible refine (mF _ j9.b n v2 HV2.out).mono ?_);rintro e' w4 ⟨rfl,hb4⟩;have bw4:=bw3.trans (hb4.mono bw3.size);have xL4:=xL3.below hb4 xL3.lt;have x4:=x3.below hb4 x3.lt;clear z4 cL1 hb4;cases v2
  ·have h9:x=9:=by rw [← HE.out];unfold bh;rw [if_neg HKK.out,HL.out,if_neg (by rw [HV1.out];decide),if_pos HV2.out]
   go_wp2;go_ret;exact ⟨by rw [h9];rfl,bw4⟩
  obtain ⟨an,han,hal⟩:=ko HV1.out;obtain ⟨bn,hbn,hbl⟩:=ko HV2.out;have HA:=Qh han;have HBN:=Qh hbn;have cL1:=xL4.cell 1;have z2:=x4.cell 2;have z4:=x4.cell 4;rw [han] at z2;rw [hbn] at z4;clear han hbn;by_cases hab:an=bn
  ·have h13:x=13:=by
    rw [← HE.out];unfold bh;rw [if_neg HKK.out,HL.out,if_neg (by rw [HV1.out];decide),if_neg (by rw [HV2.out];decide),if_pos (by rw [HA.out,HBN.out,hab])]
   subst hab;go_wp2;go_ret;exact ⟨by rw [h13];rfl,bw4⟩
  have eab:((an:Int) == (bn:Int))=false:=beq_eq_false_iff_ne.2 (by omega);obtain ⟨g2,o2,bb,e1',hg2,hnc,hbb,hBb⟩:=(H.out.bodies.bd bw4).at_ hbl;subst e1';obtain ⟨ab,hab',hAb⟩:=(H.out.bodies.bd bw4).rowAt hal;obtain ⟨Ab,nb,cb,k0,k1,hMb,_⟩:=hBb;obtain ⟨Aa,na,ca,l0,l1,hMa,_⟩:=hAb;have hpa:cH L j9.a=ab.pts:=by unfold cH;rw [HA.out];show (match L.bodies[an]? with | some b=>b.pts | none=>[])=_;rw [hab']
  have hpb:cH L j9.b=bb.pts:=by unfold cH;rw [HBN.out];show (match L.bodies[bn]? with | some b=>b.pts | none=>[])=_;rw [hbb]
  have HLA:=Qh hMa.1;have HLB:=Qh hMb.1;have hbn2:((bn:Nat):Int) < ((n:Nat):Int):=by omega
  have han2:((an:Nat):Int) < ((n:Nat):Int):=by omega
  obtain ⟨v3,hv3⟩:∃ v,inI j9.point na=v:=⟨_,rfl⟩;obtain ⟨v4,hv4⟩:∃ v,inI j9.on nb=v:=⟨_,rfl⟩;have HV3:=Qh hv3;have HV4:=Qh hv4;have HMB:=Qh hMb;have HPA:=Qh hpa;have HPB:=Qh hpb;have HAB:=Qh (show ¬ j9.a=j9.b by rw [HA.out,HBN.out];omega);have z3:=x4.cell 3;clear hv3 hv4 hMb hMa hpa hpb hbb hab' hab;go_wp2_with fail;go_quiet (fail);go_wp2_with fail;(with_reducible refine (mF _ j9.point na v3 HV3.out).mono ?_);rintro e' w5 ⟨rfl,hb5⟩;have q45:Below w4.heap.size w4 w5:=ak (af (aa w4) _) hb5;have bw5:=bw4.trans (q45.mono bw4.size);have x5:=x4.below q45 x4.lt;clear z2 z3 z4 cL1 k0 k1 l0 l1 hb5;cases v3
  ·have h9:x=9:=by
    rw [← HE.out];unfold bh;rw [if_neg HKK.out,HL.out,if_neg (by rw [HV1.out];decide),if_neg (by rw [HV2.out];decide),if_neg HAB.out,HPA.out,HLA.out,if_pos HV3.out]
   go_wp2;go_ret;exact ⟨by rw [h9];rfl,bw5⟩
  have z5:=x5.cell 5;go_wp2_with fail;(with_reducible refine (mF _ j9.on nb v4 HV4.out).mono ?_);rintro e' w6 ⟨rfl,hb6⟩;have q46:=q45.trans (hb6.mono q45.size);have bw6:=bw5.trans (hb6.mono bw5.size);have x6:=x5.below hb6 x5.lt;clear z5 hb6;cases v4
  ·have h9:x=9:=by
    rw [← HE.out];unfold bh;rw [if_neg HKK.out,HL.out,if_neg (by rw [HV1.out];decide),if_neg (by rw [HV2.out];decide),if_neg HAB.out,HPA.out,HLA.out,if_neg (by rw [HV3.out];decide),HPB.out,HLB.out,if_pos HV4.out]
   go_wp2;go_ret;exact ⟨by rw [h9];rfl,bw6⟩
  have hX2:x=(if j9.kind=0 then (if j9.to_=0 then 0 else 2) else if inI j9.to_ nb=false then 9 else if eM bb.pts j9.on j9.to_=true then 8 else 0):=by
   rw [← HE.out];unfold bh;rw [if_neg HKK.out,HL.out,if_neg (by rw [HV1.out];decide),if_neg (by rw [HV2.out];decide),if_neg HAB.out,HPA.out,HLA.out,if_neg (by rw [HV3.out];decide),HPB.out,HLB.out,if_neg (by rw [HV4.out];decide)]
  have HX2:=Qh hX2;clear hX2;have z1:=x6.cell 1;have z6:=x6.cell 6;obtain ⟨v5,hv5⟩:∃ v,inI j9.to_ nb=v:=⟨_,rfl⟩;have HV5:=Qh hv5;clear hv5;go_wp2_with fail;(with_reducible refine (mF _ j9.to_ nb v5 HV5.out).mono ?_);rintro e' w7 ⟨rfl,hb7⟩;have q47:=q46.trans (hb7.mono q46.size);have bw7:=bw6.trans (hb7.mono bw6.size);have x7:=x6.below hb7 x6.lt;clear z1 z6 hb7;cases v5
  ·have hx:x=9:=by rw [HX2.out,if_neg HK0.out,if_pos HV5.out]
   go_wp2;go_ret;exact ⟨by rw [hx];rfl,bw7⟩
  obtain ⟨on,hon,honl⟩:=ko HV4.out;obtain ⟨tn,htn,htnl⟩:=ko HV5.out;have z5:w7.cell? ⟨w.heap.size+1,5,none⟩=some (.int .i64 (on:Nat)):=by have:=x7.cell 5;rw [hon] at this;exact this
  have z6:w7.cell? ⟨w.heap.size+1,6,none⟩=some (.int .i64 (tn:Nat)):=by have:=x7.cell 6;rw [htn] at this;exact this
  have hlx:w.heap.size+1 < w7.heap.size:=x7.lt;obtain ⟨g3,o3,m,e2',hg3,hnc3,hm,hM⟩:=(HMB.out.mk_ q47).at_ honl;subst e2';obtain ⟨m',hm',hM'⟩:=(HMB.out.mk_ q47).rowAt htnl;obtain ⟨d0,⟨b1,A1,n1,c1,D1,m1,f1,d1,d2,d3,hQ1⟩,⟨b2,A2,n2,c2,D2,m2,f2,d4,d5,d6,hQ2⟩,_⟩:=hM;obtain ⟨y0,⟨b3,A3,n3,c3,D3,m3,f3,y1,y2,y3,hQ3⟩,⟨b4,A4,n4,c4,D4,m4,f4,y4,y5,y6,hQ4⟩,_⟩:=hM';have d2:w7.cell? ⟨g3,o3+on * 7+2,none⟩=some (.slice A1 n1 c1):=d2;have d3:w7.cell? ⟨g3,o3+on * 7+3,none⟩=some (.slice D1 m1 f1):=d3;have d5:w7.cell? ⟨g3,o3+on * 7+5,none⟩=some (.slice A2 n2 c2):=d5;have d6:w7.cell? ⟨g3,o3+on * 7+6,none⟩=some (.slice D2 m2 f2):=d6;have y2:w7.cell? ⟨g3,o3+tn * 7+2,none⟩=some (.slice A3 n3 c3):=y2;have y3:w7.cell? ⟨g3,o3+tn * 7+3,none⟩=some (.slice D3 m3 f3):=y3;have y5:w7.cell? ⟨g3,o3+tn * 7+5,none⟩=some (.slice A4 n4 c4):=y5;have y6:w7.cell? ⟨g3,o3+tn * 7+6,none⟩=some (.slice D4 m4 f4):=y6
  have hpe:eM bb.pts j9.on j9.to_=(decide (m.x.q=m'.x.q) && decide (m.y.q=m'.y.q)):=by
   unfold eM;rw [hon,htn];show (match bb.pts[on]?,bb.pts[tn]? with | some p,some q=>decide (p.x.q=q.x.q) && decide (p.y.q=q.y.q) | _,_=>false)=_;rw [hm,hm']
  have HPE:=Qh hpe;have HQ1:=Qh hQ1;have HQ2:=Qh hQ2;have HQ3:=Qh hQ3;have HQ4:=Qh hQ4;have hon2:((on:Nat):Int) < ((nb:Nat):Int):=by omega
  have htn2:((tn:Nat):Int) < ((nb:Nat):Int):=by omega
  obtain ⟨vs,hvs⟩:∃ v,(decide (m.x.q=m'.x.q) && decide (m.y.q=m'.y.q))=v:=⟨_,rfl⟩;have HVS:=Qh hvs;have hx8:x=if vs=true then 8 else 0:=by rw [HX2.out,if_neg HK0.out,if_neg (by rw [HV5.out];decide),HPE.out,hvs]
  have HX8:=Qh hx8;clear hpe hQ1 hQ2 hQ3 hQ4 hm hm' hon htn hvs hx8;go_wp2_with fail
  go_region_held3 (fun w'=>Sees w7.heap.size w7 w') (first | with_reducible exact Sees.of Qr (by assumption) | with_reducible exact Sees.of Qr (aa _).drew | exact Sees.of Qr (af (aa _) 1) | exact Sees.of Qr (af (by assumption) _))
   (first
    | (go_at_call 95;(with_reducible refine (zS _ k hk hk1 m.name m'.name b1 A1 n1 c1 D1 m1 f1 m.x ?_ b2 A2 n2 c2 D2 m2 f2 m.y ?_ b3 A3 n3 c3 D3 m3 f3 m'.x ?_ b4 A4 n4 c4 D4 m4 f4 m'.y ?_ vs HVS.out).mono ?_);(exact HQ1.out);(exact HQ2.out);(exact HQ3.out);(exact HQ4.out);rintro e' w8 ⟨rfl,hb8⟩;replace hb8:=ak (af (aa _) 1) hb8;have q8:Below w7.heap.size w7 w8:=ak (aa w7) hb8))
  have bw8:=bw7.trans (q8.mono bw7.size);cases vs
  ·have hx:x=0:=HX8.out
   go_wp2;go_ret;exact ⟨by first | rfl | (rw [hx];rfl),bw8⟩
  have hx:x=8:=HX8.out;go_wp2;go_ret;exact ⟨by first | rfl | (rw [hx];rfl),bw8⟩
theorem yc (w:World) (A:Option Addr) (n c:Nat) (B:Option Addr) (p d:Nat) (C:Option Addr) (q e:Nat) (L:ao) (k:Nat) (h:LkS k w A n c B p d C q e L) (hk:k≤10000000) (hk1:0 < k) (x:Int) (hx:dh L=x) :
 Calls Tryz.prog 19 #[.agg #[ae L.name,.slice A n c,.slice B p d,.slice C q e]] w (av w (.int .i64 x)):=by
 have hln:=h.bodies.1;obtain ⟨v,hv⟩:∃ v,aP L.name=v:=⟨_,rfl⟩;have HV:=Qh hv;have HX:=Qh hx;have HL:=Qh hln;have HLJ:=Qh h.joints.1;have HLD:=Qh h.drivers.1;have H:=Qh h;clear hv hx hln h;go_in;go_wp2_with fail;(with_reducible refine (lL _ L.name H.out.name v HV.out).mono ?_);rintro e' w1 ⟨rfl,hb1⟩;have q1:=hb1.q1;have x1:Blk w1 w.heap.size 36 #[ae L.name,.slice A n c,.slice B p d,.slice C q e]:=(ah _ _ _ (by simp)).below hb1 (by simp);clear hb1;cases v
 ·have h5:x=5:=by rw [← HX.out];unfold dh;rw [if_pos HV.out]
  go_wp2;go_ret;exact ⟨by rw [h5];rfl,q1⟩
 have hX1:x=if n=0 then 10 else if 8 < n then 4 else if bq aU [] L.bodies≠0 then bq aU [] L.bodies
  else if 16 < p then 4 else if bq (aQ L) [] L.joints≠0 then bq (aQ L) [] L.joints
  else if 2 < q then 4 else bq (ax n) [] L.drivers:=by
  rw [← HX.out];unfold dh;rw [if_neg (by rw [HV.out];decide),HL.out,HLJ.out,HLD.out]
 obtain ⟨y1,hy1⟩:∃ y,bq aU [] L.bodies=y:=⟨_,rfl⟩;obtain ⟨y2,hy2⟩:∃ y,bq (aQ L) [] L.joints=y:=⟨_,rfl⟩;obtain ⟨y3,hy3⟩:∃ y,bq (ax n) [] L.drivers=y:=⟨_,rfl⟩;rw [hy1,hy2,hy3] at hX1;have HX2:=Qh hX1;have HY1:=Qh hy1;have HY2:=Qh (cX hy2);have HY3:=Qh (cX hy3);clear hX1 hy1 hy2 hy3;have cx1:=x1.cell 1;by_cases h0:n=0
 ·have e0:((n:Int) == 0)=true:=beq_iff_eq.2 (by omega)
  have e00:((n:Int)=0)=True:=eq_true (by omega);have h10:x=10:=by rw [HX2.out,if_pos h0]
  clear h0;go_wp2;go_ret;exact ⟨by rw [h10];rfl,q1⟩
 have e0:((n:Int) == 0)=false:=beq_eq_false_iff_ne.2 (by omega);have e00:((n:Int)=0)=False:=eq_false (by omega);by_cases h8:8 < n
 ·have e8:((8:Int) < (n:Int))=True:=eq_true (by omega)
  have h4:x=4:=by rw [HX2.out,if_neg h0,if_pos h8]
  go_wp2;go_ret;exact ⟨by rw [h4];rfl,q1⟩
 have e8:((8:Int) < (n:Int))=False:=eq_false (by omega);have hX3:=HX2.out;rw [if_neg h0,if_neg h8] at hX3;have HX3:=Qh hX3;have hn8:n≤8:=by omega
 have cx0:=x1.cell 0;have cx2:=x1.cell 2;have cx3:=x1.cell 3;clear hX3 h0 h8;go_wp2_with fail;(with_reducible refine (wj _ A n c B p d C q e L k (H.out.belw q1) hk hn8 y1 HY1.out).mono ?_);rintro e' w2 ⟨rfl,hb2⟩;have q2:=q1.trans (hb2.mono q1.size);have x2:=x1.below hb2 x1.lt;clear cx0 cx1 cx2 cx3;by_cases h1:y1=0
 case neg =>
  have hxy:x=y1:=by rw [HX3.out,if_pos h1]
  have f0:(y1 == 0)=false:=beq_eq_false_iff_ne.2 h1;have f1:(y1 != 0)=true:=bne_iff_ne.2 h1;clear h1;go_wp2;go_ret;exact ⟨by rw [hxy];rfl,q2⟩
 have hX4:=HX3.out;rw [if_neg (by simp [h1])] at hX4;have HX4:=Qh hX4;have f0:(y1 == 0)=true:=beq_iff_eq.2 h1;have f1:(y1 != 0)=false:=by rw [h1];rfl
 have cx2:=x2.cell 2;clear hX4 h1;by_cases h16:16 < p
 ·have e16:((16:Int) < (p:Int))=True:=eq_true (by omega)
  have h4:x=4:=by rw [HX4.out,if_pos h16]
  go_wp2;go_ret;exact ⟨by rw [h4];rfl,q2⟩
 have e16:((16:Int) < (p:Int))=False:=eq_false (by omega);have hp16:p≤16:=by omega
 have hX5:=HX4.out;rw [if_neg h16] at hX5;have HX5:=Qh hX5;clear hX5 h16;go_wp2_with fail;clear cx2;go_loopw [4] (fun iv wr=>∃ i:Nat,iv=.int .i64 (i:Nat)∧i≤p∧Hid (bq (aQ L) (L.joints.take i) (L.joints.drop i)=y2)∧Below w2.heap.size w2 wr) (fun iv _=>p - (intOf iv).toNat)
 case atStart=>exact ⟨0,rfl,Nat.zero_le _,HY2,aa w2⟩
 case round =>
  clear HY2;obtain ⟨i,rfl,hi,HP,hb3⟩:=hrel;rename World=>w3;have x3:=x2.below hb3 x2.lt;have q3:=q2.trans (hb3.mono q2.size);have cx0:=x3.cell 0;have cx1:=x3.cell 1;have cx2:=x3.cell 2;have cx3:=x3.cell 3;rcases Nat.lt_or_ge i p with hlt | hge
  ·have hi1:((i:Int) < (p:Int))=True:=by simp;omega
   obtain ⟨j,hj⟩:∃ j,L.joints[i]?=some j:=⟨_,List.getElem?_eq_getElem (by rw [HLJ.out];exact hlt)⟩;have hst:=du HP.out hj;obtain ⟨z,hz⟩:∃ z,aQ L (L.joints.take i) j=z:=⟨_,rfl⟩;rw [hz] at hst;have HZ:=Qh hz;have HST:=Qh hst;have HJ:=Qh hj;clear hj hst hz HP;go_wp2_with fail;(with_reducible refine (yb _ A n c B p d C q e L k (H.out.belw q3) hk hk1 hn8 hp16 i hlt j HJ.out z HZ.out).mono ?_);rintro e' w4 ⟨rfl,hb4⟩;have q4:=q3.trans (hb4.mono q3.size);clear cx0 cx1 cx2 cx3;by_cases hz0:z=0
   ·have HP2:Hid (bq (aQ L) (L.joints.take (i+1)) (L.joints.drop (i+1))=y2):=Qh (by
     rcases HST.out with ⟨_,u⟩ | ⟨u,_⟩
     ·exact u
     exact absurd hz0 u)
    have g0:(z == 0)=true:=beq_iff_eq.2 hz0;have g1:(z != 0)=false:=by rw [hz0];rfl
    clear hz0;go_wp2_with fail;go_roundw
    case rel=>exact ⟨i+1,by go_num,by omega,HP2,hb3.trans (hb4.mono hb3.size)⟩
    case measure=>simp [intOf];omega
   ·have hxz:x=z:=by
     rcases HST.out with ⟨u,_⟩ | ⟨_,u⟩
     ·exact absurd u hz0
     rw [HX5.out,← u,if_pos hz0]
    have g0:(z == 0)=false:=beq_eq_false_iff_ne.2 hz0;have g1:(z != 0)=true:=bne_iff_ne.2 hz0;clear hz0;go_wp2;go_ret;exact ⟨by rw [hxz];rfl,q4⟩
  have hi1:((i:Int) < (p:Int))=False:=by simp;omega
  have hy0:y2=0:=eB HP.out (by rw [HLJ.out];exact hge);have hX6:=HX5.out;rw [if_neg (by simp [hy0])] at hX6;have HX6:=Qh hX6;clear hX6 hy0 HX5;by_cases h2:2 < q
  ·have e2:((2:Int) < (q:Int))=True:=eq_true (by omega)
   have h4:x=4:=by rw [HX6.out,if_pos h2]
   go_wp2;go_ret;exact ⟨by rw [h4];rfl,q3⟩
  have e2:((2:Int) < (q:Int))=False:=eq_false (by omega);have hq2:q≤2:=by omega
  have hX7:x=y3:=by rw [HX6.out,if_neg h2]
  subst hX7;clear h2;go_wp2_with fail;clear cx0 cx1 cx2 cx3;go_loopw [6] (fun iv wr=>∃ i:Nat,iv=.int .i64 (i:Nat)∧i≤q∧Hid (bq (ax n) (L.drivers.take i) (L.drivers.drop i)=x)∧Below w3.heap.size w3 wr) (fun iv _=>q - (intOf iv).toNat)
  case atStart=>exact ⟨0,rfl,Nat.zero_le _,HY3,aa w3⟩
  case round =>
   clear HY3;obtain ⟨s,rfl,hs,HP3,hb5⟩:=hrel;rename World=>w5;have x5:=x3.below hb5 x3.lt;have q5:=q3.trans (hb5.mono q3.size);have cx0:=x5.cell 0;have cx1:=x5.cell 1;have cx2:=x5.cell 2;have cx3:=x5.cell 3;rcases Nat.lt_or_ge s q with hlt | hgs
   ·have hs1:((s:Int) < (q:Int))=True:=by simp;omega
    obtain ⟨b,hb⟩:∃ b,L.drivers[s]?=some b:=⟨_,List.getElem?_eq_getElem (by rw [HLD.out];exact hlt)⟩;have hst:=du HP3.out hb;obtain ⟨z,hz⟩:∃ z,ax n (L.drivers.take s) b=z:=⟨_,rfl⟩;rw [hz] at hst;have HZ:=Qh hz;have HST:=Qh hst;have HB:=Qh hb;clear hb hst hz HP3;go_wp2_with fail;(with_reducible refine (wk _ A n c B p d C q e L k (H.out.belw q5) hk hn8 hq2 s hlt b HB.out z HZ.out).mono ?_);rintro e' w6 ⟨rfl,hb6⟩;have q6:=q5.trans (hb6.mono q5.size);clear cx0 cx1 cx2 cx3;by_cases hz0:z=0
    ·have HP2:Hid (bq (ax n) (L.drivers.take (s+1)) (L.drivers.drop (s+1))=x):=Qh (by
      rcases HST.out with ⟨_,u⟩ | ⟨u,_⟩
      ·exact u
      exact absurd hz0 u)
     have g0:(z == 0)=true:=beq_iff_eq.2 hz0;have g1:(z != 0)=false:=by rw [hz0];rfl
     clear hz0;go_wp2_with fail;go_roundw
     case rel=>exact ⟨s+1,by go_num,by omega,HP2,hb5.trans (hb6.mono hb5.size)⟩
     case measure=>simp [intOf];omega
    ·have hxz:x=z:=by
      rcases HST.out with ⟨u,_⟩ | ⟨_,u⟩
      ·exact absurd u hz0
      exact u.symm
     have g0:(z == 0)=false:=beq_eq_false_iff_ne.2 hz0;have g1:(z != 0)=true:=bne_iff_ne.2 hz0;clear hz0;go_wp2;go_ret;exact ⟨by rw [hxz];rfl,q6⟩
   have hs1:((s:Int) < (q:Int))=False:=by simp;omega
   have hx0:x=0:=eB HP3.out (by rw [HLD.out];exact hgs);go_wp2;go_ret;exact ⟨by rw [hx0];rfl,q5⟩
theorem dG.words {k:Nat}{w:World}{g o:Nat}{r:RD}(h:dG w g o r k):RdW r:=by
 obtain ⟨b,A,n,c,D,m,e,_,_,_,hQ⟩:=h;exact ⟨hQ.2.1.1,hQ.2.2.1.1⟩
theorem SlS.markW {k:Nat}{w:World}{A:Option Addr}{n c:Nat}{l:List aq}(h:SlS (eN k) 7 w A n c l):∀ m∈l,MkW m:=by
 intro m hm;obtain ⟨i,hi,e⟩:=List.getElem_of_mem hm;obtain ⟨g,o,a,_,_,_,ha,hp⟩:=h.at_ (i:=i) (by rw [← h.1];exact hi);rw [List.getElem?_eq_getElem hi] at ha;injection ha with ha;rw [← ha,e] at hp;exact ⟨hp.2.1.words,hp.2.2.1.words⟩
theorem LkS.words {k:Nat}{w:World}{A B C:Option Addr}{n c p d q e:Nat}{L:ao}(h:LkS k w A n c B p d C q e L):LkW L:=by
 intro b hb;obtain ⟨i,hi,e1⟩:=List.getElem_of_mem hb;obtain ⟨g,o,a,_,_,_,ha,hp⟩:=h.bodies.at_ (i:=i) (by rw [← h.bodies.1];exact hi);rw [List.getElem?_eq_getElem hi] at ha;injection ha with ha;rw [← ha,e1] at hp;obtain ⟨A',n',c',_,_,hM,_⟩:=hp;exact hM.markW
theorem dG.small {K k:Nat}{w:World}{g o:Nat}{r:RD}(h:dG w g o r K) (h1:r.num.length≤k) (h2:r.den.length≤k):dG w g o r k:=by
 obtain ⟨b,A,n,c,D,m,e,c1,c2,c3,hQ⟩:=h;refine ⟨b,A,n,c,D,m,e,c1,c2,c3,hQ.1,hQ.2.1,hQ.2.2.1,?_,?_⟩
 ·rw [hQ.2.1.2.1];exact h1
 rw [hQ.2.2.1.2.1];exact h2
theorem SlS.mono_ {α:Type}{P P':World→Nat→Nat→α→Prop}{s:Nat}{w:World}{A:Option Addr}{n c:Nat}{l:List α}(h:SlS P s w A n c l) (hP:∀ g o a,a∈l→P w g o a→P' w g o a):SlS P' s w A n c l:=by
 refine ⟨h.1,h.2.1,fun hn=>?_⟩;obtain ⟨g,o,e,hg,h3⟩:=h.2.2 hn;exact ⟨g,o,e,hg,fun i a ha=>hP _ _ _ (List.mem_of_getElem? ha) (h3 i a ha)⟩
def mkO:aq:=⟨[79],rd 0,rd 0⟩
def mkC:aq:=⟨[67],rd 4,rd 0⟩
def mkA:aq:=⟨[65],rd 1,rd (1 / 2)⟩
def bdF:al:=⟨[102,114,97,109,101],[mkO,mkC]⟩
def bdC:al:=⟨[99,114,97,110,107],[mkO,mkA]⟩
def exL:ao:=⟨[109],[bdF,bdC],[⟨[106],0,1,0,0,0,0⟩],[⟨[100],1⟩]⟩
theorem wl:dh exL=0:=by decide +kernel
end Go.Proofs.YtfilnhompchciaaGreatDoor
