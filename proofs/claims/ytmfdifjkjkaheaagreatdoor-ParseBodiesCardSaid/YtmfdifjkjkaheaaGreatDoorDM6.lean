import Derived.Deep.RegionHeld3
import Derived.Deep.DrawnRows
import Derived.Deep.DeepCutAuto
import Derived.Test.YtmfdifjkjkaheaaGreatDoorCards
import Derived.Test.YtmfdifjkjkaheaaGreatDoorTie
import Derived.ProofKit
import Derived.WalkKit
import Derived.OpenShut
import Derived.Deep.DeepHandedRow
import Derived.Lib.LaidTab
import Derived.Shelf.Vars
import Derived.ChangeMaps5
import Derived.Test.YtmfdifjkjkaheaaGreatDoorDM5
set_option linter.unusedVariables false
set_option maxHeartbeats 8000000
set_option maxRecDepth 100000
/- Walks: tokens: values of the reference. -/
namespace Go.Proofs.YtmfdifjkjkaheaaGreatDoor
open Go Go.RowKit Bn
attribute [local go_sem ↓] Go.wp_at_zero Go.wp_at_succ
theorem dec_step {s : List UInt8} {i : Nat} (h : i < s.length) : decVal (s.take (i + 1)) = decVal (s.take i) * 10 + dval (atB s i):=by
 have : s.take (i + 1) = s.take i ++ [atB s i]:=by rw [List.take_add_one,List.getElem?_eq_getElem h,atB_lt h]; rfl
 rw [this,decVal_snoc]
theorem rat_step (a d : Nat) : (((a : Nat) : Int) : Rat) * ((10 : Int) : Rat) + (((d : Nat) : Int) : Rat) = (((a * 10 + d : Nat) : Int) : Rat):=by
 rw [← Rat.intCast_mul,← Rat.intCast_add];congr 1
theorem dg_at {s : List UInt8} {i : Nat} (h : s.all isDg = true) (hl : i < s.length) : isDg (atB s i) = true:=by
 rw [atB_lt hl];exact List.all_eq_true.1 h _ (List.getElem_mem _)
theorem r_whole (w : World) (s : List UInt8) (hD : s.all isDg = true) (hl : s.length ≤ 60) : Calls Tryz.prog 221 #[strV s] w (RetF w (((decVal s : Nat) : Int) : Rat) 181):=by
 have hszs:=size_v s;have HD:=Lib.hid hD;clear hD;go_enter Tryz.func221,Tryz.ntmps221;go_wp2_with fail;have p1:=(((Kp.refl w).alloc (.cells #[.bool false,.slice none 0 0,.slice none 0 0] 88)).alloc (.cells #[.bool false,.slice none 0 0,.slice none 0 0] 88));have bw1:=(((brefl w).alloc (by first | omega | (simp <;> omega)) (.cells #[.bool false,.slice none 0 0,.slice none 0 0] 88)).alloc (by first | omega | (simp <;> omega)) (.cells #[.bool false,.slice none 0 0,.slice none 0 0] 88));have x1a : Blk ((w.alloc (.cells #[.bool false,.slice none 0 0,.slice none 0 0] 88)).alloc (.cells #[.bool false,.slice none 0 0,.slice none 0 0] 88)) w.heap.size 88 #[.bool false,.slice none 0 0,.slice none 0 0]:=((blkAt _ _ _ (by simp)).alloc (.cells #[.bool false,.slice none 0 0,.slice none 0 0] 88));have x1b : Blk ((w.alloc (.cells #[.bool false,.slice none 0 0,.slice none 0 0] 88)).alloc (.cells #[.bool false,.slice none 0 0,.slice none 0 0] 88)) (w.heap.size + 1) 88 #[.bool false,.slice none 0 0,.slice none 0 0]:=(blkAt _ _ _ (by simp));have lw1 : w.heap.size + 2 ≤ ((w.alloc (.cells #[.bool false,.slice none 0 0,.slice none 0 0] 88)).alloc (.cells #[.bool false,.slice none 0 0,.slice none 0 0] 88)).heap.size:=by simp
 generalize hE1 : ((w.alloc (.cells #[.bool false,.slice none 0 0,.slice none 0 0] 88)).alloc (.cells #[.bool false,.slice none 0 0,.slice none 0 0] 88)) = w1 at p1 bw1 lw1 x1a x1b ⊢;clear hE1;go_loopw [4] (fun iv wr => ∃ (i : Nat) (bo : Bool) (Ao : Option Addr) (no co : Nat) (Do : Option Addr) (mo eo : Nat),iv = .int .i64 (i : Nat) ∧ i ≤ s.length ∧ QV wr bo Ao no co Do mo eo (((decVal (s.take i) : Nat) : Int) : Rat) (1 + 3 * i) ∧ Kp w1 wr ∧ Below w.heap.size w wr ∧ w1.heap.size ≤ wr.heap.size ∧ Blk wr w.heap.size 88 #[.bool false,.slice none 0 0,.slice none 0 0] ∧ Blk wr (w.heap.size + 1) 88 #[.bool bo,.slice Ao no co,.slice Do mo eo]) (fun iv _ => s.length - (intOf iv).toNat)
 case atStart => exact ⟨0,false,none,0,0,none,0,0,rfl,Nat.zero_le _,QV.zero _ _,Kp.refl _,bw1,Nat.le_refl _,x1a,x1b⟩
 case round =>
  clear x1a;clear x1b;obtain ⟨i,bo,Ao,no,co,Do,mo,eo,rfl,hi,ho,hkp,hbw,hlw,x1a,x1b⟩:=hrel;by_cases hlt : i < s.length
  ·have hi1 : ((i : Int) < (s.length : Int)) = True:=by simp; omega
   have hlts : i < s.length:=hlt;have hq:=rat_step (decVal (s.take i)) (dval (atB s i));rw [← dec_step hlt] at hq;obtain ⟨v,hv⟩ : ∃ v : Rat,(((decVal (s.take i) : Nat) : Int) : Rat) = v:=⟨_,rfl⟩;rw [hv] at ho hq;have hdg:=dg_at HD.out hlt;obtain ⟨c0,hc0⟩ : ∃ c,atB s i = c:=⟨_,rfl⟩;have hget : ∀ h,(⟨s.toArray⟩ : ByteArray)[i]'h = c0:=fun h => by rw [← hc0]; exact (atB_lt hlt).symm
   rw [hc0] at hdg hq;obtain ⟨d,hd⟩ : ∃ d,dval c0 = d:=⟨_,rfl⟩;have hd9 : 48 ≤ c0.toNat ∧ c0.toNat ≤ 57:=by unfold isDg at hdg; simpa using hdg
   have hdv : c0.toNat - 48 = d:=hd;rw [hd] at hq;obtain ⟨cn,hcn⟩ : ∃ cn,c0.toNat = cn:=⟨_,rfl⟩;rw [hcn] at hd9 hdv;have hw8 : IntKind.u8.wrap ((cn : Int) - 48) = (d : Int):=by rw [show (cn : Int) - 48 = (d : Int) by omega]; exact IntWalk.u8_in _ ⟨by omega,by omega⟩
   have hd10 : d < 10:=by omega
   have hw64 : IntKind.i64.wrap (d : Int) = (d : Int):=IntWalk.i64_in _ ⟨by omega,by omega⟩;have HQ:=Lib.hid hq;clear hq hv hc0 hdg hd hd9 hdv hlt;obtain ⟨cx1ba,cx1bb,cx1bc⟩:=x1b.c3;obtain ⟨lx1ba,lx1bb,lx1bc,lx1bd⟩:=lts1 x1b.lt;go_wp2_with fail
   refine wp_region_lin (B:=w.heap.size) (fr:=fun xf => ⟨List.toArray (strV s :: undef :: .pointer (some ⟨w.heap.size,0,none⟩) :: .pointer (some ⟨w.heap.size + 1,0,none⟩) :: .int .i64 (i : Nat) :: .agg #[.bool false,.slice none 0 0,.slice none 0 0] :: .int .i64 (i : Nat) :: strV s :: .int .i64 (s.length : Nat) :: .bool true :: u10 :: u11 :: xf 0 :: xf 1 :: xf 2 :: xf 3 :: xf 4 :: xf 5 :: xf 6 :: xf 7 :: xf 8 :: xf 9 :: undef :: []),[]⟩) (R:=fun ri => List.getD ((PEq (.agg #[.bool bo,.slice Ao no co,.slice Do mo eo])) :: (VQ (((10 : Int) : Rat)) (1)) :: (VQ ((v) * (((10 : Int) : Rat))) (((1 + 3 * i)) + (1))) :: (PEq (strV s)) :: (PEq (.int .i64 (i : Nat))) :: (PEq (.int .u8 (cn : Nat))) :: (PEq (.int .u8 (d : Nat))) :: (PEq (.int .i64 (d : Nat))) :: (VQ ((((d : Nat) : Int) : Rat)) (1)) :: (VQ (((v) * (((10 : Int) : Rat))) + ((((d : Nat) : Int) : Rat))) ((((1 + 3 * i)) + (1)) + (1) + 1)) :: PAny :: []) ri (fun _ _ => True)) (es:=[]) (ow:=[⟨w.heap.size,11,0,88,#[.bool false,.slice none 0 0,.slice none 0 0],CAny⟩,⟨w.heap.size + 1,10,0,88,#[.bool bo,.slice Ao no co,.slice Do mo eo],CQ (((v) * (((10 : Int) : Rat))) + ((((d : Nat) : Int) : Rat))) ((((1 + 3 * i)) + (1)) + (1) + 1)⟩]) (x0:=(upd (upd (upd (upd (upd (upd (upd (upd (upd (upd (fun _ => undef) 0 (u12)) 1 (u13)) 2 (u14)) 3 (u15)) 4 (u16)) 5 (u17)) 6 (u18)) 7 (u19)) 8 (u20)) 9 (u21))) (by kernel_rfl)
    (each_of ⟨fun _ _ => rfl,fun _ _ => rfl,fun _ _ => rfl,fun _ _ => rfl,fun _ _ => rfl,fun _ _ => rfl,fun _ _ => rfl,fun _ _ => rfl,fun _ _ => rfl,fun _ _ => rfl,fun _ _ => rfl,trivial⟩) (each_of (acyc_from _ 0 (by kernel_rfl))) (AllStab.get _ ⟨stEq _,stQ _ _,stQ _ _,stEq _,stEq _,stEq _,stEq _,stEq _,stQ _ _,stQ _ _,stAny,trivial⟩)
    (fun _ h => nomatch h) (fmc ⟨scAny,fmc ⟨scQ _ _,fun _ h => nomatch h⟩⟩) (fun _ h => nomatch h) hbw.size
    (fmc ⟨⟨x1a,by show w.heap.size ≤ w.heap.size; omega⟩,fmc ⟨⟨x1b,by show w.heap.size ≤ w.heap.size + 1; omega⟩,fun _ h => nomatch h⟩⟩) (ownDist (by simp <;> omega))
    (each_of ⟨?_,?_,?_,?_,?_,?_,?_,?_,?_,?_,?_,trivial⟩) ?_
   ·exact .inl ⟨by simp,by simp,fun xf wq hk hbl hd K hK => by
     have y : Blk wq (w.heap.size + 1) 88 #[.bool bo,.slice Ao no co,.slice Do mo eo]:=hbl _ (List.Mem.tail _ (List.Mem.head _)) (by simp [Region.binds]);have hcl0:=y.c3;(try dsimp only);go_simp
     exact hK.out (.agg #[.bool bo,.slice Ao no co,.slice Do mo eo]) _ rfl (brefl _)⟩
   ·exact .inl ⟨by simp,by simp,fun xf wq hk hbl hd K hK => by
     (try dsimp only);go_simp;go_at_call 155;(with_reducible refine (g_of _ (10) ?_ ?_).mono ?_); (omega); (omega); rintro e wr ⟨b3,A3,n3,c3,A'3,n'3,c'3,rfl,h3,hbr⟩
     exact hK.out _ _ ⟨b3,A3,n3,c3,A'3,n'3,c'3,rfl,h3⟩ hbr⟩
   ·exact .inl ⟨by simp,by simp,fun xf wq hk hbl hd K hK => by
     have dq0 : xf 0 = .agg #[.bool bo,.slice Ao no co,.slice Do mo eo]:=hd ⟨0,.data⟩ (by simp) rfl;obtain ⟨b3,A3,n3,c3,A'3,n'3,c'3,dq1,h3⟩ : VQ (((10 : Int) : Rat)) (1) (xf 1) wq:=hd ⟨1,.data⟩ (by simp) rfl;(try dsimp only); (try simp only [dq0,dq1]);go_simp;go_at_call 275;(with_reducible refine (g_mul _ bo Ao no co Do mo eo (v) ((1 + 3 * i)) ?_ b3 A3 n3 c3 A'3 n'3 c'3 (((10 : Int) : Rat)) (1) ?_ ?_ ?_ ?_ ?_).mono ?_); (exact (ho.keep hk).qz); (exact h3.qz); (omega); (omega); (omega); (omega); rintro e wr ⟨b4,A4,n4,c4,A'4,n'4,c'4,rfl,h4,hbr⟩;have hz:=hK.out _ _ ⟨b4,A4,n4,c4,A'4,n'4,c'4,rfl,h4⟩ hbr;simp only [dq0,dq1] at hz
     exact hz⟩
   ·exact .inl ⟨by simp,by simp,fun xf wq hk hbl hd K hK => by
     (try dsimp only);go_simp
     exact hK.out (strV s) _ rfl (brefl _)⟩
   ·exact .inl ⟨by simp,by simp,fun xf wq hk hbl hd K hK => by
     (try dsimp only);go_simp
     exact hK.out (.int .i64 (i : Nat)) _ rfl (brefl _)⟩
   ·exact .inl ⟨by simp,by simp,fun xf wq hk hbl hd K hK => by
     have dq3 : xf 3 = strV s:=hd ⟨3,.data⟩ (by simp) rfl;have dq4 : xf 4 = .int .i64 (i : Nat):=hd ⟨4,.data⟩ (by simp) rfl;(try dsimp only); (try simp only [dq3,dq4]);go_simp;have hz:=hK.out (.int .u8 (cn : Nat)) _ rfl (brefl _);simp only [dq3,dq4] at hz
     exact hz⟩
   ·exact .inl ⟨by simp,by simp,fun xf wq hk hbl hd K hK => by
     have dq5 : xf 5 = .int .u8 (cn : Nat):=hd ⟨5,.data⟩ (by simp) rfl;(try dsimp only); (try simp only [dq5]);go_simp;have hz:=hK.out (.int .u8 (d : Nat)) _ rfl (brefl _);simp only [dq5] at hz
     exact hz⟩
   ·exact .inl ⟨by simp,by simp,fun xf wq hk hbl hd K hK => by
     have dq6 : xf 6 = .int .u8 (d : Nat):=hd ⟨6,.data⟩ (by simp) rfl;(try dsimp only); (try simp only [dq6]);go_simp;have hz:=hK.out (.int .i64 (d : Nat)) _ rfl (brefl _);simp only [dq6] at hz
     exact hz⟩
   ·exact .inl ⟨by simp,by simp,fun xf wq hk hbl hd K hK => by
     have dq7 : xf 7 = .int .i64 (d : Nat):=hd ⟨7,.data⟩ (by simp) rfl;(try dsimp only); (try simp only [dq7]);go_simp;go_at_call 155;(with_reducible refine (g_of _ ((d : Nat)) ?_ ?_).mono ?_); (omega); (omega); rintro e wr ⟨b5,A5,n5,c5,A'5,n'5,c'5,rfl,h5,hbr⟩;have hz:=hK.out _ _ ⟨b5,A5,n5,c5,A'5,n'5,c'5,rfl,h5⟩ hbr;simp only [dq7] at hz
     exact hz⟩
   ·exact .inl ⟨by simp,by simp,fun xf wq hk hbl hd K hK => by
     obtain ⟨b4,A4,n4,c4,A'4,n'4,c'4,dq2,h4⟩ : VQ ((v) * (((10 : Int) : Rat))) (((1 + 3 * i)) + (1)) (xf 2) wq:=hd ⟨2,.data⟩ (by simp) rfl;obtain ⟨b5,A5,n5,c5,A'5,n'5,c'5,dq8,h5⟩ : VQ ((((d : Nat) : Int) : Rat)) (1) (xf 8) wq:=hd ⟨8,.data⟩ (by simp) rfl;(try dsimp only); (try simp only [dq2,dq8]);go_simp;go_at_call 274;(with_reducible refine (g_add _ b4 A4 n4 c4 A'4 n'4 c'4 ((v) * (((10 : Int) : Rat))) (((1 + 3 * i)) + (1)) ?_ b5 A5 n5 c5 A'5 n'5 c'5 ((((d : Nat) : Int) : Rat)) (1) ?_ ?_ ?_ ?_ ?_).mono ?_); (exact h4.qz); (exact h5.qz); (omega); (omega); (omega); (omega); rintro e wr ⟨b6,A6,n6,c6,A'6,n'6,c'6,rfl,h6,hbr⟩;have hz:=hK.out _ _ ⟨b6,A6,n6,c6,A'6,n'6,c'6,rfl,h6⟩ hbr;simp only [dq2,dq8] at hz
     exact hz⟩
   ·exact .inr (.inr (.inr ⟨⟨w.heap.size + 1,10,0,88,#[.bool bo,.slice Ao no co,.slice Do mo eo],CQ (((v) * (((10 : Int) : Rat))) + ((((d : Nat) : Int) : Rat))) ((((1 + 3 * i)) + (1)) + (1) + 1)⟩,by simp,rfl,by simp,by simp,(show KT 88 = false by decide),fun _ _ => True.intro,fun xf wq hblk hd => by
     obtain ⟨b6,A6,n6,c6,A'6,n'6,c'6,dq9,h6⟩ : VQ (((v) * (((10 : Int) : Rat))) + ((((d : Nat) : Int) : Rat))) ((((1 + 3 * i)) + (1)) + (1) + 1) (xf 9) wq:=hd ⟨9,.data⟩ (by simp) rfl;dsimp only at hblk;refine ⟨[.bool b6,.slice A6 n6 c6,.slice A'6 n'6 c'6],fun w' hk => ⟨b6,A6,n6,c6,A'6,n'6,c'6,rfl,h6.keep hk⟩,fun K hK => ?_⟩;have hc0 : wq.cell? ⟨w.heap.size + 1,0,none⟩ = some (.bool bo):=hblk.cell 0;have hc1 : wq.cell? ⟨w.heap.size + 1,1,none⟩ = some (.slice Ao no co):=hblk.cell 1;have hc2 : wq.cell? ⟨w.heap.size + 1,2,none⟩ = some (.slice Do mo eo):=hblk.cell 2;have hf0 : wq.frozen? ⟨w.heap.size + 1,0,none⟩ = false:=hblk.frozen 0;have hf1 : wq.frozen? ⟨w.heap.size + 1,1,none⟩ = false:=hblk.frozen 1;have hf2 : wq.frozen? ⟨w.heap.size + 1,2,none⟩ = false:=hblk.frozen 2;(try dsimp only);simp only [dq9];go_simp;have hz:=hK.out undef;simp only [dq9] at hz
     exact hz⟩))
   clear cx1ba cx1bb cx1bc lx1ba lx1bb lx1bc lx1bd;intro y2 w2 kq2 hbl2 lw2 how hrr hfl hds;replace ho:=ho.keep kq2;replace hkp:=hkp.trans kq2;obtain ⟨_,z2_0,ez,_⟩:=how _ (List.Mem.head _);obtain rfl:=ez (by simp);dsimp only at z2_0;obtain ⟨_,z2_1,_,ez⟩:=how _ (List.Mem.tail _ (List.Mem.head _));obtain ⟨b6,A6,n6,c6,A'6,n'6,c'6,rfl,h6⟩:=ez (by simp);dsimp only at z2_1;(try dsimp only);clear hrr hfl how hds;clear x1a x1b;have bw2:=hbw.trans hbl2;have cz2_1_0 : w2.cell? ⟨w.heap.size + 1,0,none⟩ = some (.bool b6):=z2_1.cell 0;have cz2_1_1 : w2.cell? ⟨w.heap.size + 1,1,none⟩ = some (.slice A6 n6 c6):=z2_1.cell 1;have cz2_1_2 : w2.cell? ⟨w.heap.size + 1,2,none⟩ = some (.slice A'6 n'6 c'6):=z2_1.cell 2;have lz2_1:=lts1 z2_1.lt;go_wp2_with fail;clear cz2_1_0 cz2_1_1 cz2_1_2 lz2_1;go_roundw
   case rel => exact ⟨i + 1,b6,A6,n6,c6,A'6,n'6,c'6,by go_num,by omega,by rw [← HQ.out]; exact h6.mono (by omega),hkp,bw2,by omega,z2_0,z2_1⟩
   case measure => simp [intOf]; omega
  have hi1 : ((i : Int) < (s.length : Int)) = False:=by simp; omega
  obtain rfl : i = s.length:=by omega
  rw [List.take_length] at ho;have cx1a:=x1a.c3;have fx1a:=x1a.f3;have lx1a:=lts0 x1a.lt;obtain ⟨cx1ba,cx1bb,cx1bc⟩:=x1b.c3;obtain ⟨lx1ba,lx1bb,lx1bc,lx1bd⟩:=lts1 x1b.lt;go_wp2_with fail;refine bodyPost_ret (v:=.agg #[.bool bo,.slice Ao no co,.slice Do mo eo]) (by simp [results,Tryz.results221,go_sem, *] <;> trivial) rfl ?_;exact ⟨_,_,_,_,_,_,_,rfl,(ho.keep ((((Kp.refl wr).sb w.heap.size 0 x1a.box (by decide) (.bool bo)).sb w.heap.size 1 (x1a.box.set ⟨w.heap.size,0,none⟩ (.bool bo)) (by decide) (.slice Ao no co)).sb w.heap.size 2 ((x1a.box.set ⟨w.heap.size,0,none⟩ (.bool bo)).set ⟨w.heap.size,1,none⟩ (.slice Ao no co)) (by decide) (.slice Do mo eo))).mono (by omega),(((hbw.sc w.heap.size 0 (by omega) (.bool bo)).sc w.heap.size 1 (by omega) (.slice Ao no co)).sc w.heap.size 2 (by omega) (.slice Do mo eo))⟩
theorem div_ten (N : Int) (j : Nat) : Rat.divInt N ((10 ^ j : Nat) : Int) / ((10 : Int) : Rat) = Rat.divInt N ((10 ^ (j + 1) : Nat) : Int):=by
 rw [Rat.divInt_eq_div,Rat.divInt_eq_div,Nat.pow_succ,Int.natCast_mul,Rat.intCast_mul,Rat.div_def,Rat.div_def,Rat.div_def,Rat.inv_mul_rev,Rat.mul_assoc];congr 1;exact Rat.mul_comm _ _
theorem div_one (N : Int) : ((N : Int) : Rat) = Rat.divInt N ((10 ^ 0 : Nat) : Int):=(int_q N).symm
def tenQ (N j : Nat) : Rat:=Rat.divInt ((N : Nat) : Int) ((10 ^ j : Nat) : Int)
theorem neg_div (N : Int) (d : Int) : -(Rat.divInt N d) = Rat.divInt (-N) d:=by rw [Rat.neg_divInt]
theorem atB_sg (m : Bool) {D r : List UInt8} (h : isD D) : ((((atB (sg m (D ++ r)) 0).toNat : Nat) : Int) == 45) = m:=by
 obtain ⟨c,t,rfl,hc⟩:=isD_head h;cases m
 ·refine (byte_eq c 45).trans ?_
  have h45 : c ≠ 45:=by rintro rfl; exact absurd hc (by decide)
  simpa using h45
 rfl
theorem atB_mid (D r : List UInt8) (c : UInt8) : atB (D ++ c :: r) D.length = c:=by
 unfold atB;rw [List.getD_eq_getElem?_getD,List.getElem?_append_right (Nat.le_refl _)];simp
theorem atB_end (D : List UInt8) : atB D D.length = 0:=atB_ge (Nat.le_refl _)
theorem r_value_large (w : World) (s : List UInt8) (h : 60 < s.length) : Calls Tryz.prog 172 #[strV s] w (RetFe w (.int .i64 4) 0 1):=by
 have hszs:=size_v s;have hlen : ((60 : Int) < (s.length : Int)) = True:=eq_true (by omega);go_enter Tryz.func172,Tryz.ntmps172;go_wp2_with fail;refine bodyPost_ret (v:=.tuple #[.agg #[.bool false,.slice none 0 0,.slice none 0 0],.int .i64 4]) (by simp [results,Tryz.results172,go_sem, *] <;> trivial) rfl ?_;exact ⟨_,_,_,_,_,_,_,rfl,QV.zero _ _,((brefl w).alloc (by first | omega | (simp <;> omega)) (.cells #[.bool false,.slice none 0 0,.slice none 0 0] 88))⟩
theorem r_value_bad (w : World) (s : List UInt8) (h : s.length ≤ 60) (hb : s.length = 0 ∨ numN s ≠ s.length) : Calls Tryz.prog 172 #[strV s] w (RetFe w (.int .i64 2) 0 1):=by
 have hszs:=size_v s;have hlen : ((60 : Int) < (s.length : Int)) = False:=eq_false (by omega);obtain ⟨n,hn⟩ : ∃ n,numN s = n:=⟨_,rfl⟩;rw [hn] at hb;by_cases h0 : s.length = 0
 ·have hz : (((s.length : Nat) : Int) == 0) = true:=by simp [h0]
  have hz2 : (((s.length : Nat) : Int) = 0) = True:=eq_true (by omega);clear hb hn h0;go_enter Tryz.func172,Tryz.ntmps172;go_wp2_with fail;refine bodyPost_ret (v:=.tuple #[.agg #[.bool false,.slice none 0 0,.slice none 0 0],.int .i64 2]) (by simp [results,Tryz.results172,go_sem, *] <;> trivial) rfl ?_;exact ⟨_,_,_,_,_,_,_,rfl,QV.zero _ _,((brefl w).alloc (by first | omega | (simp <;> omega)) (.cells #[.bool false,.slice none 0 0,.slice none 0 0] 88))⟩
 have e0 : ((s.length : Int) == 0) = false:=beq_eq_false_iff_ne.2 (by omega);have e00 : ((s.length : Int) = 0) = False:=eq_false (by omega);have e1 : ((n : Int) == (s.length : Int)) = false:=beq_eq_false_iff_ne.2 (by omega);have hsl : s.length < 4611686018427387904:=by omega
 clear hb h0;go_enter Tryz.func172,Tryz.ntmps172;go_wp2_with fail;(with_reducible refine (r_numberEnd _ (s) (0) 0 rfl (Nat.zero_le _) hsl (n : Nat) (by rw [List.drop_zero,Nat.zero_add,hn])).mono ?_); rintro e w1 ⟨rfl,hb1⟩;have q1:=hb1.q1;have x1a : Blk w1 w.heap.size 88 #[.bool false,.slice none 0 0,.slice none 0 0]:=(blkAt _ _ _ (by simp)).below hb1 (by simp);have bw1:=(brefl w).trans (q1.mono (brefl w).size);have lw1:=hb1.l1;clear q1;have cx1a:=x1a.c3;have fx1a:=x1a.f3;have lx1a:=lts0 x1a.lt;go_wp2_with fail;refine bodyPost_ret (v:=.tuple #[.agg #[.bool false,.slice none 0 0,.slice none 0 0],.int .i64 2]) (by simp [results,Tryz.results172,go_sem, *] <;> trivial) rfl ?_;exact ⟨_,_,_,_,_,_,_,rfl,QV.zero _ _,(((bw1.sc w.heap.size 0 (by omega) (.bool false)).sc w.heap.size 1 (by omega) (.slice none 0 0)).sc w.heap.size 2 (by omega) (.slice none 0 0))⟩
inductive RO (D R : List UInt8) (x : Int) (q : Rat) : Prop
  | whole (h : R = []) (hx : x = 0) (hq : q = ((decVal D : Int) : Rat))
  | zero (E : List UInt8) (hE : isD E) (h : R = 47 :: E) (h0 : decVal E = 0) (hx : x = 8) (hq : q = 0)
  | quo (E : List UInt8) (hE : isD E) (h : R = 47 :: E) (h0 : decVal E ≠ 0) (hx : x = 0) (hq : q = ((decVal D : Int) : Rat) / ((decVal E : Int) : Rat))
  | dot (E : List UInt8) (hE : isD E) (h : R = 46 :: E) (hx : x = 0) (hq : q = tenQ (decVal (D ++ E)) E.length)
theorem r_value_n (w : World) (s : List UInt8) (m : Bool) (D R : List UInt8) (h : s.length ≤ 60) (hn : numN s = s.length) (hD : isD D) (hs : s = sg m (D ++ R)) (x : Int) (q1 : Rat) (hO : RO D R x q1) (q : Rat) (hq : x = 0 → (if m then -q1 else q1) = q) (hq0 : x ≠ 0 → q = 0) :
 Calls Tryz.prog 172 #[strV s] w (RetFe w (.int .i64 x) q 500):=by
 have hDl : 0 < D.length:=List.length_pos_iff.2 hD.1;obtain ⟨B,hB⟩ : ∃ B : List UInt8,D ++ R = B:=⟨_,rfl⟩;have hBl : B.length = D.length + R.length:=by rw [← hB,List.length_append]
 have hsl : B.length ≤ s.length ∧ s.length ≤ B.length + 1:=by rw [hs,hB]; cases m <;> simp [sg]
 have hszs:=size_v s;have hszB:=size_v B;have hlen : ((60 : Int) < (s.length : Int)) = False:=eq_false (by omega);have hn0 : ((s.length : Int) == 0) = false:=beq_eq_false_iff_ne.2 (by omega);have hn00 : ((s.length : Int) = 0) = False:=eq_false (by omega);have he45:=atB_sg m (r:=R) hD;rw [← hs] at he45;have hlt0 : 0 < s.length:=by omega
 obtain ⟨c0,hc0⟩ : ∃ c,atB s 0 = c:=⟨_,rfl⟩;have hget : ∀ h,(⟨s.toArray⟩ : ByteArray)[0]'h = c0:=fun h => by rw [← hc0]; exact (atB_lt hlt0).symm
 rw [hc0] at he45;have hss : s.length < 4611686018427387904:=by omega
 have hBs : B.length < 4611686018427387904:=by omega
 have hD6 : D.length ≤ 60:=by omega
 have hs1 : (1 : Int) ≤ (s.length : Int):=by omega
 have hdg : digN B = D.length:=by
  rw [← hB];rcases hO with ⟨h,_⟩ | ⟨E,_,h,_⟩ | ⟨E,_,h,_⟩ | ⟨E,_,h,_⟩
  ·rw [h,List.append_nil]; have:=digN_front (D:=D) (r:=[]) hD.2 (fun c t e => by cases e); rwa [List.append_nil] at this
  ·rw [h]; exact digN_front hD.2 (fun c t e => by injection e with e _; rw [← e]; rfl)
  ·rw [h]; exact digN_front hD.2 (fun c t e => by injection e with e _; rw [← e]; rfl)
  rw [h]; exact digN_front hD.2 (fun c t e => by injection e with e _; rw [← e]; rfl)
 have e2 : (⟨B.toArray⟩ : ByteArray).extract 0 D.length = ⟨D.toArray⟩:=by rw [ext_v,List.drop_zero,Nat.sub_zero,← hB]; simp
 have hDB : (D.length : Int) ≤ (B.length : Int):=by omega
 have hD0 : (0 : Int) ≤ (D.length : Int):=by omega
 have HN:=Lib.hid hn;have HO:=Lib.hid hO;have HQ:=Lib.hid hq;have HQ0:=Lib.hid hq0;have HDD:=Lib.hid hD;have HB:=Lib.hid hB;have HS:=Lib.hid hs;have HDG:=Lib.hid hdg;have HL:=Lib.hid (And.intro hBl hsl);clear hn hO hq hq0 hD hB hs hdg hc0 hBl hsl;go_enter Tryz.func172,Tryz.ntmps172;go_wp2_with fail;(refine (r_numberEnd _ s 0 0 rfl (Nat.zero_le _) hss (s.length : Nat) (by rw [List.drop_zero,Nat.zero_add,HN.out])).mono ?_); rintro e w1 ⟨rfl,hb1⟩;have q1_ : Below w.heap.size w w1:=((brefl w).alloc (Nat.le_refl _) _).trans (hb1.mono (by simp));have x1 : Blk w1 w.heap.size 88 #[.bool false,.slice none 0 0,.slice none 0 0]:=(blkAt _ _ _ (by simp)).below hb1 (by simp);clear hb1;go_upto_if 27 with fail;go_cut [0] (fun s0 wx => s0 = strV B ∧ w1 = wx)
 case first =>
  cases m
  ·have e : s = B:=by have:=HS.out; rw [HB.out] at this; exact this
   subst e;go_wp2_with fail;go_meet;exact ⟨rfl,rfl⟩
  ·have e1 : (⟨s.toArray⟩ : ByteArray).extract 1 s.length = ⟨B.toArray⟩:=by
    rw [ext_v,HS.out,HB.out]; simp [sg]
   go_wp2_with fail;go_meet;exact ⟨rfl,rfl⟩
 case rest =>
  obtain ⟨rfl,rfl⟩:=hcut;clear hget;go_wp2_with fail;(refine (r_digitsEnd_x _ B 0 0 rfl (Nat.zero_le _) hBs (D.length : Nat) (by rw [List.drop_zero,Nat.zero_add,HDG.out])).mono ?_); rintro e w2 ⟨rfl,hb2⟩;replace x1:=x1.b hb2;replace q1_:=q1_.trans (hb2.mono q1_.size);clear hb2;go_wp2_with fail;(refine (r_whole _ D HDD.out.2 hD6).mono ?_); rintro e w3 ⟨b3,A3,n3,c3,D3,m3,e3,rfl,h3,hb3⟩;replace x1:=x1.b hb3;replace q1_:=q1_.trans (hb3.mono q1_.size);clear hb3;go_upto_region 10 with fail;refine genw ?_;intro w4 hw4;have q4 : Below w3.heap.size w3 w4:=by rw [hw4]; exact (brefl w3).alloc (Nat.le_refl _) _
  have x4 : Blk w4 w3.heap.size 88 #[.bool b3,.slice A3 n3 c3,.slice D3 m3 e3]:=by rw [hw4]; exact Blk.new w3 _ _
  have l4:=x1.lt;replace x1:=x1.b q4;replace h3:=h3.belw q4;replace q1_:=q1_.trans (q4.mono q1_.size);obtain ⟨g,hg⟩ : ∃ g,w3.heap.size = g:=⟨_,rfl⟩;rw [hg] at x4 l4 ⊢;clear hw4 q4 hg;obtain ⟨c,hc⟩ : ∃ c,atB B D.length = c:=⟨_,rfl⟩;have HC:=Lib.hid hc;clear hc;go_wp2_with fail;(refine (r_at_x _ B (D.length : Nat) D.length rfl c HC.out).mono ?_); rintro e w5 ⟨rfl,hb5⟩;replace x1:=x1.b hb5;replace x4:=x4.b hb5;replace h3:=h3.belw hb5;replace q1_:=q1_.trans (hb5.mono q1_.size);clear hb5;go_upto_if 39 with fail;go_cut [] (fun wx => ∃ qa b A n d D' m' e',Blk wx w.heap.size 88 #[.bool false,.slice none 0 0,.slice none 0 0] ∧ Blk wx g 88 #[.bool b,.slice A n d,.slice D' m' e'] ∧ QV wx b A n d D' m' e' qa 363 ∧ Below w.heap.size w wx ∧ x = 0 ∧ (c = 46 ∨ (c ≠ 46 ∧ qa = q1)))
  case first =>
   rcases HO.out with ⟨h,rfl,rfl⟩ | ⟨E,hE,h,h0,rfl,rfl⟩ | ⟨E,hE,h,h0,rfl,rfl⟩ | ⟨E,hE,h,rfl,rfl⟩
   ·obtain rfl : c = 0:=by rw [← HC.out,← HB.out,h,List.append_nil]; exact atB_end D
    go_wp2_with fail;go_meet;exact ⟨_,_,_,_,_,_,_,_,x1,x4,h3.mono (by decide),q1_,by trivial,.inr ⟨by decide,rfl⟩⟩
   ·obtain rfl : q = 0:=HQ0.out (by decide)
    obtain rfl : c = 47:=by rw [← HC.out,← HB.out,h]; exact atB_mid D E 47
    have hRl : B.length = D.length + (E.length + 1):=by have:=HL.out.1; rw [h] at this; simpa using this
    have hw1 : IntKind.i64.wrap ((D.length : Int) + 1) = (D.length : Int) + 1:=IntWalk.i64_in _ ⟨by omega,by omega⟩;have ht1 : ((D.length : Int) + 1).toNat = D.length + 1:=by omega
    have hD1 : (D.length : Int) + 1 ≤ (B.length : Int):=by omega
    have hD2 : (0 : Int) ≤ (D.length : Int) + 1:=by omega
    have e3 : (⟨B.toArray⟩ : ByteArray).extract (D.length + 1) B.length = ⟨E.toArray⟩:=by
     rw [ext_v,← HB.out,h]; simp; exact List.take_of_length_le (by omega)
    have hE6 : E.length ≤ 60:=by have:=HL.out.2.1; omega
    clear hRl h;go_wp2_with fail;(refine (r_whole _ E hE.2 hE6).mono ?_); rintro e w6 ⟨b5,A5,n5,c5,D5,m5,e5,rfl,h5,hb6⟩;replace x1:=x1.b hb6;replace x4:=x4.b hb6;replace h3:=h3.belw hb6;replace q1_:=q1_.trans (hb6.mono q1_.size);clear hb6;go_upto_region 12 with fail;refine genw ?_;intro w7 hw7;have q7 : Below w6.heap.size w6 w7:=by rw [hw7]; exact (brefl w6).alloc (Nat.le_refl _) _
    have x7 : Blk w7 w6.heap.size 88 #[.bool b5,.slice A5 n5 c5,.slice D5 m5 e5]:=by rw [hw7]; exact Blk.new w6 _ _
    replace x1:=x1.b q7;replace x4:=x4.b q7;replace h3:=h3.belw q7;replace h5:=h5.belw q7;replace q1_:=q1_.trans (q7.mono q1_.size);clear hw7 q7;have y:=x7.v3;go_wp2_with fail;(refine (g_sign_v _ b5 A5 n5 c5 D5 m5 e5 _ 181 h5.qz 0 (by rw [h0]; rfl) (by decide) (by decide)).mono ?_); rintro e w8 ⟨rfl,hb8⟩;replace x1:=x1.b hb8;replace x4:=x4.b hb8;replace x7:=x7.b hb8;replace h3:=h3.belw hb8;replace h5:=h5.belw hb8;replace q1_:=q1_.trans (hb8.mono q1_.size);clear hb8 y;have y:=x1.v3;go_wp2_with fail;refine bodyPost_ret (v:=.tuple #[.agg #[.bool false,.slice none 0 0,.slice none 0 0],.int .i64 8]) (by simp [results,Tryz.results172,go_sem, *] <;> trivial) rfl ?_;exact ⟨_,_,_,_,_,_,_,rfl,QV.zero _ _,((q1_.setCell (p:=⟨w.heap.size,0,none⟩) (Nat.le_refl _) _).setCell (p:=⟨w.heap.size,1,none⟩) (Nat.le_refl _) _).setCell (p:=⟨w.heap.size,2,none⟩) (Nat.le_refl _) _⟩
   ·have hpos : (((decVal E : Nat) : Int) : Rat).num.sign = 1:=by rw [Rat.num_intCast]; exact Int.sign_eq_one_iff_pos.2 (by omega)
    obtain rfl : c = 47:=by rw [← HC.out,← HB.out,h]; exact atB_mid D E 47
    have hRl : B.length = D.length + (E.length + 1):=by have:=HL.out.1; rw [h] at this; simpa using this
    have hw1 : IntKind.i64.wrap ((D.length : Int) + 1) = (D.length : Int) + 1:=IntWalk.i64_in _ ⟨by omega,by omega⟩;have ht1 : ((D.length : Int) + 1).toNat = D.length + 1:=by omega
    have hD1 : (D.length : Int) + 1 ≤ (B.length : Int):=by omega
    have hD2 : (0 : Int) ≤ (D.length : Int) + 1:=by omega
    have e3 : (⟨B.toArray⟩ : ByteArray).extract (D.length + 1) B.length = ⟨E.toArray⟩:=by
     rw [ext_v,← HB.out,h]; simp; exact List.take_of_length_le (by omega)
    have hE6 : E.length ≤ 60:=by have:=HL.out.2.1; omega
    clear hRl h;go_wp2_with fail;(refine (r_whole _ E hE.2 hE6).mono ?_); rintro e w6 ⟨b5,A5,n5,c5,D5,m5,e5,rfl,h5,hb6⟩;replace x1:=x1.b hb6;replace x4:=x4.b hb6;replace h3:=h3.belw hb6;replace q1_:=q1_.trans (hb6.mono q1_.size);clear hb6;go_upto_region 12 with fail;refine genw ?_;intro w7 hw7;have q7 : Below w6.heap.size w6 w7:=by rw [hw7]; exact (brefl w6).alloc (Nat.le_refl _) _
    have x7 : Blk w7 w6.heap.size 88 #[.bool b5,.slice A5 n5 c5,.slice D5 m5 e5]:=by rw [hw7]; exact Blk.new w6 _ _
    replace x1:=x1.b q7;replace x4:=x4.b q7;replace h3:=h3.belw q7;replace h5:=h5.belw q7;replace q1_:=q1_.trans (q7.mono q1_.size);clear hw7 q7;have y:=x7.v3;go_wp2_with fail;(refine (g_sign_v _ b5 A5 n5 c5 D5 m5 e5 _ 181 h5.qz 1 (by exact hpos) (by decide) (by decide)).mono ?_); rintro e w8 ⟨rfl,hb8⟩;replace x1:=x1.b hb8;replace x4:=x4.b hb8;replace x7:=x7.b hb8;replace h3:=h3.belw hb8;replace h5:=h5.belw hb8;replace q1_:=q1_.trans (hb8.mono q1_.size);clear hb8 y;have y:=And.intro x4.v3 x7.v3;go_wp2_with fail;clear e2 e3 he45;(refine (g_div _ b3 A3 n3 c3 D3 m3 e3 _ 181 h3.qz b5 A5 n5 c5 D5 m5 e5 _ 181 h5.qz (by decide) (by decide) (by decide) (by decide) (fun e => by rw [e] at hpos; exact absurd hpos (by decide))).mono ?_); rintro e w9 ⟨b6,A6,n6,c6,D6,m6,e6,rfl,h6,hb9⟩;replace x1:=x1.b hb9;replace x4:=x4.b hb9;replace q1_:=q1_.trans (hb9.mono q1_.size);clear hb9 y;have y:=x4.v3;go_wp2_with fail;go_meet;exact ⟨_,_,_,_,_,_,_,_,((x1.far (p:=⟨g,0,none⟩) (by show w.heap.size ≠ g; omega) _).far (p:=⟨g,1,none⟩) (by show w.heap.size ≠ g; omega) _).far (p:=⟨g,2,none⟩) (by show w.heap.size ≠ g; omega) _,((x4.set_ 0 _).set_ 1 _).set_ 2 _,(h6.keep (x4.k3 (by decide) _ _ _)).mono (by decide),((q1_.setCell (p:=⟨g,0,none⟩) (by show w.heap.size ≤ g; omega) _).setCell (p:=⟨g,1,none⟩) (by show w.heap.size ≤ g; omega) _).setCell (p:=⟨g,2,none⟩) (by show w.heap.size ≤ g; omega) _,by trivial,.inr ⟨by decide,rfl⟩⟩
   obtain rfl : c = 46:=by rw [← HC.out,← HB.out,h]; exact atB_mid D E 46
   go_wp2_with fail;go_meet;exact ⟨_,_,_,_,_,_,_,_,x1,x4,h3.mono (by decide),q1_,by trivial,.inl (by trivial)⟩
  case rest =>
   clear x1 x4 h3 q1_;obtain ⟨qa,b,A,n,d,D',m',e',x1,x4,h3,q1_,rfl,hcc⟩:=hcut;rename World => w6;have HCC:=Lib.hid hcc;clear hcc;go_wp2_with fail;(refine (r_at_x _ B (D.length : Nat) D.length rfl c HC.out).mono ?_); rintro e w7 ⟨rfl,hb7⟩;replace x1:=x1.b hb7;replace x4:=x4.b hb7;replace h3:=h3.belw hb7;replace q1_:=q1_.trans (hb7.mono q1_.size);clear hb7;go_upto_if 58 with fail;go_cut [] (fun wx => ∃ b A n d D' m' e',Blk wx w.heap.size 88 #[.bool false,.slice none 0 0,.slice none 0 0] ∧ Blk wx g 88 #[.bool b,.slice A n d,.slice D' m' e'] ∧ QV wx b A n d D' m' e' q1 363 ∧ Below w.heap.size w wx)
   case first =>
    rcases HCC.out with hc | ⟨hc,rfl⟩
    ·subst hc
     obtain ⟨E,hE,h,hq1⟩ : ∃ E,isD E ∧ R = 46 :: E ∧ q1 = tenQ (decVal (D ++ E)) E.length:=by
      have hcc:=HC.out;rw [← HB.out] at hcc;rcases HO.out with ⟨h,_⟩ | ⟨E,_,_,_,hx,_⟩ | ⟨E,_,h,_⟩ | ⟨E,hE,h,_,hq⟩
      ·rw [h,List.append_nil,atB_end] at hcc; exact absurd hcc (by decide)
      ·exact absurd hx (by decide)
      ·rw [h,atB_mid] at hcc; exact absurd hcc (by decide)
      exact ⟨E,hE,h,hq⟩
     subst hq1;have hRl : B.length = D.length + (E.length + 1):=by have:=HL.out.1; rw [h] at this; simpa using this
     have hw1 : IntKind.i64.wrap ((D.length : Int) + 1) = (D.length : Int) + 1:=IntWalk.i64_in _ ⟨by omega,by omega⟩;have ht1 : ((D.length : Int) + 1).toNat = D.length + 1:=by omega
     have hD1 : (D.length : Int) + 1 ≤ (B.length : Int):=by omega
     have hD2 : (0 : Int) ≤ (D.length : Int) + 1:=by omega
     have e3 : (⟨B.toArray⟩ : ByteArray).extract (D.length + 1) B.length = ⟨E.toArray⟩:=by
      rw [ext_v,← HB.out,h]; simp; exact List.take_of_length_le (by omega)
     have hE6 : E.length ≤ 60:=by have:=HL.out.2.1; omega
     have ha1:=app_v D E;have hk1 : (9223372036854775807 < D.length + E.length) = False:=eq_false (by omega);have hDE : (D ++ E).all isDg = true ∧ (D ++ E).length ≤ 60:=⟨by rw [List.all_append,HDD.out.2,hE.2]; rfl,by have:=HL.out.2.1; rw [List.length_append]; omega⟩;have HDE:=Lib.hid hDE;have hbe : B.length ≤ D.length + (E.length + 1) ∧ D.length + (E.length + 1) ≤ B.length:=by omega
     clear hDE h hRl hE;go_wp2_with fail
     go_region_with (first
      | (go_at_call 221; (with_reducible refine (r_whole _ (D ++ E) HDE.out.1 HDE.out.2).mono ?_); rintro e w8 ⟨b6,A6,n6,c6,D6,m6,e6,rfl,h6,hb8⟩; replace hb8:=bnext (below_drewN (brefl _) 1) hb8; replace x1:=x1.b hb8; replace x4:=x4.b hb8; replace q1_:=q1_.trans (hb8.mono q1_.size); have y:=x4.v3))
     all_goals
      go_wp2_with fail;refine genw ?_;intro w10 hw10;have z1 : Blk w10 w.heap.size 88 #[.bool false,.slice none 0 0,.slice none 0 0]:=by rw [hw10]; exact ((x1.far (p:=⟨g,0,none⟩) (by show w.heap.size ≠ g; omega) _).far (p:=⟨g,1,none⟩) (by show w.heap.size ≠ g; omega) _).far (p:=⟨g,2,none⟩) (by show w.heap.size ≠ g; omega) _
      have z4 : Blk w10 g 88 #[.bool b6,.slice A6 n6 c6,.slice D6 m6 e6]:=by rw [hw10]; exact ((x4.set_ 0 _).set_ 1 _).set_ 2 _
      have z6 : QV w10 b6 A6 n6 c6 D6 m6 e6 (((decVal (D ++ E) : Nat) : Int) : Rat) 181:=by rw [hw10]; exact h6.keep (x4.k3 (by decide) _ _ _)
      have zq : Below w.heap.size w w10:=by rw [hw10]; exact ((q1_.setCell (p:=⟨g,0,none⟩) (by show w.heap.size ≤ g; omega) _).setCell (p:=⟨g,1,none⟩) (by show w.heap.size ≤ g; omega) _).setCell (p:=⟨g,2,none⟩) (by show w.heap.size ≤ g; omega) _
      clear hw10 x1 x4 h6 h3 q1_ y hb8 e2 e3 ha1;go_loopw [8] (fun iv wr => ∃ (j : Nat) (b : Bool) (A : Option Addr) (n d : Nat) (D' : Option Addr) (m' e' : Nat),iv = .int .i64 (j : Nat) ∧ D.length + 1 ≤ j ∧ j ≤ B.length ∧ QV wr b A n d D' m' e' (tenQ (decVal (D ++ E)) (j - (D.length + 1))) (181 + (j - (D.length + 1))) ∧ Blk wr w.heap.size 88 #[.bool false,.slice none 0 0,.slice none 0 0] ∧ Blk wr g 88 #[.bool b,.slice A n d,.slice D' m' e'] ∧ Below w.heap.size w wr) (fun iv _ => B.length - (intOf iv).toNat)
      case atStart => exact ⟨D.length + 1,b6,A6,n6,c6,D6,m6,e6,rfl,Nat.le_refl _,by omega,by rw [Nat.sub_self]; unfold tenQ; rw [← div_one]; exact z6,z1,z4,zq⟩
      case round =>
       clear z1 z4 z6 zq;obtain ⟨j,b,A,n,d,D',m',e',rfl,hj,hj2,h6,x1,x4,q1_⟩:=hrel;rename World => wr;by_cases hlt : j < B.length
       ·have hi1 : ((j : Int) < (B.length : Int)) = True:=by simp; omega
        have hq:=div_ten ((decVal (D ++ E) : Nat) : Int) (j - (D.length + 1));obtain ⟨v,hv⟩ : ∃ v : Rat,tenQ (decVal (D ++ E)) (j - (D.length + 1)) = v:=⟨_,rfl⟩;obtain ⟨S,hS⟩ : ∃ S,181 + (j - (D.length + 1)) = S:=⟨_,rfl⟩;rw [show Rat.divInt ((decVal (D ++ E) : Nat) : Int) ((10 ^ (j - (D.length + 1)) : Nat) : Int) = v from hv,show j - (D.length + 1) + 1 = j + 1 - (D.length + 1) by omega] at hq;rw [hv,hS] at h6;have hS2 : 1 ≤ S ∧ S ≤ 300:=by omega
        have HQ9:=Lib.hid hq;have HLT:=Lib.hid hlt;have HSS:=Lib.hid hS;have y:=x4.v3;clear hq hv hS hlt;go_wp2_with fail
        go_region_with (first
         | (go_at_call 155; (with_reducible refine (g_of _ 10 ?_ ?_).mono ?_); (decide); (decide); rintro e w11 ⟨b7,A7,n7,c7,D7,m7,e7,rfl,h7,hb11⟩; replace hb11:=bnext (below_drewN (brefl _) 1) hb11; replace h6:=h6.belw hb11; replace x1:=x1.b hb11; replace x4:=x4.b hb11; replace q1_:=q1_.trans (hb11.mono q1_.size); have y:=x4.v3)
         | (go_at_call 223; (with_reducible refine (g_div _ b A n d D' m' e' v S ?_ b7 A7 n7 c7 D7 m7 e7 ((10 : Int) : Rat) 1 ?_ ?_ ?_ ?_ ?_ ?_).mono ?_); (exact h6.qz); (exact h7.qz); (omega); (omega); (decide); (decide); (decide); rintro e w12 ⟨b8,A8,n8,c8,D8,m8,e8,rfl,h8,hb12⟩; replace x1:=x1.b hb12; replace x4:=x4.b hb12; replace q1_:=q1_.trans (hb12.mono q1_.size); have y:=x4.v3))
        all_goals
         go_wp2_with fail;go_roundw
         case rel => exact ⟨j + 1,b8,A8,n8,c8,D8,m8,e8,by go_num,by omega,by have:=HLT.out; omega,(by have h9:=h8.keep (x4.k3 (by decide) (.bool b8) (.slice A8 n8 c8) (.slice D8 m8 e8)); rw [HQ9.out] at h9; exact h9.mono (by have:=HSS.out; omega)),((x1.far (p:=⟨g,0,none⟩) (by show w.heap.size ≠ g; omega) _).far (p:=⟨g,1,none⟩) (by show w.heap.size ≠ g; omega) _).far (p:=⟨g,2,none⟩) (by show w.heap.size ≠ g; omega) _,((x4.set_ 0 _).set_ 1 _).set_ 2 _,((q1_.setCell (p:=⟨g,0,none⟩) (by show w.heap.size ≤ g; omega) _).setCell (p:=⟨g,1,none⟩) (by show w.heap.size ≤ g; omega) _).setCell (p:=⟨g,2,none⟩) (by show w.heap.size ≤ g; omega) _⟩
         case measure => have:=HLT.out; simp [intOf]; omega
       have hi1 : ((j : Int) < (B.length : Int)) = False:=by simp; omega
       have e9 : j - (D.length + 1) = E.length:=by omega
       rw [e9] at h6;go_wp2_with fail;go_meet;exact ⟨_,_,_,_,_,_,_,x1,x4,h6.mono (by omega),q1_⟩
    have t1 : (((c.toNat : Nat) : Int) == 46) = false:=(byte_eq c 46).trans (by simpa using hc);clear hc;go_wp2_with fail;go_meet;exact ⟨_,_,_,_,_,_,_,x1,x4,h3,q1_⟩
   case rest =>
    clear x1 x4 h3 q1_;obtain ⟨b,A,n,d,D',m',e',x1,x4,h3,q1_⟩:=hcut;rename World => w9;go_upto_if 82 with fail;go_cut [] (fun wx => ∃ b A n d D' m' e',Blk wx w.heap.size 88 #[.bool false,.slice none 0 0,.slice none 0 0] ∧ Blk wx g 88 #[.bool b,.slice A n d,.slice D' m' e'] ∧ QV wx b A n d D' m' e' q 500 ∧ Below w.heap.size w wx)
    case first =>
     cases m
     ·obtain rfl : q1 = q:=HQ.out (by trivial)
      go_wp2_with fail;go_meet;exact ⟨_,_,_,_,_,_,_,x1,x4,h3.mono (by decide),q1_⟩
     obtain rfl : -q1 = q:=HQ.out (by trivial);have y:=x4.v3;go_wp2_with fail;(refine (g_neg _ b A n d D' m' e' q1 363 h3.qz (by decide) (by decide)).mono ?_); rintro e w10 ⟨b6,A6,n6,c6,D6,m6,e6,rfl,h6,hb10⟩;replace x1:=x1.b hb10;replace x4:=x4.b hb10;replace q1_:=q1_.trans (hb10.mono q1_.size);clear hb10 y;have y:=x4.v3;go_wp2_with fail;go_meet;exact ⟨_,_,_,_,_,_,_,((x1.far (p:=⟨g,0,none⟩) (by show w.heap.size ≠ g; omega) _).far (p:=⟨g,1,none⟩) (by show w.heap.size ≠ g; omega) _).far (p:=⟨g,2,none⟩) (by show w.heap.size ≠ g; omega) _,((x4.set_ 0 _).set_ 1 _).set_ 2 _,(h6.keep (x4.k3 (by decide) _ _ _)).mono (by decide),((q1_.setCell (p:=⟨g,0,none⟩) (by show w.heap.size ≤ g; omega) _).setCell (p:=⟨g,1,none⟩) (by show w.heap.size ≤ g; omega) _).setCell (p:=⟨g,2,none⟩) (by show w.heap.size ≤ g; omega) _⟩
    case rest =>
     clear x1 x4 h3 q1_;obtain ⟨b,A,n,d,D',m',e',x1,x4,h3,q1_⟩:=hcut;rename World => w11;have y:=And.intro x1.v3 x4.v3;go_wp2_with fail;refine bodyPost_ret (v:=.tuple #[.agg #[.bool b,.slice A n d,.slice D' m' e'],.int .i64 0]) (by simp [results,Tryz.results172,go_sem, *] <;> trivial) rfl ?_;exact ⟨_,_,_,_,_,_,_,rfl,h3.keep (x1.k3 (by decide) _ _ _),((q1_.setCell (p:=⟨w.heap.size,0,none⟩) (Nat.le_refl _) _).setCell (p:=⟨w.heap.size,1,none⟩) (Nat.le_refl _) _).setCell (p:=⟨w.heap.size,2,none⟩) (Nat.le_refl _) _⟩
theorem r_value_o (w : World) (s : List UInt8) (x : Int) (q : Rat) (h : ValOut s x q) : Calls Tryz.prog 172 #[strV s] w (RetFe w (.int .i64 x) q 500):=by
 have hm : ∀ {v : Value} {e : Ending} {w' : World},RetFe w v q 1 e w' → RetFe w v q 500 e w':=fun h => by
  obtain ⟨b,A,n,c,A',n',c',h1,h2,h3⟩:=h;exact ⟨b,A,n,c,A',n',c',h1,h2.mono (by decide),h3⟩
 rcases h with ⟨h,rfl,rfl⟩ | ⟨h,hb,rfl,rfl⟩ | ⟨m,D,h,hn,hD,hs,rfl,rfl⟩ | ⟨m,D,E,h,hn,hD,hE,hs,h0,rfl,rfl⟩ | ⟨m,D,E,h,hn,hD,hE,hs,h0,rfl,rfl⟩ | ⟨m,D,E,h,hn,hD,hE,hs,rfl,rfl⟩
 ·exact (r_value_large w s h).mono fun _ _ r => hm r
 ·exact (r_value_bad w s h hb).mono fun _ _ r => hm r
 ·exact r_value_n w s m D [] h hn hD (by rw [List.append_nil]; exact hs) 0 _ (.whole rfl rfl rfl) _ (fun _ => by cases m <;> simp [sgI]) (fun h => absurd rfl h)
 ·exact r_value_n w s m D (47 :: E) h hn hD hs 8 0 (.zero E hE rfl h0 rfl rfl) 0 (fun h => absurd h (by decide)) (fun _ => rfl)
 ·exact r_value_n w s m D (47 :: E) h hn hD hs 0 _ (.quo E hE rfl h0 rfl rfl) _ (fun _ => by
   have e : ((decVal D : Int) : Rat) / ((decVal E : Int) : Rat) = Rat.divInt (decVal D) (decVal E):=by rw [Rat.divInt_eq_div]
   rw [e];cases m
   ·rfl
   exact neg_div _ _) (fun h => absurd rfl h)
 exact r_value_n w s m D (46 :: E) h hn hD hs 0 _ (.dot E hE rfl rfl rfl) _ (fun _ => by
 cases m
 ·rfl
 exact neg_div _ _) (fun h => absurd rfl h)
def peekB (l : List Tkn) (p : Nat) (x : Int) (text : List UInt8) : Bool:=decide (x = 0) && match l[p]? with | some t => !(t.kind == 1) && (t.text == text) | none => false
def kindB (l : List Tkn) (p : Nat) (x : Int) (k : Nat) : Bool:=decide (x = 0) && match l[p]? with | some t => t.kind == k | none => false
def takeF (l : List Tkn) (p : Nat) (x : Int) (may : Bool) : Nat × Int × List UInt8 :=
  if x ≠ 0 then (p,x,[]) else match l[p]? with
    | none => (p,18,[])
    | some t => if may then (p + 1,0,t.text) else (p,2,[])
theorem TkS.none_ {w : World} {A : Option Addr} {n c : Nat} {l : List Tkn} (h : TkS w A n c l) {p : Nat} (hp : n ≤ p) : l[p]? = none:=List.getElem?_eq_none (by rw [h.1]; exact hp)
theorem rf_peek (w : World) (A : Option Addr) (n c : Nat) (l : List Tkn) (h : TkS w A n c l) (hn : n ≤ 65536) (p : Nat) (hp : p ≤ n) (x : Int) (Ln : List UInt8) (B1 : Option Addr) (m1 e1 : Nat) (B2 : Option Addr) (m2 e2 : Nat) (B3 : Option Addr) (m3 e3 : Nat) (text : List UInt8) (v : Bool) (hv : peekB l p x text = v) :
 Calls Tryz.prog 137 #[.agg #[.slice A n c,.int .i64 (p : Nat),.int .i64 x,strV Ln,.slice B1 m1 e1,.slice B2 m2 e2,.slice B3 m3 e3],strV text] w (RetV w (.bool v)):=by
 have HV:=Lib.hid hv;clear hv;by_cases hx : x = 0
 ·subst hx
  rcases Nat.lt_or_ge p n with hlt | hge
  ·obtain ⟨g,t,e,_,ht,d0,d1,_,_⟩:=h.cells hlt
   subst e;have hp1 : ((p : Int) < (n : Int)) = True:=by simp; omega
   have hv:=HV.out;unfold peekB at hv;rw [ht] at hv;have htt:=toList_v t.text;have htx:=toList_v text;have hgw : g < w.heap.size:=World.block_lt_of_cell? w ⟨g,p * 4,none⟩ d0;have hgn : ¬ g = w.heap.size:=by omega
   clear h ht HV;by_cases hk : t.kind = 1
   ·have hk1 : ((t.kind : Int) == 1) = true:=by simp [hk]
    have hk2 : ((t.kind : Int) = 1) = True:=by simp [hk]
    have e : v = false:=by rw [← hv]; simp [hk]
    subst e;clear hv hk;go_enter Tryz.func137,Tryz.ntmps137;go_wp2_with fail;go_ret;exact ⟨rfl,(brefl w).alloc (Nat.le_refl _) _⟩
   have hk1 : ((t.kind : Int) == 1) = false:=beq_eq_false_iff_ne.2 (by omega);have hk2 : ((t.kind : Int) = 1) = False:=by simp; omega
   have hk3 : ((t.kind : Int) != 1) = true:=by unfold bne; rw [hk1]; rfl
   have e : (t.text == text) = v:=by rw [← hv]; simp [hk]
   clear hv hk;go_enter Tryz.func137,Tryz.ntmps137;go_wp2_with fail;go_ret;exact ⟨rfl,(brefl w).alloc (Nat.le_refl _) _⟩
  have hp1 : ((p : Int) < (n : Int)) = False:=by simp; omega
  have e : v = false:=by rw [← HV.out]; unfold peekB; rw [h.none_ hge]; rfl
  subst e;clear h;go_enter Tryz.func137,Tryz.ntmps137;go_wp2_with fail;go_ret;exact ⟨rfl,(brefl w).alloc (Nat.le_refl _) _⟩
 have hx1 : (x == 0) = false:=beq_eq_false_iff_ne.2 hx;have e : v = false:=by rw [← HV.out]; unfold peekB; simp [hx]
 subst e;clear h hx;go_enter Tryz.func137,Tryz.ntmps137;go_wp2_with fail;go_ret;exact ⟨rfl,(brefl w).alloc (Nat.le_refl _) _⟩
theorem rf_kind (w : World) (A : Option Addr) (n c : Nat) (l : List Tkn) (h : TkS w A n c l) (hn : n ≤ 65536) (p : Nat) (hp : p ≤ n) (x : Int) (Ln : List UInt8) (B1 : Option Addr) (m1 e1 : Nat) (B2 : Option Addr) (m2 e2 : Nat) (B3 : Option Addr) (m3 e3 : Nat) (k : Nat) (z : Int) (hz : z = (k : Int)) (v : Bool) (hv : kindB l p x k = v) :
 Calls Tryz.prog 138 #[.agg #[.slice A n c,.int .i64 (p : Nat),.int .i64 x,strV Ln,.slice B1 m1 e1,.slice B2 m2 e2,.slice B3 m3 e3],.int .i64 z] w (RetV w (.bool v)):=by
 subst hz;have HV:=Lib.hid hv;clear hv;by_cases hx : x = 0
 ·subst hx
  rcases Nat.lt_or_ge p n with hlt | hge
  ·obtain ⟨g,t,e,_,ht,d0,d1,_,_⟩:=h.cells hlt
   subst e;have hp1 : ((p : Int) < (n : Int)) = True:=by simp; omega
   have hv:=HV.out;unfold kindB at hv;rw [ht] at hv;have hgw : g < w.heap.size:=World.block_lt_of_cell? w ⟨g,p * 4,none⟩ d0;have hgn : ¬ g = w.heap.size:=by omega
   have e : ((t.kind : Int) == (k : Int)) = v:=by
    rw [← hv];simp only [decide_true,Bool.true_and];rw [Bool.eq_iff_iff,beq_iff_eq,beq_iff_eq];omega
   clear h ht HV hv;go_enter Tryz.func138,Tryz.ntmps138;go_wp2_with fail;go_ret;exact ⟨rfl,(brefl w).alloc (Nat.le_refl _) _⟩
  have hp1 : ((p : Int) < (n : Int)) = False:=by simp; omega
  have e : v = false:=by rw [← HV.out]; unfold kindB; rw [h.none_ hge]; rfl
  subst e;clear h;go_enter Tryz.func138,Tryz.ntmps138;go_wp2_with fail;go_ret;exact ⟨rfl,(brefl w).alloc (Nat.le_refl _) _⟩
 have hx1 : (x == 0) = false:=beq_eq_false_iff_ne.2 hx;have e : v = false:=by rw [← HV.out]; unfold kindB; simp [hx]
 subst e;clear h hx;go_enter Tryz.func138,Tryz.ntmps138;go_wp2_with fail;go_ret;exact ⟨rfl,(brefl w).alloc (Nat.le_refl _) _⟩
theorem takeF_le {l : List Tkn} {p : Nat} {x : Int} {may : Bool} (hp : p ≤ l.length) : (takeF l p x may).1 ≤ l.length:=by
 unfold takeF;split
 ·exact hp
 split
 ·exact hp
 rename_i t ht;have:=(List.getElem?_eq_some_iff.1 ht).1;split
 ·show p + 1 ≤ _
  omega
 exact hp
theorem rf_take (w : World) (A : Option Addr) (n c : Nat) (l : List Tkn) (h : TkS w A n c l) (hn : n ≤ 65536) (p : Nat) (hp : p ≤ n) (x : Int) (Ln : List UInt8) (B1 : Option Addr) (m1 e1 : Nat) (B2 : Option Addr) (m2 e2 : Nat) (B3 : Option Addr) (m3 e3 : Nat) (may : Bool) :
 Calls Tryz.prog 136 #[.agg #[.slice A n c,.int .i64 (p : Nat),.int .i64 x,strV Ln,.slice B1 m1 e1,.slice B2 m2 e2,.slice B3 m3 e3],.bool may] w (RetV w (.tuple #[.agg #[.slice A n c,.int .i64 ((takeF l p x may).1 : Nat),.int .i64 (takeF l p x may).2.1,strV Ln,.slice B1 m1 e1,.slice B2 m2 e2,.slice B3 m3 e3],strV (takeF l p x may).2.2])):=by
 by_cases hx : x = 0
 ·subst hx
  rcases Nat.lt_or_ge p n with hlt | hge
  ·obtain ⟨g,t,e,_,ht,d0,d1,_,_⟩:=h.cells hlt
   subst e;have hp1 : ((p : Int) == (n : Int)) = false:=beq_eq_false_iff_ne.2 (by omega);have hp2 : ((p : Int) = (n : Int)) = False:=by simp; omega
   have hgw : g < w.heap.size:=World.block_lt_of_cell? w ⟨g,p * 4,none⟩ d0;have hgn : ¬ g = w.heap.size:=by omega
   have hgn1 : ¬ g = w.heap.size + 1:=by omega
   cases may
   ·have e : takeF l p 0 false = (p,2,[]):=by unfold takeF; rw [ht]; simp
    rw [e];clear h ht e;go_enter Tryz.func136,Tryz.ntmps136;go_wp2_with fail;refine bodyPost_ret (v:=.tuple #[.agg #[.slice (some ⟨g,0,none⟩) n c,.int .i64 (p : Nat),.int .i64 2,strV Ln,.slice B1 m1 e1,.slice B2 m2 e2,.slice B3 m3 e3],strV []]) (by simp [results,Tryz.results136,go_sem, *] <;> trivial) rfl ?_;exact ⟨rfl,((brefl w).alloc (Nat.le_refl _) _).alloc (by simp) _⟩
   have e : takeF l p 0 true = (p + 1,0,t.text):=by unfold takeF; rw [ht]; simp
   have hpp : (((p + 1 : Nat) : Int)) = (p : Int) + 1:=by omega
   have hpw : wrap64 ((p : Int) + 1) = (p : Int) + 1:=by unfold wrap64; omega
   have hpw2 : wrap64 ((p : Int) + 1 - 1) = (p : Int):=by unfold wrap64; omega
   rw [e,hpp];clear h ht e hpp;go_enter Tryz.func136,Tryz.ntmps136;go_wp2_with fail;go_region
   all_goals
    go_wp2_with fail;refine bodyPost_ret (v:=.tuple #[.agg #[.slice (some ⟨g,0,none⟩) n c,.int .i64 ((p : Int) + 1),.int .i64 0,strV Ln,.slice B1 m1 e1,.slice B2 m2 e2,.slice B3 m3 e3],strV t.text]) (by simp [results,Tryz.results136,go_sem, *] <;> trivial) rfl ?_;exact ⟨rfl,by first | exact ((brefl w).alloc (Nat.le_refl _) _).alloc (by simp) _ | exact (((brefl w).alloc (Nat.le_refl _) _).alloc (by simp) _).drew⟩
  have e : takeF l p 0 may = (p,18,[]):=by unfold takeF; rw [h.none_ hge]; simp
  rw [e];obtain rfl : p = n:=by omega
  have hp1 : ((p : Int) == (p : Int)) = true:=by simp
  clear h e;go_enter Tryz.func136,Tryz.ntmps136;go_wp2_with fail;refine bodyPost_ret (v:=.tuple #[.agg #[.slice A p c,.int .i64 (p : Nat),.int .i64 18,strV Ln,.slice B1 m1 e1,.slice B2 m2 e2,.slice B3 m3 e3],strV []]) (by simp [results,Tryz.results136,go_sem, *] <;> trivial) rfl ?_;exact ⟨rfl,((brefl w).alloc (Nat.le_refl _) _).alloc (by simp) _⟩
 have e : takeF l p x may = (p,x,[]):=if_pos hx;rw [e];have hx1 : (x == 0) = false:=beq_eq_false_iff_ne.2 hx;have hx2 : (x = 0) = False:=eq_false hx;clear h e hx;go_enter Tryz.func136,Tryz.ntmps136;go_wp2_with fail;refine bodyPost_ret (v:=.tuple #[.agg #[.slice A n c,.int .i64 (p : Nat),.int .i64 x,strV Ln,.slice B1 m1 e1,.slice B2 m2 e2,.slice B3 m3 e3],strV []]) (by simp [results,Tryz.results136,go_sem, *] <;> trivial) rfl ?_;exact ⟨rfl,((brefl w).alloc (Nat.le_refl _) _).alloc (by simp) _⟩
def TR (W w : World) (gx gy : Nat) (A : Option Addr) (n c : Nat) (l : List Tkn) (cx cz cy : Array Value) (k : Nat) (wq : World) : Prop :=
  Below W.heap.size W wq ∧ TkS wq A n c l ∧ Blk wq gx 131 cx ∧ w.heap.size ≤ wq.heap.size ∧ ((k < 3 ∧ Blk wq gy 131 cz) ∨ (k = 3 ∧ Blk wq gy 131 cy))
theorem TR.belw {W w : World} {gx gy : Nat} {A : Option Addr} {n c : Nat} {l : List Tkn} {cx cz cy : Array Value} {k : Nat} {wq w' : World} (h : TR W w gx gy A n c l cx cz cy k wq) (hW : W.heap.size ≤ w.heap.size) (hb : Below wq.heap.size wq w') (hk : k + 1 < 3) : TR W w gx gy A n c l cx cz cy (k + 1) w':=by
 obtain ⟨h1,h2,h3,h4,h5⟩:=h;refine ⟨h1.trans (hb.mono (by omega)),h2.belw hb,h3.below hb h3.lt,Nat.le_trans h4 hb.size,.inl ⟨hk,?_⟩⟩;rcases h5 with ⟨_,h5⟩ | ⟨h5,_⟩
 ·exact h5.below hb h5.lt
 omega
theorem Blk.s70 {w : World} {g t : Nat} {a0 a1 a2 a3 a4 a5 a6 : Value} (h : Blk w g t #[a0,a1,a2,a3,a4,a5,a6]) (u : Value) : Blk (w.setCell ⟨g,0,none⟩ u) g t #[u,a1,a2,a3,a4,a5,a6]:=h.set_ 0 u
theorem Blk.s71 {w : World} {g t : Nat} {a0 a1 a2 a3 a4 a5 a6 : Value} (h : Blk w g t #[a0,a1,a2,a3,a4,a5,a6]) (u : Value) : Blk (w.setCell ⟨g,1,none⟩ u) g t #[a0,u,a2,a3,a4,a5,a6]:=h.set_ 1 u
theorem Blk.s72 {w : World} {g t : Nat} {a0 a1 a2 a3 a4 a5 a6 : Value} (h : Blk w g t #[a0,a1,a2,a3,a4,a5,a6]) (u : Value) : Blk (w.setCell ⟨g,2,none⟩ u) g t #[a0,a1,u,a3,a4,a5,a6]:=h.set_ 2 u
theorem Blk.s73 {w : World} {g t : Nat} {a0 a1 a2 a3 a4 a5 a6 : Value} (h : Blk w g t #[a0,a1,a2,a3,a4,a5,a6]) (u : Value) : Blk (w.setCell ⟨g,3,none⟩ u) g t #[a0,a1,a2,u,a4,a5,a6]:=h.set_ 3 u
theorem Blk.s74 {w : World} {g t : Nat} {a0 a1 a2 a3 a4 a5 a6 : Value} (h : Blk w g t #[a0,a1,a2,a3,a4,a5,a6]) (u : Value) : Blk (w.setCell ⟨g,4,none⟩ u) g t #[a0,a1,a2,a3,u,a5,a6]:=h.set_ 4 u
theorem Blk.s75 {w : World} {g t : Nat} {a0 a1 a2 a3 a4 a5 a6 : Value} (h : Blk w g t #[a0,a1,a2,a3,a4,a5,a6]) (u : Value) : Blk (w.setCell ⟨g,5,none⟩ u) g t #[a0,a1,a2,a3,a4,u,a6]:=h.set_ 5 u
theorem Blk.s76 {w : World} {g t : Nat} {a0 a1 a2 a3 a4 a5 a6 : Value} (h : Blk w g t #[a0,a1,a2,a3,a4,a5,a6]) (u : Value) : Blk (w.setCell ⟨g,6,none⟩ u) g t #[a0,a1,a2,a3,a4,a5,u]:=h.set_ 6 u
theorem TR.fin {W w : World} {gx gy : Nat} {A : Option Addr} {n c : Nat} {l : List Tkn} {cx : Array Value} {z0 z1 z2 z3 z4 z5 z6 b0 b1 b2 b3 b4 b5 b6 : Value} {wq : World} (h : TR W w gx gy A n c l cx #[z0,z1,z2,z3,z4,z5,z6] #[b0,b1,b2,b3,b4,b5,b6] 2 wq) (hk : TkS W A n c l) (hxy : gx ≠ gy) (hgy : W.heap.size ≤ gy) :
 TR W w gx gy A n c l cx #[z0,z1,z2,z3,z4,z5,z6] #[b0,b1,b2,b3,b4,b5,b6] 3 (((((((wq.setCell ⟨gy,0,none⟩ b0).setCell ⟨gy,1,none⟩ b1).setCell ⟨gy,2,none⟩ b2).setCell ⟨gy,3,none⟩ b3).setCell ⟨gy,4,none⟩ b4).setCell ⟨gy,5,none⟩ b5).setCell ⟨gy,6,none⟩ b6):=by
 obtain ⟨h1,_,h3,h4,h5⟩:=h;have hb:=(((((((h1.setCell (p:=⟨gy,0,none⟩) hgy b0).setCell (p:=⟨gy,1,none⟩) hgy b1).setCell (p:=⟨gy,2,none⟩) hgy b2).setCell (p:=⟨gy,3,none⟩) hgy b3).setCell (p:=⟨gy,4,none⟩) hgy b4).setCell (p:=⟨gy,5,none⟩) hgy b5).setCell (p:=⟨gy,6,none⟩) hgy b6);rcases h5 with ⟨_,h5⟩ | ⟨h5,_⟩
 ·exact ⟨hb,hk.belw hb,(((((((h3.far (p:=⟨gy,0,none⟩) hxy b0).far (p:=⟨gy,1,none⟩) hxy b1).far (p:=⟨gy,2,none⟩) hxy b2).far (p:=⟨gy,3,none⟩) hxy b3).far (p:=⟨gy,4,none⟩) hxy b4).far (p:=⟨gy,5,none⟩) hxy b5).far (p:=⟨gy,6,none⟩) hxy b6),by simp [World.setCell,h4],.inr ⟨rfl,(((((((h5.s70 b0).s71 b1).s72 b2).s73 b3).s74 b4).s75 b5).s76 b6)⟩⟩
 omega
theorem TR.y {W w : World} {gx gy : Nat} {A : Option Addr} {n c : Nat} {l : List Tkn} {cx cz cy : Array Value} {wq : World} (h : TR W w gx gy A n c l cx cz cy 2 wq) : Blk wq gy 131 cz:=by
 rcases h.2.2.2.2 with ⟨_,h5⟩ | ⟨h5,_⟩
 ·exact h5
 omega
theorem TR.tk {W w : World} {gx gy : Nat} {A : Option Addr} {n c : Nat} {l : List Tkn} {cx cz cy : Array Value} {k : Nat} {wq : World} (h : TR W w gx gy A n c l cx cz cy k wq) : TkS wq A n c l:=h.2.1
theorem TR.drew {W w : World} {gx gy : Nat} {A : Option Addr} {n c : Nat} {l : List Tkn} {cx cz cy : Array Value} {k : Nat} {wq : World} (h : TR W w gx gy A n c l cx cz cy k wq) : TR W w gx gy A n c l cx cz cy k wq.drew :=
 ⟨h.1.drew,h.2.1,h.2.2.1,h.2.2.2.1,h.2.2.2.2⟩
theorem rf_word (w : World) (A : Option Addr) (n c : Nat) (l : List Tkn) (h : TkS w A n c l) (hn : n ≤ 65536) (p : Nat) (hp : p ≤ n) (x : Int) (Ln : List UInt8) (B1 : Option Addr) (m1 e1 : Nat) (B2 : Option Addr) (m2 e2 : Nat) (B3 : Option Addr) (m3 e3 : Nat) (T : Nat × Int × List UInt8) (hT : takeF l p x (kindB l p x 0) = T) :
 Calls Tryz.prog 76 #[.agg #[.slice A n c,.int .i64 (p : Nat),.int .i64 x,strV Ln,.slice B1 m1 e1,.slice B2 m2 e2,.slice B3 m3 e3]] w (RetV w (.tuple #[.agg #[.slice A n c,.int .i64 (T.1 : Nat),.int .i64 T.2.1,strV Ln,.slice B1 m1 e1,.slice B2 m2 e2,.slice B3 m3 e3],strV T.2.2])):=by
 have HT:=Lib.hid hT;have HK:=Lib.hid h;clear hT h;go_enter Tryz.func76,Tryz.ntmps76;go_wp2_with fail;have hX:=(Blk.new w 131 #[.slice A n c,.int .i64 (p : Nat),.int .i64 x,strV Ln,.slice B1 m1 e1,.slice B2 m2 e2,.slice B3 m3 e3]).alloc (.cells #[.slice none 0 0,.int .i64 0,.int .i64 0,.string ⟨#[]⟩,.slice none 0 0,.slice none 0 0,.slice none 0 0] 131);have hY:=Blk.new (w.alloc (.cells #[.slice A n c,.int .i64 (p : Nat),.int .i64 x,strV Ln,.slice B1 m1 e1,.slice B2 m2 e2,.slice B3 m3 e3] 131)) 131 #[.slice none 0 0,.int .i64 0,.int .i64 0,.string ⟨#[]⟩,.slice none 0 0,.slice none 0 0,.slice none 0 0];have hB:=((brefl w).alloc (Nat.le_refl _) (.cells #[.slice A n c,.int .i64 (p : Nat),.int .i64 x,strV Ln,.slice B1 m1 e1,.slice B2 m2 e2,.slice B3 m3 e3] 131)).alloc (by simp) (.cells #[.slice none 0 0,.int .i64 0,.int .i64 0,.string ⟨#[]⟩,.slice none 0 0,.slice none 0 0,.slice none 0 0] 131);have h0 : TR w ((w.alloc (.cells #[.slice A n c,.int .i64 (p : Nat),.int .i64 x,strV Ln,.slice B1 m1 e1,.slice B2 m2 e2,.slice B3 m3 e3] 131)).alloc (.cells #[.slice none 0 0,.int .i64 0,.int .i64 0,.string ⟨#[]⟩,.slice none 0 0,.slice none 0 0,.slice none 0 0] 131)) w.heap.size (w.heap.size + 1) A n c l #[.slice A n c,.int .i64 (p : Nat),.int .i64 x,strV Ln,.slice B1 m1 e1,.slice B2 m2 e2,.slice B3 m3 e3] #[.slice none 0 0,.int .i64 0,.int .i64 0,.string ⟨#[]⟩,.slice none 0 0,.slice none 0 0,.slice none 0 0] #[.slice A n c,.int .i64 (T.1 : Nat),.int .i64 T.2.1,strV Ln,.slice B1 m1 e1,.slice B2 m2 e2,.slice B3 m3 e3] 0 _:=⟨hB,HK.out.belw hB,hX,Nat.le_refl _,.inl ⟨by decide,by simpa using hY⟩⟩;have H0:=Lib.hid h0;clear hX hY hB h0;generalize (w.alloc (.cells #[.slice A n c,.int .i64 (p : Nat),.int .i64 x,strV Ln,.slice B1 m1 e1,.slice B2 m2 e2,.slice B3 m3 e3] 131)).alloc (.cells #[.slice none 0 0,.int .i64 0,.int .i64 0,.string ⟨#[]⟩,.slice none 0 0,.slice none 0 0,.slice none 0 0] 131) = w2 at H0 ⊢;refine wp_region_stl [2,3,6] (n:=7) (fr:=fun xf => ⟨List.toArray (.agg #[.slice A n c,.int .i64 (p : Nat),.int .i64 x,strV Ln,.slice B1 m1 e1,.slice B2 m2 e2,.slice B3 m3 e3] :: .pointer (some ⟨w.heap.size,0,none⟩) :: .pointer (some ⟨w.heap.size + 1,0,none⟩) :: .string ⟨#[]⟩ :: xf 0 :: xf 1 :: xf 2 :: xf 3 :: xf 4 :: xf 5 :: []),[]⟩) (x0:=fun _ => undef) (R:=fun ri => List.getD (VE (.agg #[.slice A n c,.int .i64 (p : Nat),.int .i64 x,strV Ln,.slice B1 m1 e1,.slice B2 m2 e2,.slice B3 m3 e3]) :: VE (.agg #[.slice A n c,.int .i64 (p : Nat),.int .i64 x,strV Ln,.slice B1 m1 e1,.slice B2 m2 e2,.slice B3 m3 e3]) :: VE (.bool (kindB l p x 0)) :: VE (.tuple #[.agg #[.slice A n c,.int .i64 (T.1 : Nat),.int .i64 T.2.1,strV Ln,.slice B1 m1 e1,.slice B2 m2 e2,.slice B3 m3 e3],strV T.2.2]) :: VE (.agg #[.slice A n c,.int .i64 (T.1 : Nat),.int .i64 T.2.1,strV Ln,.slice B1 m1 e1,.slice B2 m2 e2,.slice B3 m3 e3]) :: VE (strV T.2.2) :: VA :: []) ri VA) (T:=fun k _ wq => TR w w2 w.heap.size (w.heap.size + 1) A n c l #[.slice A n c,.int .i64 (p : Nat),.int .i64 x,strV Ln,.slice B1 m1 e1,.slice B2 m2 e2,.slice B3 m3 e3] #[.slice none 0 0,.int .i64 0,.int .i64 0,.string ⟨#[]⟩,.slice none 0 0,.slice none 0 0,.slice none 0 0] #[.slice A n c,.int .i64 (T.1 : Nat),.int .i64 T.2.1,strV Ln,.slice B1 m1 e1,.slice B2 m2 e2,.slice B3 m3 e3] k wq) (by kernel_rfl) rfl ?_ ?_ ?_ ?_ ?_ ?_ ?_ ?_ ?_ ?_ ?_
 ·exact each_of ⟨(fun _ _ _ => rfl),(fun _ _ _ => rfl),(fun _ _ _ => rfl),(fun _ _ _ => rfl),(fun _ _ _ => rfl),(fun _ _ _ => rfl),(fun _ _ _ => rfl),(fun h => absurd h (by decide)),trivial⟩
 ·exact each_of (acyc_from _ 0 (by kernel_rfl))
 ·exact (fun j hj => reach_of (by kernel_rfl) hj)
 ·decide
 ·intro j hj
  obtain rfl | rfl | rfl:=(show j = 0 ∨ j = 1 ∨ j = 2 by simp at hj; omega)
  ·exact ⟨2,rfl,rfl⟩
  ·exact ⟨3,rfl,rfl⟩
  exact ⟨6,rfl,rfl⟩
 ·intro i o j ho hj
  have hlt:=stl_lt hj;obtain rfl | rfl:=(show j = 0 ∨ j = 1 by simp at hlt; omega)
  ·injection hj with hj; subst hj
   injection ho with ho; subst ho;exact ⟨⟨2,.data⟩,by simp,rfl,rfl⟩
  injection hj with hj; subst hj;injection ho with ho; subst ho;exact ⟨⟨3,.chain⟩,by simp,rfl,rfl⟩
 ·exact fun _ _ _ _ _ _ h => h
 ·exact H0.out.drew
 ·refine each_of ⟨?_,?_,(fun _ h => absurd (by decide) h),(fun _ h => absurd (by decide) h),?_,?_,(fun _ h => absurd (by decide) h),(fun h => absurd h (by decide)),trivial⟩
  ·intro _ _ k xf wq hT hd K hK
   obtain ⟨x0,x1,x2,x3,x4,x5,x6⟩:=hT.2.2.1.c7;(try dsimp only);go_simp;have hz:=hK.out _ rfl;exact hz
  ·intro _ _ k xf wq hT hd K hK
   obtain ⟨x0,x1,x2,x3,x4,x5,x6⟩:=hT.2.2.1.c7;(try dsimp only);go_simp;have hz:=hK.out _ rfl;exact hz
  ·intro _ _ k xf wq hT hd K hK
   have dq3 : xf 3 = .tuple #[.agg #[.slice A n c,.int .i64 (T.1 : Nat),.int .i64 T.2.1,strV Ln,.slice B1 m1 e1,.slice B2 m2 e2,.slice B3 m3 e3],strV T.2.2]:=hd ⟨3,.data⟩ (by simp) rfl;(try dsimp only); (try simp only [dq3]);go_simp;have hz:=hK.out _ rfl;dsimp only at hz;simp only [dq3] at hz;exact hz
  intro _ _ k xf wq hT hd K hK;have dq3 : xf 3 = .tuple #[.agg #[.slice A n c,.int .i64 (T.1 : Nat),.int .i64 T.2.1,strV Ln,.slice B1 m1 e1,.slice B2 m2 e2,.slice B3 m3 e3],strV T.2.2]:=hd ⟨3,.data⟩ (by simp) rfl;(try dsimp only); (try simp only [dq3]);go_simp;have hz:=hK.out _ rfl;dsimp only at hz;simp only [dq3] at hz;exact hz
 ·intro k i o hk ho
  have hlt:=stl_lt hk;obtain rfl | rfl | rfl:=(show k = 0 ∨ k = 1 ∨ k = 2 by simp at hlt; omega)
  ·injection hk with hk; subst hk
   injection ho with ho; subst ho;intro xf wq hT hd K hK;have dq1 : xf 1 = .agg #[.slice A n c,.int .i64 (p : Nat),.int .i64 x,strV Ln,.slice B1 m1 e1,.slice B2 m2 e2,.slice B3 m3 e3]:=hd ⟨1,.data⟩ (by simp) rfl;(try dsimp only); (try simp only [dq1]);go_simp;go_at_call 138;(with_reducible refine (rf_kind _ A n c l hT.tk hn p hp x Ln B1 m1 e1 B2 m2 e2 B3 m3 e3 0 0 rfl _ rfl).mono ?_); rintro e wr ⟨rfl,hb⟩;have hz:=hK.out _ _ rfl (hT.belw H0.out.1.size hb (by decide));dsimp only at hz;simp only [dq1] at hz;exact hz
  ·injection hk with hk; subst hk
   injection ho with ho; subst ho;intro xf wq hT hd K hK;have dq0 : xf 0 = .agg #[.slice A n c,.int .i64 (p : Nat),.int .i64 x,strV Ln,.slice B1 m1 e1,.slice B2 m2 e2,.slice B3 m3 e3]:=hd ⟨0,.data⟩ (by simp) rfl;have dq2 : xf 2 = .bool (kindB l p x 0):=hd ⟨2,.data⟩ (by simp) rfl;(try dsimp only); (try simp only [dq0,dq2]);go_simp;go_at_call 136;(with_reducible refine (rf_take _ A n c l hT.tk hn p hp x Ln B1 m1 e1 B2 m2 e2 B3 m3 e3 (kindB l p x 0)).mono ?_); rintro e wr ⟨he,hb⟩;rw [HT.out] at he;subst he;have hz:=hK.out _ _ rfl (hT.belw H0.out.1.size hb (by decide));dsimp only at hz;simp only [dq0,dq2] at hz;exact hz
  injection hk with hk; subst hk;injection ho with ho; subst ho;intro xf wq hT hd K hK;have dq4 : xf 4 = .agg #[.slice A n c,.int .i64 (T.1 : Nat),.int .i64 T.2.1,strV Ln,.slice B1 m1 e1,.slice B2 m2 e2,.slice B3 m3 e3]:=hd ⟨4,.data⟩ (by simp) rfl;have hy:=TR.y hT;obtain ⟨y0,y1,y2,y3,y4,y5,y6⟩:=hy.c7;have f0:=hy.f7;(try dsimp only); (try simp only [dq4]);go_simp;have hz:=hK.out undef _ trivial (TR.fin hT HK.out (by omega) (by omega));dsimp only at hz;simp only [dq4] at hz;exact hz
 intro o ho xf wq hT hr K hK;injection ho with ho;subst ho;have dq5 : xf 5 = strV T.2.2:=hr 5 (by decide);have hT : TR w w2 w.heap.size (w.heap.size + 1) A n c l _ _ _ 3 wq:=hT;have hb:=hT.1
 have hy : Blk wq (w.heap.size + 1) 131 #[.slice A n c,.int .i64 (T.1 : Nat),.int .i64 T.2.1,strV Ln,.slice B1 m1 e1,.slice B2 m2 e2,.slice B3 m3 e3]:=by
  rcases hT.2.2.2.2 with ⟨h5,_⟩ | ⟨_,h5⟩
  ·omega
  exact h5
 obtain ⟨y0,y1,y2,y3,y4,y5,y6⟩:=hy.c7;(try dsimp only); (try simp only [dq5]);go_simp;refine hK.out _ _ ?_;go_wp2_with fail;refine bodyPost_ret (v:=.tuple #[.agg #[.slice A n c,.int .i64 (T.1 : Nat),.int .i64 T.2.1,strV Ln,.slice B1 m1 e1,.slice B2 m2 e2,.slice B3 m3 e3],strV T.2.2]) (by simp [results,Tryz.results76,go_sem, *] <;> trivial) rfl ?_;exact ⟨rfl,hb⟩
section
variable (P : Program) (ops : Array Oper) (Q : Exit → Act → World → Prop) (fr : (Nat → Value) → Act) (R : Nat → Value → Prop) (T : Nat → (Nat → Value) → World → Prop)
def PureStepB (b i : Nat) (o : Oper) : Prop :=
  ∀ k x wq,k ≤ b → T k x wq → (∀ e ∈ o.after,Region.binds .any e = true → R e.on (x e.on)) → ∀ K' : Act → World → Prop,Shut (∀ v,R i v → K' ((fr x).put o.dst v) wq) →
      if Region.wanted o (yielded ops (fr x).tmps) = true then Oper.wp P o (fr x) wq K' Q else K' ((fr x).put o.dst undef) wq
end
section
variable {P : Program} {ops : Array Oper} {Q : Exit → Act → World → Prop} {fr : (Nat → Value) → Act} {R : Nat → Value → Prop} {T : Nat → (Nat → Value) → World → Prop} {st : Nat → Option Nat} {K : Nat} {id : Nat} {w : World} {x0 : Nat → Value}
theorem wp_region_end (bd : Nat → Nat) (hm : P.follows .mixedOrders = true)
 (hput : ∀ i o,ops[i]? = some o → ∀ x v,(fr x).put o.dst v = fr (upd x i v))
 (hac : ∀ i o,ops[i]? = some o → ∀ e ∈ o.after,Region.binds .any e = true → e.on < i)
 (hst : ∀ i j,st i = some j → i < ops.size ∧ j < K)
 (hinj : ∀ i i' j,st i = some j → st i' = some j → i = i')
 (hall : ∀ j,j < K → ∃ i,st i = some j)
 (hchain : ∀ i o j,ops[i]? = some o → st i = some (j + 1) → ∃ e ∈ o.after,Region.binds .any e = true ∧ st e.on = some j)
 (hT : ∀ k x i v w,st i = none → T k x w → T k (upd x i v) w)
 (h0 : T 0 x0 w.drew)
 (hbd : ∀ i,st i = none → K ≤ bd i ∨ ∃ i' o',st i' = some (bd i) ∧ ops[i']? = some o' ∧ ∃ e ∈ o'.after,Region.binds .any e = true ∧ e.on = i)
 (hpure : ∀ i o,ops[i]? = some o → st i = none → PureStepB P ops Q fr R T (bd i) i o)
 (hstage : ∀ i o k,ops[i]? = some o → st i = some k → StageStep P ops Q fr R T k i o)
 (hend : ∀ x wq,T K x wq → (∀ j,j < ops.size → R j (x j)) → Q .normal (fr x) wq) :
 (Code.region id ops true).wp P Q (fr x0) w:=by
 refine wp_region_any hm (wpAny_inv (fun L a w' => LinT ops fr R T st K L a w') ?_ ?_ _ _ _ _ (by simp) ?_ ?_)
 ·rintro L a w1 i hs hi ⟨x,k,rfl,hkK,hTk,hLk,hr,hcl⟩
  obtain ⟨hun,o,ho,hall'⟩:=mem_ready.1 hi
  have hlt : i < L.size:=by
   rcases Nat.lt_or_ge i L.size with h | h
   ·exact h
   rw [Array.getD_eq_getD_getElem?,Array.getElem?_eq_none h] at hun; cases hun
  have hunf : L.getD i false = false:=by
   rw [Array.getD_eq_getD_getElem?,Array.getElem?_eq_getElem hlt] at hun ⊢; exact hun
  have hdep : ∀ e ∈ o.after,Region.binds .any e = true → R e.on (x e.on):=fun e he hbd => hr _ (hall' e he hbd)
  refine wpOp_step ho fun K' hK => ?_
  have hr' : ∀ v,R i v → ∀ j,(L.setIfInBounds i true).getD j false = true → R j (upd x i v j):=by
   intro v hv j hj;by_cases h : j = i
   ·subst h; rw [upd_same]; exact hv
   rw [upd_ne _ _ h]; rw [getD_set hlt] at hj; exact hr j (by simpa [h] using hj)
  cases hsi : st i with
  | none =>
   have hkb : k ≤ bd i:=by
    rcases hbd i hsi with h | ⟨i',o',h1,h2,e,he,hb,hon⟩
    ·omega
    rcases Nat.lt_or_ge (bd i) k with h | h
    ·have h3:=(hLk i' (bd i) h1).2 h
     have h4:=hcl i' o' h2 h3 e he hb;rw [hon,hunf] at h4;cases h4
    exact h
   refine hpure i o ho hsi k x w1 hkb hTk hdep K' (fun v hRv => hK _ _ ⟨upd x i v,k,hput i o ho x v,hkK,hT _ _ _ _ _ hsi hTk,fun i' j hj => ?_,hr' v hRv,linG_hcl hlt ho hall' hcl⟩);have hne : i' ≠ i:=by rintro rfl; rw [hsi] at hj; cases hj
   rw [getD_set hlt,← hLk i' j hj];simp [hne]
  | some j0 =>
   have hk : k = j0:=by
    have h1 : ¬ j0 < k:=fun h => by
     have:=(hLk i j0 hsi).2 h;rw [hunf] at this; cases this
    cases j0 with
    | zero => omega
    | succ j =>
     obtain ⟨e,he,hbd,hse⟩:=hchain i o j ho hsi;have:=(hLk e.on j hse).1 (hall' e he hbd);omega
   subst hk;refine hstage i o k ho hsi x w1 hTk hdep K' (fun v w' hRv hTv => hK _ _ ⟨upd x i v,k + 1,hput i o ho x v,(hst i k hsi).2,hTv,fun i' j hj => ?_,hr' v hRv,linG_hcl hlt ho hall' hcl⟩);rw [getD_set hlt];by_cases h : i' = i
   ·subst h
    rw [hsi] at hj;injection hj with hj;subst hj;simp
   have hjk : j ≠ k:=fun e => h (hinj _ _ _ hj (by rw [e]; exact hsi))
   rw [show (decide (i' = i) || L.getD i' false) = L.getD i' false by simp [h],hLk i' j hj];omega
 ·rintro L a w1 hs hr0 ⟨x,k,rfl,hkK,hTk,hLk,hr,hcl⟩
  have hallL : ∀ i,i < ops.size → L.getD i false = true:=by
   intro i
   induction i using Nat.strongRecOn with
   | ind i ih =>
    intro hi;cases h : L.getD i false
    ·exfalso
     have : i ∈ Region.ready .any ops L:=by
      refine mem_ready.2 ⟨?_,ops[i],Array.getElem?_eq_getElem hi,fun e he hbd => ?_⟩
      ·rw [Array.getD_eq_getD_getElem?,Array.getElem?_eq_getElem (by omega)] at h ⊢; exact h
      have h1:=hac i _ (Array.getElem?_eq_getElem hi) e he hbd;exact ih e.on h1 (by omega)
     rw [hr0] at this; cases this
    rfl
  have hkk : k = K:=by
   rcases Nat.lt_or_ge k K with h | h
   ·obtain ⟨i',hi'⟩:=hall k h
    have:=(hLk i' k hi').1 (hallL i' (hst i' k hi').1);omega
   omega
  subst hkk;exact hend x w1 hTk (fun j hj => hr j (hallL j hj))
 ·simp
 ·have hz : ∀ j,(Array.replicate ops.size false).getD j false = false:=by
   intro j; rw [Array.getD_eq_getD_getElem?,Array.getElem?_replicate]; split <;> rfl
  refine ⟨x0,0,rfl,Nat.zero_le _,h0,fun i j hj => ?_,fun i h => ?_,fun i o _ h => ?_⟩
  ·rw [hz]; simp
  ·rw [hz] at h; cases h
  rw [hz] at h; cases h
end
section
variable {P : Program} {ops : Array Oper} {Q : Exit → Act → World → Prop} {fr : (Nat → Value) → Act} {R : Nat → Value → Prop} {T : Nat → (Nat → Value) → World → Prop} {id : Nat} {w : World} {x0 : Nat → Value}
theorem wp_region_ste (sl : List Nat) (bd : Nat → Nat) (hm : P.follows .mixedOrders = true)
 (hput : ∀ i o,ops[i]? = some o → ∀ x v,(fr x).put o.dst v = fr (upd x i v))
 (hac : ∀ i o,ops[i]? = some o → ∀ e ∈ o.after,Region.binds .any e = true → e.on < i)
 (hsl : ∀ i ∈ sl,i < ops.size) (hidx : ∀ j,j < sl.length → ∃ i,sl[j]? = some i ∧ stl sl i = some j)
 (hchain : ∀ i o j,ops[i]? = some o → sl[j + 1]? = some i → ∃ e ∈ o.after,Region.binds .any e = true ∧ stl sl e.on = some j)
 (hT : ∀ k x i v w,i ∉ sl → T k x w → T k (upd x i v) w)
 (h0 : T 0 x0 w.drew)
 (hbd : ∀ i,i ∉ sl → sl.length ≤ bd i ∨ ∃ i' o',stl sl i' = some (bd i) ∧ ops[i']? = some o' ∧ ∃ e ∈ o'.after,Region.binds .any e = true ∧ e.on = i)
 (hpure : ∀ i o,ops[i]? = some o → i ∉ sl → PureStepB P ops Q fr R T (bd i) i o)
 (hstage : ∀ k i o,sl[k]? = some i → ops[i]? = some o → StageStep P ops Q fr R T k i o)
 (hend : ∀ x wq,T sl.length x wq → (∀ j,j < ops.size → R j (x j)) → Q .normal (fr x) wq) :
 (Code.region id ops true).wp P Q (fr x0) w :=
 wp_region_end (R:=R) (T:=T) (st:=stl sl) (K:=sl.length) bd hm hput hac
  (fun i j h => ⟨hsl i (List.mem_of_getElem? (stl_some h)),stl_lt (stl_some h)⟩)
  (fun i i' j h h' => by have h1:=stl_some h; rw [stl_some h'] at h1; injection h1 with h1; exact h1.symm)
  (fun j h => by obtain ⟨i,_,hi⟩:=hidx j h; exact ⟨i,hi⟩)
  (fun i o j ho h => hchain i o j ho (stl_some h))
  (fun k x i v w h => hT k x i v w (stl_none h)) h0
  (fun i h => hbd i (stl_none h))
  (fun i o ho h => hpure i o ho (stl_none h))
  (fun i o k ho h => hstage k i o (stl_some h) ho) hend
end
theorem bel7 {B g : Nat} {a w : World} (h : Below B a w) (hB : B ≤ g) (b0 b1 b2 b3 b4 b5 b6 : Value) : Below B a (((((((w.setCell ⟨g,0,none⟩ b0).setCell ⟨g,1,none⟩ b1).setCell ⟨g,2,none⟩ b2).setCell ⟨g,3,none⟩ b3).setCell ⟨g,4,none⟩ b4).setCell ⟨g,5,none⟩ b5).setCell ⟨g,6,none⟩ b6) :=
 (((((((h.setCell (p:=⟨g,0,none⟩) hB b0).setCell (p:=⟨g,1,none⟩) hB b1).setCell (p:=⟨g,2,none⟩) hB b2).setCell (p:=⟨g,3,none⟩) hB b3).setCell (p:=⟨g,4,none⟩) hB b4).setCell (p:=⟨g,5,none⟩) hB b5).setCell (p:=⟨g,6,none⟩) hB b6)
abbrev frX (u0 u1 u2 u3 u4 u13 : Value) (xf : Nat → Value) : Act:=⟨List.toArray (u0 :: u1 :: u2 :: u3 :: u4 :: xf 5 :: xf 0 :: xf 1 :: xf 2 :: xf 3 :: xf 4 :: xf 6 :: xf 7 :: u13 :: []),[]⟩
theorem rf_expect (w : World) (A : Option Addr) (n c : Nat) (l : List Tkn) (h : TkS w A n c l) (hn : n ≤ 65536) (p : Nat) (hp : p ≤ n) (x : Int) (Ln : List UInt8) (B1 : Option Addr) (m1 e1 : Nat) (B2 : Option Addr) (m2 e2 : Nat) (B3 : Option Addr) (m3 e3 : Nat) (text : List UInt8) (T : Nat × Int × List UInt8) (hT : takeF l p x (peekB l p x text) = T) :
 Calls Tryz.prog 75 #[.agg #[.slice A n c,.int .i64 (p : Nat),.int .i64 x,strV Ln,.slice B1 m1 e1,.slice B2 m2 e2,.slice B3 m3 e3],strV text] w (RetV w (.agg #[.slice A n c,.int .i64 (T.1 : Nat),.int .i64 T.2.1,strV Ln,.slice B1 m1 e1,.slice B2 m2 e2,.slice B3 m3 e3])):=by
 have HT:=Lib.hid hT;have HK:=Lib.hid h;clear hT h;go_enter Tryz.func75,Tryz.ntmps75;go_wp2_with fail;have hX:=(Blk.new w 131 #[.slice A n c,.int .i64 (p : Nat),.int .i64 x,strV Ln,.slice B1 m1 e1,.slice B2 m2 e2,.slice B3 m3 e3]).alloc (.cells #[.slice none 0 0,.int .i64 0,.int .i64 0,.string ⟨#[]⟩,.slice none 0 0,.slice none 0 0,.slice none 0 0] 131);have hY:=Blk.new (w.alloc (.cells #[.slice A n c,.int .i64 (p : Nat),.int .i64 x,strV Ln,.slice B1 m1 e1,.slice B2 m2 e2,.slice B3 m3 e3] 131)) 131 #[.slice none 0 0,.int .i64 0,.int .i64 0,.string ⟨#[]⟩,.slice none 0 0,.slice none 0 0,.slice none 0 0];have hB:=((brefl w).alloc (Nat.le_refl _) (.cells #[.slice A n c,.int .i64 (p : Nat),.int .i64 x,strV Ln,.slice B1 m1 e1,.slice B2 m2 e2,.slice B3 m3 e3] 131)).alloc (by simp) (.cells #[.slice none 0 0,.int .i64 0,.int .i64 0,.string ⟨#[]⟩,.slice none 0 0,.slice none 0 0,.slice none 0 0] 131);have h0 : TR w ((w.alloc (.cells #[.slice A n c,.int .i64 (p : Nat),.int .i64 x,strV Ln,.slice B1 m1 e1,.slice B2 m2 e2,.slice B3 m3 e3] 131)).alloc (.cells #[.slice none 0 0,.int .i64 0,.int .i64 0,.string ⟨#[]⟩,.slice none 0 0,.slice none 0 0,.slice none 0 0] 131)) (w.heap.size + 1) w.heap.size A n c l #[.slice none 0 0,.int .i64 0,.int .i64 0,.string ⟨#[]⟩,.slice none 0 0,.slice none 0 0,.slice none 0 0] #[.slice A n c,.int .i64 (p : Nat),.int .i64 x,strV Ln,.slice B1 m1 e1,.slice B2 m2 e2,.slice B3 m3 e3] #[.slice A n c,.int .i64 (T.1 : Nat),.int .i64 T.2.1,strV Ln,.slice B1 m1 e1,.slice B2 m2 e2,.slice B3 m3 e3] 0 _:=⟨hB,HK.out.belw hB,by simpa using hY,Nat.le_refl _,.inl ⟨by decide,hX⟩⟩;have H0:=Lib.hid h0;clear hX hY hB h0;generalize (w.alloc (.cells #[.slice A n c,.int .i64 (p : Nat),.int .i64 x,strV Ln,.slice B1 m1 e1,.slice B2 m2 e2,.slice B3 m3 e3] 131)).alloc (.cells #[.slice none 0 0,.int .i64 0,.int .i64 0,.string ⟨#[]⟩,.slice none 0 0,.slice none 0 0,.slice none 0 0] 131) = w2 at H0 ⊢;change Code.wp _ _ _ (frX _ _ _ _ _ _ (fun _ => undef)) _;refine wp_region_ste [3,4,8] (fun i => if i = 0 then 1 else if i = 1 then 0 else 3) (x0:=fun _ => undef) (R:=fun ri => List.getD (VE (.agg #[.slice A n c,.int .i64 (p : Nat),.int .i64 x,strV Ln,.slice B1 m1 e1,.slice B2 m2 e2,.slice B3 m3 e3]) :: VE (.agg #[.slice A n c,.int .i64 (p : Nat),.int .i64 x,strV Ln,.slice B1 m1 e1,.slice B2 m2 e2,.slice B3 m3 e3]) :: VE (strV text) :: VE (.bool (peekB l p x text)) :: VE (.tuple #[.agg #[.slice A n c,.int .i64 (T.1 : Nat),.int .i64 T.2.1,strV Ln,.slice B1 m1 e1,.slice B2 m2 e2,.slice B3 m3 e3],strV T.2.2]) :: VE (.tuple #[.agg #[.slice A n c,.int .i64 (T.1 : Nat),.int .i64 T.2.1,strV Ln,.slice B1 m1 e1,.slice B2 m2 e2,.slice B3 m3 e3],strV T.2.2]) :: VE (.agg #[.slice A n c,.int .i64 (T.1 : Nat),.int .i64 T.2.1,strV Ln,.slice B1 m1 e1,.slice B2 m2 e2,.slice B3 m3 e3]) :: VE (strV T.2.2) :: []) ri VA) (T:=fun k _ wq => TR w w2 (w.heap.size + 1) w.heap.size A n c l #[.slice none 0 0,.int .i64 0,.int .i64 0,.string ⟨#[]⟩,.slice none 0 0,.slice none 0 0,.slice none 0 0] #[.slice A n c,.int .i64 (p : Nat),.int .i64 x,strV Ln,.slice B1 m1 e1,.slice B2 m2 e2,.slice B3 m3 e3] #[.slice A n c,.int .i64 (T.1 : Nat),.int .i64 T.2.1,strV Ln,.slice B1 m1 e1,.slice B2 m2 e2,.slice B3 m3 e3] k wq) (by kernel_rfl) ?_ ?_ ?_ ?_ ?_ ?_ ?_ ?_ ?_ ?_ ?_
 ·exact each_of ⟨(fun _ _ => rfl),(fun _ _ => rfl),(fun _ _ => rfl),(fun _ _ => rfl),(fun _ _ => rfl),(fun _ _ => rfl),(fun _ _ => rfl),(fun _ _ => rfl),(fun _ _ => rfl),trivial⟩
 ·exact each_of (acyc_from _ 0 (by kernel_rfl))
 ·decide
 ·intro j hj
  obtain rfl | rfl | rfl:=(show j = 0 ∨ j = 1 ∨ j = 2 by simp at hj; omega)
  ·exact ⟨3,rfl,rfl⟩
  ·exact ⟨4,rfl,rfl⟩
  exact ⟨8,rfl,rfl⟩
 ·intro i o j ho hj
  have hlt:=stl_lt hj;obtain rfl | rfl:=(show j = 0 ∨ j = 1 by simp at hlt; omega)
  ·injection hj with hj; subst hj
   injection ho with ho; subst ho;exact ⟨⟨3,.data⟩,by simp,rfl,rfl⟩
  injection hj with hj; subst hj;injection ho with ho; subst ho;exact ⟨⟨4,.chain⟩,by simp,rfl,rfl⟩
 ·exact fun _ _ _ _ _ _ h => h
 ·exact H0.out.drew
 ·intro i hi
  rcases (show i = 0 ∨ i = 1 ∨ (i ≠ 0 ∧ i ≠ 1) by omega) with rfl | rfl | ⟨h1,h2⟩
  ·exact .inr ⟨4,_,rfl,rfl,⟨0,.data⟩,by simp,rfl,rfl⟩
  ·exact .inr ⟨3,_,rfl,rfl,⟨1,.data⟩,by simp,rfl,rfl⟩
  exact .inl (by rw [if_neg h1,if_neg h2]; exact Nat.le_refl _)
 ·refine each_of ⟨?_,?_,?_,(fun h => absurd (by decide) h),(fun h => absurd (by decide) h),?_,?_,?_,(fun h => absurd (by decide) h),trivial⟩
  ·intro _ k xf wq hkb hT hd K hK
   have hk2 : k ≤ 1:=hkb
   have hyb : Blk wq w.heap.size 131 #[.slice A n c,.int .i64 (p : Nat),.int .i64 x,strV Ln,.slice B1 m1 e1,.slice B2 m2 e2,.slice B3 m3 e3]:=by
    rcases hT.2.2.2.2 with ⟨_,h5⟩ | ⟨h5,_⟩
    ·exact h5
    omega
   obtain ⟨x0,x1,x2,x3,x4,x5,x6⟩:=hyb.c7;(try dsimp only [frX]);go_simp;have hz:=hK.out _ rfl;dsimp only [frX] at hz;exact hz
  ·intro _ k xf wq hkb hT hd K hK
   have hk2 : k ≤ 0:=hkb
   have hyb : Blk wq w.heap.size 131 #[.slice A n c,.int .i64 (p : Nat),.int .i64 x,strV Ln,.slice B1 m1 e1,.slice B2 m2 e2,.slice B3 m3 e3]:=by
    rcases hT.2.2.2.2 with ⟨_,h5⟩ | ⟨h5,_⟩
    ·exact h5
    omega
   obtain ⟨x0,x1,x2,x3,x4,x5,x6⟩:=hyb.c7;(try dsimp only [frX]);go_simp;have hz:=hK.out _ rfl;dsimp only [frX] at hz;exact hz
  ·intro _ k xf wq hkb hT hd K hK
   (try dsimp only [frX]);go_simp;have hz:=hK.out _ rfl;dsimp only [frX] at hz;exact hz
  ·intro _ k xf wq hkb hT hd K hK
   have dq4 : xf 4 = (.tuple #[.agg #[.slice A n c,.int .i64 (T.1 : Nat),.int .i64 T.2.1,strV Ln,.slice B1 m1 e1,.slice B2 m2 e2,.slice B3 m3 e3],strV T.2.2]):=hd ⟨4,.data⟩ (by simp) rfl;(try dsimp only [frX]); (try simp only [dq4]);go_simp;have hz:=hK.out _ rfl;dsimp only [frX] at hz;simp only [dq4] at hz;exact hz
  ·intro _ k xf wq hkb hT hd K hK
   have dq5 : xf 5 = (.tuple #[.agg #[.slice A n c,.int .i64 (T.1 : Nat),.int .i64 T.2.1,strV Ln,.slice B1 m1 e1,.slice B2 m2 e2,.slice B3 m3 e3],strV T.2.2]):=hd ⟨5,.data⟩ (by simp) rfl;(try dsimp only [frX]); (try simp only [dq5]);go_simp;have hz:=hK.out _ rfl;dsimp only [frX] at hz;simp only [dq5] at hz;exact hz
  intro _ k xf wq hkb hT hd K hK;have dq5 : xf 5 = (.tuple #[.agg #[.slice A n c,.int .i64 (T.1 : Nat),.int .i64 T.2.1,strV Ln,.slice B1 m1 e1,.slice B2 m2 e2,.slice B3 m3 e3],strV T.2.2]):=hd ⟨5,.data⟩ (by simp) rfl;(try dsimp only [frX]); (try simp only [dq5]);go_simp;have hz:=hK.out _ rfl;dsimp only [frX] at hz;simp only [dq5] at hz;exact hz
 ·intro k i o hk ho
  have hlt:=stl_lt hk;obtain rfl | rfl | rfl:=(show k = 0 ∨ k = 1 ∨ k = 2 by simp at hlt; omega)
  ·injection hk with hk; subst hk
   injection ho with ho; subst ho;intro xf wq hT hd K hK;have dq1 : xf 1 = (.agg #[.slice A n c,.int .i64 (p : Nat),.int .i64 x,strV Ln,.slice B1 m1 e1,.slice B2 m2 e2,.slice B3 m3 e3]):=hd ⟨1,.data⟩ (by simp) rfl;have dq2 : xf 2 = strV text:=hd ⟨2,.data⟩ (by simp) rfl;(try dsimp only [frX]); (try simp only [dq1,dq2]);go_simp;go_at_call 137;(with_reducible refine (rf_peek _ A n c l hT.tk hn p hp x Ln B1 m1 e1 B2 m2 e2 B3 m3 e3 text _ rfl).mono ?_); rintro e wr ⟨rfl,hb⟩;have hz:=hK.out _ _ rfl (hT.belw H0.out.1.size hb (by decide));dsimp only [frX] at hz;simp only [dq1,dq2] at hz;exact hz
  ·injection hk with hk; subst hk
   injection ho with ho; subst ho;intro xf wq hT hd K hK;have dq0 : xf 0 = (.agg #[.slice A n c,.int .i64 (p : Nat),.int .i64 x,strV Ln,.slice B1 m1 e1,.slice B2 m2 e2,.slice B3 m3 e3]):=hd ⟨0,.data⟩ (by simp) rfl;have dq3 : xf 3 = .bool (peekB l p x text):=hd ⟨3,.data⟩ (by simp) rfl;(try dsimp only [frX]); (try simp only [dq0,dq3]);go_simp;go_at_call 136;(with_reducible refine (rf_take _ A n c l hT.tk hn p hp x Ln B1 m1 e1 B2 m2 e2 B3 m3 e3 (peekB l p x text)).mono ?_); rintro e wr ⟨he,hb⟩;rw [HT.out] at he;subst he;have hz:=hK.out _ _ rfl (hT.belw H0.out.1.size hb (by decide));dsimp only [frX] at hz;simp only [dq0,dq3] at hz;exact hz
  injection hk with hk; subst hk;injection ho with ho; subst ho;intro xf wq hT hd K hK;have hT : TR w w2 (w.heap.size + 1) w.heap.size A n c l #[.slice none 0 0,.int .i64 0,.int .i64 0,.string ⟨#[]⟩,.slice none 0 0,.slice none 0 0,.slice none 0 0] #[.slice A n c,.int .i64 (p : Nat),.int .i64 x,strV Ln,.slice B1 m1 e1,.slice B2 m2 e2,.slice B3 m3 e3] #[.slice A n c,.int .i64 (T.1 : Nat),.int .i64 T.2.1,strV Ln,.slice B1 m1 e1,.slice B2 m2 e2,.slice B3 m3 e3] 2 wq:=hT;have dq6 : xf 6 = (.agg #[.slice A n c,.int .i64 (T.1 : Nat),.int .i64 T.2.1,strV Ln,.slice B1 m1 e1,.slice B2 m2 e2,.slice B3 m3 e3]):=hd ⟨6,.data⟩ (by simp) rfl;have hy:=TR.y hT;obtain ⟨y0,y1,y2,y3,y4,y5,y6⟩:=hy.c7;obtain ⟨f0,f1,f2,f3,f4,f5,f6⟩:=hy.f7;(try dsimp only [frX]); (try simp only [dq6]);go_simp;have hz:=hK.out undef _ trivial (TR.fin hT HK.out (by omega) (Nat.le_refl _));dsimp only [frX] at hz;simp only [dq6] at hz;exact hz
 intro xf wq hT hr;have hT : TR w w2 (w.heap.size + 1) w.heap.size A n c l #[.slice none 0 0,.int .i64 0,.int .i64 0,.string ⟨#[]⟩,.slice none 0 0,.slice none 0 0,.slice none 0 0] #[.slice A n c,.int .i64 (p : Nat),.int .i64 x,strV Ln,.slice B1 m1 e1,.slice B2 m2 e2,.slice B3 m3 e3] #[.slice A n c,.int .i64 (T.1 : Nat),.int .i64 T.2.1,strV Ln,.slice B1 m1 e1,.slice B2 m2 e2,.slice B3 m3 e3] 3 wq:=hT;have hb:=hT.1;have hzz:=hT.2.2.1
 have hy : Blk wq w.heap.size 131 #[.slice A n c,.int .i64 (T.1 : Nat),.int .i64 T.2.1,strV Ln,.slice B1 m1 e1,.slice B2 m2 e2,.slice B3 m3 e3]:=by
  rcases hT.2.2.2.2 with ⟨h5,_⟩ | ⟨_,h5⟩
  ·omega
  exact h5
 obtain ⟨y0,y1,y2,y3,y4,y5,y6⟩:=hy.c7;have z0:=hzz.c7;obtain ⟨f0,f1,f2,f3,f4,f5,f6⟩:=hzz.f7;dsimp only [frX];clear hT hr hy hzz;go_wp2_with fail;refine bodyPost_ret (v:=.agg #[.slice A n c,.int .i64 (T.1 : Nat),.int .i64 T.2.1,strV Ln,.slice B1 m1 e1,.slice B2 m2 e2,.slice B3 m3 e3]) (by simp [results,Tryz.results75,go_sem, *] <;> trivial) rfl ?_;exact ⟨rfl,bel7 hb (by omega) _ _ _ _ _ _ _⟩
abbrev frY (u0 u1 u2 u3 u5 u6 u14 u15 u16 u17 u18 u19 u20 u21 u22 u23 u24 u25 u26 u27 : Value) (xf : Nat → Value) : Act:=⟨List.toArray (u0 :: u1 :: u2 :: u3 :: xf 8 :: u5 :: u6 :: xf 4 :: xf 0 :: xf 1 :: xf 2 :: xf 3 :: xf 5 :: xf 6 :: u14 :: u15 :: u16 :: u17 :: u18 :: u19 :: u20 :: u21 :: u22 :: u23 :: u24 :: u25 :: u26 :: u27 :: []),[]⟩
noncomputable def numF (l : List Tkn) (p : Nat) (x : Int) : Nat × Int × Rat :=
  if (takeF l p x (kindB l p x 1)).2.1 ≠ 0 then ((takeF l p x (kindB l p x 1)).1,(takeF l p x (kindB l p x 1)).2.1,0)
  else ((takeF l p x (kindB l p x 1)).1,valX (takeF l p x (kindB l p x 1)).2.2,valQ (takeF l p x (kindB l p x 1)).2.2)
def RetSQ (w : World) (v : Value) (q : Rat) (k : Nat) (e : Ending) (w' : World) : Prop:=∃ b A n c D m d,e = .returned (.tuple #[v,.agg #[.bool b,.slice A n c,.slice D m d]]) ∧ QV w' b A n c D m d q k ∧ Below w.heap.size w w'
theorem tchU7 {T : TypeId → Bool} {w : World} {g : Nat} {t : TypeId} {a0 a1 a2 a3 a4 a5 a6 : Value} (z : Blk w g t #[a0,a1,a2,a3,a4,a5,a6]) (hT : T t = true) (hz : ([a0,a1,a2,a3,a4,a5,a6] : List Value).all noW = true) (b0 b1 b2 b3 b4 b5 b6 : Value) : Tch T w (((((((w.setCell ⟨g,0,none⟩ b0).setCell ⟨g,1,none⟩ b1).setCell ⟨g,2,none⟩ b2).setCell ⟨g,3,none⟩ b3).setCell ⟨g,4,none⟩ b4).setCell ⟨g,5,none⟩ b5).setCell ⟨g,6,none⟩ b6) :=
 Tch.of_ne (by simp [World.setCell]) z hT hz fun g' _ hne => by
  rw [Below.heap_setCell _ _ _ _ hne,Below.heap_setCell _ _ _ _ hne,Below.heap_setCell _ _ _ _ hne,Below.heap_setCell _ _ _ _ hne,Below.heap_setCell _ _ _ _ hne,Below.heap_setCell _ _ _ _ hne,Below.heap_setCell _ _ _ _ hne]
theorem tchU3 {T : TypeId → Bool} {w : World} {g : Nat} {t : TypeId} {a0 a1 a2 : Value} (z : Blk w g t #[a0,a1,a2]) (hT : T t = true) (hz : ([a0,a1,a2] : List Value).all noW = true) (b0 b1 b2 : Value) : Tch T w (((w.setCell ⟨g,0,none⟩ b0).setCell ⟨g,1,none⟩ b1).setCell ⟨g,2,none⟩ b2) :=
 Tch.of_ne (by simp [World.setCell]) z hT hz fun g' _ hne => by
  rw [Below.heap_setCell _ _ _ _ hne,Below.heap_setCell _ _ _ _ hne,Below.heap_setCell _ _ _ _ hne]
theorem far7 {w : World} {g g' : Nat} {t : TypeId} {cs : Array Value} (h : Blk w g t cs) (hne : g ≠ g') (b0 b1 b2 b3 b4 b5 b6 : Value) : Blk (((((((w.setCell ⟨g',0,none⟩ b0).setCell ⟨g',1,none⟩ b1).setCell ⟨g',2,none⟩ b2).setCell ⟨g',3,none⟩ b3).setCell ⟨g',4,none⟩ b4).setCell ⟨g',5,none⟩ b5).setCell ⟨g',6,none⟩ b6) g t cs :=
 (((((((h.far (p:=⟨g',0,none⟩) hne b0).far (p:=⟨g',1,none⟩) hne b1).far (p:=⟨g',2,none⟩) hne b2).far (p:=⟨g',3,none⟩) hne b3).far (p:=⟨g',4,none⟩) hne b4).far (p:=⟨g',5,none⟩) hne b5).far (p:=⟨g',6,none⟩) hne b6)
theorem rf_number (w : World) (A : Option Addr) (n c : Nat) (l : List Tkn) (h : TkS w A n c l) (hn : n ≤ 65536) (p : Nat) (hp : p ≤ n) (x : Int) (Ln : List UInt8) (B1 : Option Addr) (m1 e1 : Nat) (B2 : Option Addr) (m2 e2 : Nat) (B3 : Option Addr) (m3 e3 : Nat) (N : Nat × Int × Rat) (hN : numF l p x = N) :
 Calls Tryz.prog 142 #[.agg #[.slice A n c,.int .i64 (p : Nat),.int .i64 x,strV Ln,.slice B1 m1 e1,.slice B2 m2 e2,.slice B3 m3 e3]] w (RetSQ w (.agg #[.slice A n c,.int .i64 (N.1 : Nat),.int .i64 N.2.1,strV Ln,.slice B1 m1 e1,.slice B2 m2 e2,.slice B3 m3 e3]) N.2.2 500):=by
 obtain ⟨T,hT⟩ : ∃ T,takeF l p x (kindB l p x 1) = T:=⟨_,rfl⟩;have HT:=Lib.hid hT;have HK:=Lib.hid h;unfold numF at hN;rw [hT] at hN;have HN:=Lib.hid hN;clear hT h hN;go_enter Tryz.func142,Tryz.ntmps142;go_wp2_with fail;have hX:=((Blk.new w 131 #[.slice A n c,.int .i64 (p : Nat),.int .i64 x,strV Ln,.slice B1 m1 e1,.slice B2 m2 e2,.slice B3 m3 e3]).alloc (.cells #[.slice none 0 0,.int .i64 0,.int .i64 0,.string ⟨#[]⟩,.slice none 0 0,.slice none 0 0,.slice none 0 0] 131)).alloc (.cells #[.bool false,.slice none 0 0,.slice none 0 0] 88);have hY:=(Blk.new (w.alloc (.cells #[.slice A n c,.int .i64 (p : Nat),.int .i64 x,strV Ln,.slice B1 m1 e1,.slice B2 m2 e2,.slice B3 m3 e3] 131)) 131 #[.slice none 0 0,.int .i64 0,.int .i64 0,.string ⟨#[]⟩,.slice none 0 0,.slice none 0 0,.slice none 0 0]).alloc (.cells #[.bool false,.slice none 0 0,.slice none 0 0] 88);have hZ:=Blk.new ((w.alloc (.cells #[.slice A n c,.int .i64 (p : Nat),.int .i64 x,strV Ln,.slice B1 m1 e1,.slice B2 m2 e2,.slice B3 m3 e3] 131)).alloc (.cells #[.slice none 0 0,.int .i64 0,.int .i64 0,.string ⟨#[]⟩,.slice none 0 0,.slice none 0 0,.slice none 0 0] 131)) 88 #[.bool false,.slice none 0 0,.slice none 0 0];have hB:=(((brefl w).alloc (Nat.le_refl _) (.cells #[.slice A n c,.int .i64 (p : Nat),.int .i64 x,strV Ln,.slice B1 m1 e1,.slice B2 m2 e2,.slice B3 m3 e3] 131)).alloc (by simp) (.cells #[.slice none 0 0,.int .i64 0,.int .i64 0,.string ⟨#[]⟩,.slice none 0 0,.slice none 0 0,.slice none 0 0] 131)).alloc (by simp; omega) (.cells #[.bool false,.slice none 0 0,.slice none 0 0] 88);have h0 : TR w (((w.alloc (.cells #[.slice A n c,.int .i64 (p : Nat),.int .i64 x,strV Ln,.slice B1 m1 e1,.slice B2 m2 e2,.slice B3 m3 e3] 131)).alloc (.cells #[.slice none 0 0,.int .i64 0,.int .i64 0,.string ⟨#[]⟩,.slice none 0 0,.slice none 0 0,.slice none 0 0] 131)).alloc (.cells #[.bool false,.slice none 0 0,.slice none 0 0] 88)) (w.heap.size + 1) w.heap.size A n c l #[.slice none 0 0,.int .i64 0,.int .i64 0,.string ⟨#[]⟩,.slice none 0 0,.slice none 0 0,.slice none 0 0] #[.slice A n c,.int .i64 (p : Nat),.int .i64 x,strV Ln,.slice B1 m1 e1,.slice B2 m2 e2,.slice B3 m3 e3] #[.slice A n c,.int .i64 (T.1 : Nat),.int .i64 T.2.1,strV Ln,.slice B1 m1 e1,.slice B2 m2 e2,.slice B3 m3 e3] 0 _:=⟨hB,HK.out.belw hB,by simpa using hY,Nat.le_refl _,.inl ⟨by decide,hX⟩⟩;have hZ : Blk (((w.alloc (.cells #[.slice A n c,.int .i64 (p : Nat),.int .i64 x,strV Ln,.slice B1 m1 e1,.slice B2 m2 e2,.slice B3 m3 e3] 131)).alloc (.cells #[.slice none 0 0,.int .i64 0,.int .i64 0,.string ⟨#[]⟩,.slice none 0 0,.slice none 0 0,.slice none 0 0] 131)).alloc (.cells #[.bool false,.slice none 0 0,.slice none 0 0] 88)) (w.heap.size + 2) 88 #[.bool false,.slice none 0 0,.slice none 0 0]:=by simpa using hZ
 have H0:=Lib.hid (And.intro h0 hZ);clear hX hY hB h0 hZ;generalize ((w.alloc (.cells #[.slice A n c,.int .i64 (p : Nat),.int .i64 x,strV Ln,.slice B1 m1 e1,.slice B2 m2 e2,.slice B3 m3 e3] 131)).alloc (.cells #[.slice none 0 0,.int .i64 0,.int .i64 0,.string ⟨#[]⟩,.slice none 0 0,.slice none 0 0,.slice none 0 0] 131)).alloc (.cells #[.bool false,.slice none 0 0,.slice none 0 0] 88) = w2 at H0 ⊢;change Code.wp _ _ _ (frY _ _ _ _ _ _ _ _ _ _ _ _ _ _ _ _ _ _ _ _ (upd (fun _ => undef) 8 _)) _;refine wp_region_ste [2,3,7] (fun i => if i = 0 then 1 else if i = 1 then 0 else 3) (R:=fun ri => List.getD (VE (.agg #[.slice A n c,.int .i64 (p : Nat),.int .i64 x,strV Ln,.slice B1 m1 e1,.slice B2 m2 e2,.slice B3 m3 e3]) :: VE (.agg #[.slice A n c,.int .i64 (p : Nat),.int .i64 x,strV Ln,.slice B1 m1 e1,.slice B2 m2 e2,.slice B3 m3 e3]) :: VE (.bool (kindB l p x 1)) :: VE (.tuple #[.agg #[.slice A n c,.int .i64 (T.1 : Nat),.int .i64 T.2.1,strV Ln,.slice B1 m1 e1,.slice B2 m2 e2,.slice B3 m3 e3],strV T.2.2]) :: VE (.tuple #[.agg #[.slice A n c,.int .i64 (T.1 : Nat),.int .i64 T.2.1,strV Ln,.slice B1 m1 e1,.slice B2 m2 e2,.slice B3 m3 e3],strV T.2.2]) :: VE (.agg #[.slice A n c,.int .i64 (T.1 : Nat),.int .i64 T.2.1,strV Ln,.slice B1 m1 e1,.slice B2 m2 e2,.slice B3 m3 e3]) :: VE (strV T.2.2) :: VA :: VE (strV T.2.2) :: []) ri VA) (T:=fun k _ wq => TR w w2 (w.heap.size + 1) w.heap.size A n c l #[.slice none 0 0,.int .i64 0,.int .i64 0,.string ⟨#[]⟩,.slice none 0 0,.slice none 0 0,.slice none 0 0] #[.slice A n c,.int .i64 (p : Nat),.int .i64 x,strV Ln,.slice B1 m1 e1,.slice B2 m2 e2,.slice B3 m3 e3] #[.slice A n c,.int .i64 (T.1 : Nat),.int .i64 T.2.1,strV Ln,.slice B1 m1 e1,.slice B2 m2 e2,.slice B3 m3 e3] k wq ∧ Blk wq (w.heap.size + 2) 88 #[.bool false,.slice none 0 0,.slice none 0 0]) (by kernel_rfl) ?_ ?_ ?_ ?_ ?_ ?_ ?_ ?_ ?_ ?_ ?_
 ·exact each_of ⟨(fun _ _ => rfl),(fun _ _ => rfl),(fun _ _ => rfl),(fun _ _ => rfl),(fun _ _ => rfl),(fun _ _ => rfl),(fun _ _ => rfl),(fun _ _ => rfl),(fun _ _ => rfl),trivial⟩
 ·exact each_of (acyc_from _ 0 (by kernel_rfl))
 ·decide
 ·intro j hj
  obtain rfl | rfl | rfl:=(show j = 0 ∨ j = 1 ∨ j = 2 by simp at hj; omega)
  ·exact ⟨2,rfl,rfl⟩
  ·exact ⟨3,rfl,rfl⟩
  exact ⟨7,rfl,rfl⟩
 ·intro i o j ho hj
  have hlt:=stl_lt hj;obtain rfl | rfl:=(show j = 0 ∨ j = 1 by simp at hlt; omega)
  ·injection hj with hj; subst hj
   injection ho with ho; subst ho;exact ⟨⟨2,.data⟩,by simp,rfl,rfl⟩
  injection hj with hj; subst hj;injection ho with ho; subst ho;exact ⟨⟨3,.chain⟩,by simp,rfl,rfl⟩
 ·exact fun _ _ _ _ _ _ h => h
 ·exact ⟨H0.out.1.drew,H0.out.2⟩
 ·intro i hi
  rcases (show i = 0 ∨ i = 1 ∨ (i ≠ 0 ∧ i ≠ 1) by omega) with rfl | rfl | ⟨h1,h2⟩
  ·exact .inr ⟨3,_,rfl,rfl,⟨0,.data⟩,by simp,rfl,rfl⟩
  ·exact .inr ⟨2,_,rfl,rfl,⟨1,.data⟩,by simp,rfl,rfl⟩
  exact .inl (by rw [if_neg h1,if_neg h2]; exact Nat.le_refl _)
 ·refine each_of ⟨?_,?_,(fun h => absurd (by decide) h),(fun h => absurd (by decide) h),?_,?_,?_,(fun h => absurd (by decide) h),?_,trivial⟩
  ·intro _ k xf wq hkb hT hd K hK
   have hk2 : k ≤ 1:=hkb
   have hyb : Blk wq w.heap.size 131 #[.slice A n c,.int .i64 (p : Nat),.int .i64 x,strV Ln,.slice B1 m1 e1,.slice B2 m2 e2,.slice B3 m3 e3]:=by
    rcases hT.1.2.2.2.2 with ⟨_,h5⟩ | ⟨h5,_⟩
    ·exact h5
    omega
   obtain ⟨x0,x1,x2,x3,x4,x5,x6⟩:=hyb.c7;(try dsimp only [frY]);go_simp;have hz:=hK.out _ rfl;dsimp only [frY] at hz;exact hz
  ·intro _ k xf wq hkb hT hd K hK
   have hk2 : k ≤ 0:=hkb
   have hyb : Blk wq w.heap.size 131 #[.slice A n c,.int .i64 (p : Nat),.int .i64 x,strV Ln,.slice B1 m1 e1,.slice B2 m2 e2,.slice B3 m3 e3]:=by
    rcases hT.1.2.2.2.2 with ⟨_,h5⟩ | ⟨h5,_⟩
    ·exact h5
    omega
   obtain ⟨x0,x1,x2,x3,x4,x5,x6⟩:=hyb.c7;(try dsimp only [frY]);go_simp;have hz:=hK.out _ rfl;dsimp only [frY] at hz;exact hz
  ·intro _ k xf wq hkb hT hd K hK
   have dq3 : xf 3 = (.tuple #[.agg #[.slice A n c,.int .i64 (T.1 : Nat),.int .i64 T.2.1,strV Ln,.slice B1 m1 e1,.slice B2 m2 e2,.slice B3 m3 e3],strV T.2.2]):=hd ⟨3,.data⟩ (by simp) rfl;(try dsimp only [frY]); (try simp only [dq3]);go_simp;have hz:=hK.out _ rfl;dsimp only [frY] at hz;simp only [dq3] at hz;exact hz
  ·intro _ k xf wq hkb hT hd K hK
   have dq4 : xf 4 = (.tuple #[.agg #[.slice A n c,.int .i64 (T.1 : Nat),.int .i64 T.2.1,strV Ln,.slice B1 m1 e1,.slice B2 m2 e2,.slice B3 m3 e3],strV T.2.2]):=hd ⟨4,.data⟩ (by simp) rfl;(try dsimp only [frY]); (try simp only [dq4]);go_simp;have hz:=hK.out _ rfl;dsimp only [frY] at hz;simp only [dq4] at hz;exact hz
  ·intro _ k xf wq hkb hT hd K hK
   have dq4 : xf 4 = (.tuple #[.agg #[.slice A n c,.int .i64 (T.1 : Nat),.int .i64 T.2.1,strV Ln,.slice B1 m1 e1,.slice B2 m2 e2,.slice B3 m3 e3],strV T.2.2]):=hd ⟨4,.data⟩ (by simp) rfl;(try dsimp only [frY]); (try simp only [dq4]);go_simp;have hz:=hK.out _ rfl;dsimp only [frY] at hz;simp only [dq4] at hz;exact hz
  intro _ k xf wq hkb hT hd K hK;have dq6 : xf 6 = (strV T.2.2):=hd ⟨6,.data⟩ (by simp) rfl;(try dsimp only [frY]); (try simp only [dq6]);go_simp;have hz:=hK.out _ rfl;dsimp only [frY] at hz;simp only [dq6] at hz;exact hz
 ·intro k i o hk ho
  have hlt:=stl_lt hk;obtain rfl | rfl | rfl:=(show k = 0 ∨ k = 1 ∨ k = 2 by simp at hlt; omega)
  ·injection hk with hk; subst hk
   injection ho with ho; subst ho;intro xf wq hT hd K hK;have dq1 : xf 1 = (.agg #[.slice A n c,.int .i64 (p : Nat),.int .i64 x,strV Ln,.slice B1 m1 e1,.slice B2 m2 e2,.slice B3 m3 e3]):=hd ⟨1,.data⟩ (by simp) rfl;(try dsimp only [frY]); (try simp only [dq1]);go_simp;go_at_call 138;(with_reducible refine (rf_kind _ A n c l hT.1.tk hn p hp x Ln B1 m1 e1 B2 m2 e2 B3 m3 e3 1 1 rfl _ rfl).mono ?_); rintro e wr ⟨rfl,hb⟩;have hz:=hK.out _ _ rfl ⟨hT.1.belw H0.out.1.1.size hb (by decide),hT.2.below hb hT.2.lt⟩;dsimp only [frY] at hz;simp only [dq1] at hz;exact hz
  ·injection hk with hk; subst hk
   injection ho with ho; subst ho;intro xf wq hT hd K hK;have dq0 : xf 0 = (.agg #[.slice A n c,.int .i64 (p : Nat),.int .i64 x,strV Ln,.slice B1 m1 e1,.slice B2 m2 e2,.slice B3 m3 e3]):=hd ⟨0,.data⟩ (by simp) rfl;have dq2 : xf 2 = .bool (kindB l p x 1):=hd ⟨2,.data⟩ (by simp) rfl;(try dsimp only [frY]); (try simp only [dq0,dq2]);go_simp;go_at_call 136;(with_reducible refine (rf_take _ A n c l hT.1.tk hn p hp x Ln B1 m1 e1 B2 m2 e2 B3 m3 e3 (kindB l p x 1)).mono ?_); rintro e wr ⟨he,hb⟩;rw [HT.out] at he;subst he;have hz:=hK.out _ _ rfl ⟨hT.1.belw H0.out.1.1.size hb (by decide),hT.2.below hb hT.2.lt⟩;dsimp only [frY] at hz;simp only [dq0,dq2] at hz;exact hz
  injection hk with hk; subst hk;injection ho with ho; subst ho;intro xf wq hT hd K hK;have hT : TR w w2 (w.heap.size + 1) w.heap.size A n c l #[.slice none 0 0,.int .i64 0,.int .i64 0,.string ⟨#[]⟩,.slice none 0 0,.slice none 0 0,.slice none 0 0] #[.slice A n c,.int .i64 (p : Nat),.int .i64 x,strV Ln,.slice B1 m1 e1,.slice B2 m2 e2,.slice B3 m3 e3] #[.slice A n c,.int .i64 (T.1 : Nat),.int .i64 T.2.1,strV Ln,.slice B1 m1 e1,.slice B2 m2 e2,.slice B3 m3 e3] 2 wq ∧ Blk wq (w.heap.size + 2) 88 #[.bool false,.slice none 0 0,.slice none 0 0]:=hT;have dq5 : xf 5 = (.agg #[.slice A n c,.int .i64 (T.1 : Nat),.int .i64 T.2.1,strV Ln,.slice B1 m1 e1,.slice B2 m2 e2,.slice B3 m3 e3]):=hd ⟨5,.data⟩ (by simp) rfl;have hy:=TR.y hT.1;obtain ⟨y0,y1,y2,y3,y4,y5,y6⟩:=hy.c7;obtain ⟨f0,f1,f2,f3,f4,f5,f6⟩:=hy.f7;(try dsimp only [frY]); (try simp only [dq5]);go_simp;have hz:=hK.out undef _ trivial ⟨TR.fin hT.1 HK.out (by omega) (Nat.le_refl _),far7 hT.2 (by omega) _ _ _ _ _ _ _⟩;dsimp only [frY] at hz;simp only [dq5] at hz;exact hz
 intro xf wq hT hr;have hT : TR w w2 (w.heap.size + 1) w.heap.size A n c l #[.slice none 0 0,.int .i64 0,.int .i64 0,.string ⟨#[]⟩,.slice none 0 0,.slice none 0 0,.slice none 0 0] #[.slice A n c,.int .i64 (p : Nat),.int .i64 x,strV Ln,.slice B1 m1 e1,.slice B2 m2 e2,.slice B3 m3 e3] #[.slice A n c,.int .i64 (T.1 : Nat),.int .i64 T.2.1,strV Ln,.slice B1 m1 e1,.slice B2 m2 e2,.slice B3 m3 e3] 3 wq ∧ Blk wq (w.heap.size + 2) 88 #[.bool false,.slice none 0 0,.slice none 0 0]:=hT;have dq8 : xf 8 = strV T.2.2:=hr 8 (by decide);have hb:=hT.1.1;have hzz:=hT.1.2.2.1;have hzr:=hT.2
 have hy : Blk wq w.heap.size 131 #[.slice A n c,.int .i64 (T.1 : Nat),.int .i64 T.2.1,strV Ln,.slice B1 m1 e1,.slice B2 m2 e2,.slice B3 m3 e3]:=by
  rcases hT.1.2.2.2.2 with ⟨h5,_⟩ | ⟨_,h5⟩
  ·omega
  exact h5
 dsimp only [frY];simp only [dq8];clear hT hr dq8;obtain ⟨p1,x1,s1⟩:=T;simp only at hy ⊢;by_cases hx1 : x1 = 0;rotate_left
 ·have t1 : (x1 == 0) = false:=beq_eq_false_iff_ne.2 hx1
  have t2 : (x1 = 0) = False:=eq_false hx1;have t3 : (x1 != 0) = true:=by unfold bne; rw [t1]; rfl
  have hN:=HN.out;rw [if_pos hx1] at hN;subst hN;obtain ⟨y0,y1,y2,y3,y4,y5,y6⟩:=hy.c7;obtain ⟨z0,z1,z2,z3,z4,z5,z6⟩:=hzz.c7;obtain ⟨f0,f1,f2,f3,f4,f5,f6⟩:=hzz.f7;obtain ⟨r0,r1,r2⟩:=hzr.c3;obtain ⟨k0,k1,k2⟩:=hzr.f3;clear hx1 hy hzz hzr;go_wp2_with fail;refine bodyPost_ret (v:=.tuple #[.agg #[.slice A n c,.int .i64 (p1 : Nat),.int .i64 x1,strV Ln,.slice B1 m1 e1,.slice B2 m2 e2,.slice B3 m3 e3],.agg #[.bool false,.slice none 0 0,.slice none 0 0]]) (by simp [results,Tryz.results142,go_sem, *] <;> trivial) rfl ?_;exact ⟨_,_,_,_,_,_,_,rfl,QV.zero _ 500,(((bel7 hb (by omega) _ _ _ _ _ _ _).setCell (p:=⟨w.heap.size + 2,0,none⟩) (by simp) _).setCell (p:=⟨w.heap.size + 2,1,none⟩) (by simp) _).setCell (p:=⟨w.heap.size + 2,2,none⟩) (by simp) _⟩
 subst hx1;have hN:=HN.out;rw [if_neg (by simp)] at hN;subst hN;simp only;obtain ⟨y0,y1,y2,y3,y4,y5,y6⟩:=hy.c7;have hlq : w.heap.size + 2 < wq.heap.size:=hzr.lt;go_wp2_with fail;(refine (r_value_o wq s1 (valX s1) (valQ s1) (val_out s1)).mono ?_); rintro e w5 ⟨b2,A2,n2,c2,D2,d2,f2,rfl,hq,hb5⟩;have hb6:=hb.trans (hb5.mono hb.size);have hy5:=hy.below hb5 hy.lt;have hz5:=hzz.below hb5 hzz.lt;have hr5:=hzr.below hb5 hzr.lt;have hlq5 : w.heap.size + 2 < w5.heap.size:=hr5.lt;have hl0 : w.heap.size < w5.heap.size:=by omega
 have hl1 : w.heap.size + 1 < w5.heap.size:=by omega
 have hn1 : ¬ w.heap.size = w5.heap.size:=by omega
 have hn2 : ¬ w.heap.size + 1 = w5.heap.size:=by omega
 have hn3 : ¬ w.heap.size + 2 = w5.heap.size:=by omega
 clear y0 y1 y2 y3 y4 y5 y6 hy hzz hzr hb hb5;obtain ⟨y0,y1,y2,y3,y4,y5,y6⟩:=hy5.c7;have g0:=hy5.f7;obtain ⟨z0,z1,z2,z3,z4,z5,z6⟩:=hz5.c7;obtain ⟨f0,f1,f2',f3,f4,f5,f6⟩:=hz5.f7;obtain ⟨r0,r1,r2⟩:=hr5.c3;obtain ⟨k0,k1,k2⟩:=hr5.f3;have HQ:=Lib.hid hq;have HY:=Lib.hid hy5;have HZ:=Lib.hid hz5;have HRR:=Lib.hid hr5;clear hy5 hz5 hr5 hq;go_wp2_with fail;go_region
 all_goals
  go_wp2_with fail;refine bodyPost_ret (v:=.tuple #[.agg #[.slice A n c,.int .i64 (p1 : Nat),.int .i64 (valX s1),strV Ln,.slice B1 m1 e1,.slice B2 m2 e2,.slice B3 m3 e3],.agg #[.bool b2,.slice A2 n2 c2,.slice D2 d2 f2]]) (by simp [results,Tryz.results142,go_sem, *] <;> trivial) rfl ?_;have t1:=Tch.set (T:=fun _ => true) HY.out rfl rfl 2 (.int .i64 (valX s1));have t2:=tchU7 (T:=fun _ => true) (HZ.out.far (p:=⟨w.heap.size,2,none⟩) (by simp) (.int .i64 (valX s1))) rfl rfl (.slice A n c) (.int .i64 (p1 : Nat)) (.int .i64 (valX s1)) (.string ⟨Ln.toArray⟩) (.slice B1 m1 e1) (.slice B2 m2 e2) (.slice B3 m3 e3);have t3:=tchU3 (T:=fun _ => true) (far7 (HRR.out.far (p:=⟨w.heap.size,2,none⟩) (by simp) (.int .i64 (valX s1))) (g':=w.heap.size + 1) (by omega) (.slice A n c) (.int .i64 (p1 : Nat)) (.int .i64 (valX s1)) (.string ⟨Ln.toArray⟩) (.slice B1 m1 e1) (.slice B2 m2 e2) (.slice B3 m3 e3)) rfl rfl (.bool b2) (.slice A2 n2 c2) (.slice D2 d2 f2);have q1:=(((bel7 (hb6.setCell (p:=⟨w.heap.size,2,none⟩) (Nat.le_refl _) (.int .i64 (valX s1))) (g:=w.heap.size + 1) (by omega) (.slice A n c) (.int .i64 (p1 : Nat)) (.int .i64 (valX s1)) (.string ⟨Ln.toArray⟩) (.slice B1 m1 e1) (.slice B2 m2 e2) (.slice B3 m3 e3)).setCell (p:=⟨w.heap.size + 2,0,none⟩) (by simp) (.bool b2)).setCell (p:=⟨w.heap.size + 2,1,none⟩) (by simp) (.slice A2 n2 c2)).setCell (p:=⟨w.heap.size + 2,2,none⟩) (by simp) (.slice D2 d2 f2);exact ⟨_,_,_,_,_,_,_,rfl,(QD.tch HQ.out (t1.trans (t2.trans t3))).belw (((Below.refl _ _).alloc (Nat.le_refl _) _).drew),(q1.alloc q1.size _).drew⟩
/-! What the reference reads. -/
def wF (l : List Tkn) (p : Nat) (x : Int) : Nat × Int × List UInt8:=takeF l p x (kindB l p x 0)
def eF (l : List Tkn) (p : Nat) (x : Int) (t : List UInt8) : Nat × Int × List UInt8:=takeF l p x (peekB l p x t)
noncomputable def mkF (l : List Tkn) (p : Nat) (x : Int) : Nat × Int × MarkL :=
  let W:=wF l p x
  let N1:=numF l W.1 W.2.1
  let N2:=numF l N1.1 N1.2.1
  let E:=eF l N2.1 N2.2.1 [59]
  (E.1,E.2.1,⟨W.2.2,rd N1.2.2,rd N2.2.2⟩)
noncomputable def marksG (l : List Tkn) : Nat → Nat → Int → List MarkL → Nat × Int × List MarkL
  | 0,p,x,a => (p,x,a)
  | f + 1,p,x,a => if x = 0 ∧ peekB l p x [125] = false then marksG l f (mkF l p x).1 (mkF l p x).2.1 (a ++ [(mkF l p x).2.2]) else (p,x,a)
noncomputable def bodyG (l : List Tkn) (p : Nat) (x : Int) : Nat × Int × BodyL :=
  let W:=wF l p x
  let E:=eF l W.1 W.2.1 [123]
  let M:=marksG l (l.length + 1) E.1 E.2.1 []
  let E2:=eF l M.1 M.2.1 [125]
  (E2.1,E2.2.1,⟨W.2.2,M.2.2⟩)
theorem takeF_ge {l : List Tkn} {p : Nat} {x : Int} {may : Bool} : p ≤ (takeF l p x may).1 ∧ ((takeF l p x may).2.1 = 0 → x = 0 ∧ (takeF l p x may).1 = p + 1):=by
 unfold takeF;split
 ·rename_i h; exact ⟨Nat.le_refl _,fun h2 => absurd h2 h⟩
 rename_i h;have h : x = 0:=by simpa using h
 split
 ·exact ⟨Nat.le_refl _,fun h2 => absurd (show (18 : Int) = 0 from h2) (by decide)⟩
 split
 ·exact ⟨Nat.le_succ _,fun _ => ⟨h,rfl⟩⟩
 exact ⟨Nat.le_refl _,fun h2 => absurd (show (2 : Int) = 0 from h2) (by decide)⟩
theorem numF_ge {l : List Tkn} {p : Nat} {x : Int} : p ≤ (numF l p x).1 ∧ ((numF l p x).2.1 = 0 → x = 0 ∧ (numF l p x).1 = p + 1) ∧ (p ≤ l.length → (numF l p x).1 ≤ l.length):=by
 have h:=takeF_ge (l:=l) (p:=p) (x:=x) (may:=kindB l p x 1);unfold numF;split
 ·rename_i h1; exact ⟨h.1,fun h2 => absurd h2 h1,fun h3 => takeF_le h3⟩
 rename_i h1; exact ⟨h.1,fun _ => h.2 (by simpa using h1),fun h3 => takeF_le h3⟩
theorem mkF_ge {l : List Tkn} {p : Nat} {x : Int} : p ≤ (mkF l p x).1 ∧ ((mkF l p x).2.1 = 0 → p + 4 ≤ (mkF l p x).1) ∧ (p ≤ l.length → (mkF l p x).1 ≤ l.length):=by
 unfold mkF wF eF;simp only;have h1:=takeF_ge (l:=l) (p:=p) (x:=x) (may:=kindB l p x 0);have k1:=takeF_le (l:=l) (p:=p) (x:=x) (may:=kindB l p x 0);generalize takeF l p x (kindB l p x 0) = W at h1 k1 ⊢;have h2:=numF_ge (l:=l) (p:=W.1) (x:=W.2.1);generalize numF l W.1 W.2.1 = N1 at h2 ⊢;have h3:=numF_ge (l:=l) (p:=N1.1) (x:=N1.2.1);generalize numF l N1.1 N1.2.1 = N2 at h3 ⊢;have h4:=takeF_ge (l:=l) (p:=N2.1) (x:=N2.2.1) (may:=peekB l N2.1 N2.2.1 [59]);have k4:=takeF_le (l:=l) (p:=N2.1) (x:=N2.2.1) (may:=peekB l N2.1 N2.2.1 [59]);generalize takeF l N2.1 N2.2.1 (peekB l N2.1 N2.2.1 [59]) = E at h4 k4 ⊢;refine ⟨by omega,fun hx => ?_,fun hp => k4 (h3.2.2 (h2.2.2 (k1 hp)))⟩;obtain ⟨a4,b4⟩:=h4.2 hx;obtain ⟨a3,b3⟩:=h3.2.1 a4;obtain ⟨a2,b2⟩:=h2.2.1 a3;obtain ⟨a1,b1⟩:=h1.2 a2;omega
theorem wF_nm {l : List Tkn} (hl : ∀ t ∈ l,NmL t.text) (p : Nat) (x : Int) : NmL (wF l p x).2.2:=by
 have h0 : NmL ([] : List UInt8):=by show ([] : List UInt8).length < _; decide
 unfold wF takeF;split
 ·exact h0
 split
 ·exact h0
 rename_i t ht;split
 ·exact hl t (List.mem_of_getElem? ht)
 exact h0
def RetSB (w : World) (v : Value) (b : BodyL) (e : Ending) (w' : World) : Prop :=
  ∃ A n c,e = .returned (.tuple #[v,.agg #[strV b.name,.slice A n c]]) ∧ MksT 500 w' A n c b.pts ∧ NmL b.name ∧ Below w.heap.size w w'
structure BdG (w wa : World) (gz gy gb : Nat) (cs : Array Value) (nm : List UInt8) (wr : World) (L : List MarkL) (pv : Value) : Prop where
  st : Blk wr w.heap.size 131 cs
  rg : wa.grownBy wr (some w.heap.size)
  zs : Blk wr gz 131 #[.slice none 0 0,.int .i64 0,.int .i64 0,.string ⟨#[]⟩,.slice none 0 0,.slice none 0 0,.slice none 0 0]
  zb : Blk wr gy 45 #[.string ⟨#[]⟩,.slice none 0 0]
  b : Blk wr gb 45 #[strV nm,pv]
  row : RowT 90 (MkC 500) 7 wr gb pv L.length L
  lt : wa.heap.size = w.heap.size + 1 ∧ gz = w.heap.size + 1 ∧ gy = w.heap.size + 2 ∧ gb = w.heap.size + 3
  no : cs.toList.all noW = true
  ba : Below w.heap.size w wa
theorem tchG {T : TypeId → Bool} {w w' : World} {g t : Nat} {cs : Array Value} (z : Blk w g t cs) (hT : T t = true) (hc : cs.toList.all noW = true) (k : w.grownBy w' (some g)) : Tch T w w' :=
 Tch.of_ne k.size z hT hc fun g' hg hne => k.block g' hg (fun e => hne (by injection e with e))
theorem rg7 {w w' : World} {g : Nat} (h : w.grownBy w' (some g)) (b0 b1 b2 b3 b4 b5 b6 : Value) : w.grownBy (((((((w'.setCell ⟨g,0,none⟩ b0).setCell ⟨g,1,none⟩ b1).setCell ⟨g,2,none⟩ b2).setCell ⟨g,3,none⟩ b3).setCell ⟨g,4,none⟩ b4).setCell ⟨g,5,none⟩ b5).setCell ⟨g,6,none⟩ b6) (some g) :=
 rg_set (rg_set (rg_set (rg_set (rg_set (rg_set (rg_set h 0 b0) 1 b1) 2 b2) 3 b3) 4 b4) 5 b5) 6 b6
theorem st7 {w : World} {g t : Nat} {a0 a1 a2 a3 a4 a5 a6 : Value} (h : Blk w g t #[a0,a1,a2,a3,a4,a5,a6]) (b0 b1 b2 b3 b4 b5 b6 : Value) : Blk (((((((w.setCell ⟨g,0,none⟩ b0).setCell ⟨g,1,none⟩ b1).setCell ⟨g,2,none⟩ b2).setCell ⟨g,3,none⟩ b3).setCell ⟨g,4,none⟩ b4).setCell ⟨g,5,none⟩ b5).setCell ⟨g,6,none⟩ b6) g t #[b0,b1,b2,b3,b4,b5,b6]:=(((((((h.s70 b0).s71 b1).s72 b2).s73 b3).s74 b4).s75 b5).s76 b6)
section
variable {w wa wr w3 : World} {gz gy gb : Nat} {cs cs' : Array Value} {nm : List UInt8} {L : List MarkL} {pv : Value}
theorem BdG.bel (h : BdG w wa gz gy gb cs nm wr L pv) : Below w.heap.size w wr:=h.ba.trans (rg_bel h.rg h.ba.size (Nat.le_refl _))
theorem BdG.call (h : BdG w wa gz gy gb cs nm wr L pv) (hs : Blk w3 w.heap.size 131 cs') (g3 : wr.grownBy w3 (some w.heap.size)) (hno : cs'.toList.all noW = true) : BdG w wa gz gy gb cs' nm w3 L pv:=by
 have hl:=h.lt;exact ⟨hs,rg_trans h.rg g3,rg_blk g3 h.zs (by omega),rg_blk g3 h.zb (by omega),rg_blk g3 h.b (by omega),h.row.rg (by omega) g3 (fun _ _ x => x.tch (tchG (T:=fun _ => true) h.st rfl h.no g3)),h.lt,hno,h.ba⟩
theorem BdG.below (h : BdG w wa gz gy gb cs nm wr L pv) (hb : Below wr.heap.size wr w3) : BdG w wa gz gy gb cs nm w3 L pv:=h.call (h.st.below hb h.st.lt) (rg_below (rg_refl _ _) hb) h.no
theorem BdG.nm0 (h : BdG w wa gz gy gb cs nm wr L pv) (nm' : List UInt8) (hpv : noW pv = true) : BdG w wa gz gy gb cs nm' (wr.setCell ⟨gb,0,none⟩ (strV nm')) L pv:=by
 have hl:=h.lt;have ht : Tch (TOne 45) wr (wr.setCell ⟨gb,0,none⟩ (strV nm')):=Tch.set h.b (by simp [TOne]) (by show (noW (strV nm) && (noW pv && true)) = true; rw [hpv]; rfl) 0 _;exact ⟨h.st.far (p:=⟨gb,0,none⟩) (by show w.heap.size ≠ gb; omega) _,rg_far h.rg (by show wa.heap.size ≤ gb; omega) _,h.zs.far (p:=⟨gb,0,none⟩) (by show gz ≠ gb; omega) _,h.zb.far (p:=⟨gb,0,none⟩) (by show gy ≠ gb; omega) _,h.b.set_ 0 _,h.row.tch ht (by decide) (fun _ _ x => x.tch ht),h.lt,h.no,h.ba⟩
theorem BdG.b5 {xs : List Value} {w5 : World} (h : BdG w wa gz gy gb cs nm wr L pv) (hown : OwJ noW wr gb 90 7 pv L.length xs) (o : Obj) (hgrow : (wr.alloc o).grownBy w5 pv.ownBlock) : Blk w5 gb 45 #[strV nm,pv] :=
 (h.b.alloc o).grown hgrow (own_ne hown h.b (by decide))
theorem BdG.push {xs : List Value} {w5 : World} {v' : Value} {cs2 : List Value} {m : MarkL} {o : Obj} (h : BdG w wa gz gy gb cs nm wr L pv) (hown : OwJ noW wr gb 90 7 pv L.length xs) (hrow : RowC (MkC 500) 7 wr L xs)
 (hm : MkC 500 wr cs2 m) (hcs : cs2.length = 7) (hown5 : OwJ noW w5 gb 90 7 v' (L.length + 1) (xs ++ cs2)) (hgrow : (wr.alloc o).grownBy w5 pv.ownBlock) : BdG w wa gz gy gb cs nm (w5.setCell ⟨gb,1,none⟩ v') (L ++ [m]) v':=by
 have hl:=h.lt;have b5:=h.b5 hown o hgrow;have hs:=h.b.lt;have hb5 : Below gb wr w5:=((Below.refl gb wr).alloc (by omega) o).grown hgrow (by simp; omega) (fun k hk => (hown.at_ hk).1);have hb6 : Below gb wr (w5.setCell ⟨gb,1,none⟩ v'):=hb5.setCell (p:=⟨gb,1,none⟩) (Nat.le_refl _) v';have hownA : OwJ noW (wr.alloc o) gb 90 7 pv L.length xs:=hown.belw ((Below.refl _ _).alloc (Nat.le_refl _) o);obtain ⟨A,c,hpv,_⟩:=h.row.form;have ht : Tch TA wr (w5.setCell ⟨gb,1,none⟩ v'):=((Tch.below ((Below.refl _ _).alloc (Nat.le_refl _) o)).trans (Tch.grown (T:=TA) (fun _ hu => hu) rfl hownA hgrow)).trans (Tch.set b5 rfl (by rw [hpv]; rfl) 1 v');have hl2 : (L ++ [m]).length = L.length + 1:=by simp
 refine ⟨h.st.below hb6 (by omega),rg_bel1 h.rg (hb6.mono (by omega)),h.zs.below hb6 (by omega),h.zb.below hb6 (by omega),b5.s21 v',?_,h.lt,h.no,h.ba⟩;rw [hl2];exact ⟨hl2,xs ++ cs2,hown5.far (own_ne hown5 b5 (by decide)) v',(hrow.map_ fun _ _ x => x.tch ht).snoc (hm.tch ht) hcs⟩
end
abbrev frZ (u0 u1 u2 u3 u4 u5 u6 u7 u8 u9 u10 u11 u12 u13 u14 u15 u16 u17 u18 u19 u20 u21 u22 u23 u24 u25 u26 u27 u28 u29 u30 u31 u32 u33 u34 u35 u36 u37 u38 u39 u40 u41 u42 u43 u44 u45 u46 u47 u48 u49 : Value) (xf : Nat → Value) : Act:=⟨List.toArray (u0 :: u1 :: u2 :: u3 :: u4 :: u5 :: u6 :: u7 :: u8 :: u9 :: u10 :: u11 :: u12 :: u13 :: u14 :: u15 :: u16 :: u17 :: u18 :: u19 :: u20 :: u21 :: u22 :: u23 :: u24 :: u25 :: u26 :: u27 :: u28 :: u29 :: u30 :: u31 :: u32 :: u33 :: u34 :: u35 :: u36 :: u37 :: u38 :: u39 :: u40 :: u41 :: u42 :: u43 :: u44 :: u45 :: u46 :: u47 :: u48 :: u49 :: xf 0 :: xf 1 :: xf 2 :: []),[]⟩
def TBG (w : World) (gs gz gy gb : Nat) (cs cs2 : Array Value) (nm : List UInt8) (pv : Value) (L : List MarkL) (k : Nat) (wq : World) : Prop :=
  Blk wq gs 131 cs ∧ Blk wq gb 45 #[strV nm,pv] ∧ RowT 90 (MkC 500) 7 wq gb pv L.length L ∧ Below w.heap.size w wq ∧
  ((k < 2 ∧ Blk wq gz 131 #[.slice none 0 0,.int .i64 0,.int .i64 0,.string ⟨#[]⟩,.slice none 0 0,.slice none 0 0,.slice none 0 0] ∧ Blk wq gy 45 #[.string ⟨#[]⟩,.slice none 0 0]) ∨ (k = 2 ∧ Blk wq gz 131 cs2 ∧ Blk wq gy 45 #[.string ⟨#[]⟩,.slice none 0 0]) ∨ (k = 3 ∧ Blk wq gz 131 cs2 ∧ Blk wq gy 45 #[strV nm,pv]))
section
variable {w wq w' : World} {gs gz gy gb k : Nat} {cs cs2 : Array Value} {nm : List UInt8} {pv : Value} {L : List MarkL}
theorem TBG.drew (h : TBG w gs gz gy gb cs cs2 nm pv L k wq) : TBG w gs gz gy gb cs cs2 nm pv L k wq.drew:=⟨h.1,h.2.1,h.2.2.1.same (fun _ _ _ h => h) (fun _ _ x => x.tch (T:=TA) (Tch.below ((Below.refl _ _).drew))),h.2.2.2.1.drew,h.2.2.2.2⟩
theorem TBG.bel_ (h : TBG w gs gz gy gb cs cs2 nm pv L 0 wq) (hb : Below wq.heap.size wq w') : TBG w gs gz gy gb cs cs2 nm pv L 1 w':=by
 obtain ⟨h1,h2,h3,h4,h5⟩:=h;have t : Tch (fun _ => false) wq w':=Tch.below hb;rcases h5 with ⟨_,h5,h6⟩ | ⟨h5,_⟩ | ⟨h5,_⟩
 ·exact ⟨h1.below hb h1.lt,h2.below hb h2.lt,h3.tch t rfl (fun _ _ x => x.tch t),h4.trans (hb.mono h4.size),.inl ⟨by decide,h5.below hb h5.lt,h6.below hb h6.lt⟩⟩
 ·omega
 omega
theorem TBG.z1 (h : TBG w gs gz gy gb cs cs2 nm pv L 1 wq) : Blk wq gz 131 #[.slice none 0 0,.int .i64 0,.int .i64 0,.string ⟨#[]⟩,.slice none 0 0,.slice none 0 0,.slice none 0 0]:=by
 rcases h.2.2.2.2 with ⟨_,h5,h6⟩ | ⟨h5,_⟩ | ⟨h5,_⟩
 ·exact h5
 ·omega
 omega
theorem TBG.z2 (h : TBG w gs gz gy gb cs cs2 nm pv L 2 wq) : Blk wq gy 45 #[.string ⟨#[]⟩,.slice none 0 0]:=by
 rcases h.2.2.2.2 with ⟨h5,_⟩ | ⟨_,_,h6⟩ | ⟨h5,_⟩
 ·omega
 ·exact h6
 omega
theorem TBG.z3 (h : TBG w gs gz gy gb cs cs2 nm pv L 3 wq) : Blk wq gz 131 cs2 ∧ Blk wq gy 45 #[strV nm,pv]:=by
 rcases h.2.2.2.2 with ⟨h5,_⟩ | ⟨h5,_⟩ | ⟨_,h5⟩
 ·omega
 ·omega
 exact h5
theorem TBG.put {b0 b1 b2 b3 b4 b5 b6 : Value} (h : TBG w gs gz gy gb cs #[b0,b1,b2,b3,b4,b5,b6] nm pv L 1 wq) (n1 : gs ≠ gz) (n2 : gb ≠ gz) (n3 : gy ≠ gz) (n4 : w.heap.size ≤ gz) (_ : gz < gb) : TBG w gs gz gy gb cs #[b0,b1,b2,b3,b4,b5,b6] nm pv L 2 (((((((wq.setCell ⟨gz,0,none⟩ b0).setCell ⟨gz,1,none⟩ b1).setCell ⟨gz,2,none⟩ b2).setCell ⟨gz,3,none⟩ b3).setCell ⟨gz,4,none⟩ b4).setCell ⟨gz,5,none⟩ b5).setCell ⟨gz,6,none⟩ b6):=by
 have hz:=h.z1;obtain ⟨h1,h2,h3,h4,h5⟩:=h;have t:=tchU7 (T:=TOne 131) hz (by simp [TOne]) rfl b0 b1 b2 b3 b4 b5 b6;rcases h5 with ⟨_,_,h6⟩ | ⟨h5,_⟩ | ⟨h5,_⟩
 ·exact ⟨far7 h1 n1 _ _ _ _ _ _ _,far7 h2 n2 _ _ _ _ _ _ _,h3.tch t (by decide) (fun _ _ x => x.tch t),bel7 h4 n4 _ _ _ _ _ _ _,.inr (.inl ⟨rfl,st7 hz _ _ _ _ _ _ _,far7 h6 n3 _ _ _ _ _ _ _⟩)⟩
 ·omega
 omega
theorem TBG.put2 (h : TBG w gs gz gy gb cs cs2 nm pv L 2 wq) (n1 : gs ≠ gy) (n2 : gb ≠ gy) (n3 : gz ≠ gy) (n4 : w.heap.size ≤ gy) : TBG w gs gz gy gb cs cs2 nm pv L 3 ((wq.setCell ⟨gy,0,none⟩ (strV nm)).setCell ⟨gy,1,none⟩ pv):=by
 have hy:=h.z2;obtain ⟨h1,h2,h3,h4,h5⟩:=h;have t:=tch2 hy ⟨rfl,rfl⟩ (strV nm) pv;rcases h5 with ⟨h5,_⟩ | ⟨_,h5,_⟩ | ⟨h5,_⟩
 ·omega
 ·exact ⟨(h1.far (p:=⟨gy,0,none⟩) n1 _).far (p:=⟨gy,1,none⟩) n1 _,(h2.far (p:=⟨gy,0,none⟩) n2 _).far (p:=⟨gy,1,none⟩) n2 _,h3.tch t (by decide) (fun _ _ x => x.tch t),bel2 h4 n4 _ _,.inr (.inr ⟨rfl,(h5.far (p:=⟨gy,0,none⟩) n3 _).far (p:=⟨gy,1,none⟩) n3 _,(hy.set_ 0 _).set_ 1 _⟩)⟩
 omega
end
theorem MksTb.of_row {w : World} {base n c : Nat} {A : Option Addr} {l : List MarkL} (h : RowT 90 (MkC 500) 7 w base (.slice A n c) n l) : MksT 500 w A n c l:=h.slT fun _ _ _ _ h1 h2 => h1.at_ h2
def mS (g n : Nat) (w : World) : Nat:=match w.cell? ⟨g,1,none⟩,w.cell? ⟨g,2,none⟩ with | some (.int _ p),some (.int _ x) => 2 * (n - p.toNat) + (if x = 0 then 1 else 0) | _,_ => 0
theorem mS_st {w : World} {g t n p : Nat} {x : Int} {a0 a3 a4 a5 a6 : Value} (h : Blk w g t #[a0,.int .i64 (p : Nat),.int .i64 x,a3,a4,a5,a6]) : mS g n w = 2 * (n - p) + (if x = 0 then 1 else 0):=by
 unfold mS;rw [h.cell 1,h.cell 2];simp
theorem news_at {w : World} {g : Nat} (h : w.heap.size = g) (cs : Array Value) (t : TypeId) : ∀ j u,cs.toList[j]? = some u → (w.alloc (.cells cs t)).cell? ((⟨g,0,none⟩ : Addr).add j) = some u:=by
 subst h;exact World.news_of_block (heap_alloc_new w _)
theorem marksG_stop {l : List Tkn} {f p : Nat} {x : Int} {a : List MarkL} (h : ¬ (x = 0 ∧ peekB l p x [125] = false)) : marksG l f p x a = (p,x,a):=by
 cases f
 ·rfl
 exact if_neg h
theorem marksG_step {l : List Tkn} {f p : Nat} {x : Int} {a : List MarkL} (hf : 0 < f) (h : x = 0 ∧ peekB l p x [125] = false) : marksG l f p x a = marksG l (f - 1) (mkF l p x).1 (mkF l p x).2.1 (a ++ [(mkF l p x).2.2]):=by
 obtain ⟨f,rfl⟩ : ∃ g,f = g + 1:=⟨f - 1,by omega⟩;exact if_pos h
theorem rf_body (w : World) (A : Option Addr) (n c : Nat) (l : List Tkn) (h : TkS w A n c l) (hn : n ≤ 65536) (p : Nat) (hp : p ≤ n) (x : Int) (Ln : List UInt8) (B1 : Option Addr) (m1 e1 : Nat) (B2 : Option Addr) (m2 e2 : Nat) (B3 : Option Addr) (m3 e3 : Nat) (htx : ∀ t ∈ l,NmL t.text) (N : Nat × Int × BodyL) (hN : bodyG l p x = N) :
 Calls Tryz.prog 80 #[.agg #[.slice A n c,.int .i64 (p : Nat),.int .i64 x,strV Ln,.slice B1 m1 e1,.slice B2 m2 e2,.slice B3 m3 e3]] w (RetSB w (.agg #[.slice A n c,.int .i64 (N.1 : Nat),.int .i64 N.2.1,strV Ln,.slice B1 m1 e1,.slice B2 m2 e2,.slice B3 m3 e3]) N.2.2):=by
 have hl:=h.1;obtain ⟨i0,hi0,hz0,hz1,hz2⟩:=info_parts info_mk;have HI:=Lib.hid (And.intro hi0 (And.intro hz0 (And.intro hz1 hz2)));clear hi0 hz0 hz1 hz2;obtain ⟨W,hW⟩ : ∃ W,wF l p x = W:=⟨_,rfl⟩;obtain ⟨E,hE⟩ : ∃ E,eF l W.1 W.2.1 [123] = E:=⟨_,rfl⟩;unfold bodyG at hN;simp only [hW,hE] at hN;have hW1 : W.1 ≤ n:=by rw [← hW,← hl]; exact takeF_le (by omega)
 have hE1 : E.1 ≤ n:=by rw [← hE,← hl]; exact takeF_le (by omega)
 have HWN:=Lib.hid (show NmL W.2.2 by rw [← hW]; exact wF_nm htx p x);have HN:=Lib.hid hN;have HW:=Lib.hid hW;have HE:=Lib.hid hE;have HK:=Lib.hid h;have HX:=Lib.hid htx;clear hN hW hE h htx;go_enter Tryz.func80,Tryz.ntmps80;go_wp2_with fail;have hs0:=(((Blk.new w 131 #[.slice A n c,.int .i64 (p : Nat),.int .i64 x,strV Ln,.slice B1 m1 e1,.slice B2 m2 e2,.slice B3 m3 e3]).alloc (.cells #[.slice none 0 0,.int .i64 0,.int .i64 0,.string ⟨#[]⟩,.slice none 0 0,.slice none 0 0,.slice none 0 0] 131)).alloc (.cells #[.string ⟨#[]⟩,.slice none 0 0] 45)).alloc (.cells #[.string ⟨#[]⟩,.slice none 0 0] 45);have hz0:=((Blk.new (w.alloc (.cells #[.slice A n c,.int .i64 (p : Nat),.int .i64 x,strV Ln,.slice B1 m1 e1,.slice B2 m2 e2,.slice B3 m3 e3] 131)) 131 #[.slice none 0 0,.int .i64 0,.int .i64 0,.string ⟨#[]⟩,.slice none 0 0,.slice none 0 0,.slice none 0 0]).alloc (.cells #[.string ⟨#[]⟩,.slice none 0 0] 45)).alloc (.cells #[.string ⟨#[]⟩,.slice none 0 0] 45);have hy0:=(Blk.new ((w.alloc (.cells #[.slice A n c,.int .i64 (p : Nat),.int .i64 x,strV Ln,.slice B1 m1 e1,.slice B2 m2 e2,.slice B3 m3 e3] 131)).alloc (.cells #[.slice none 0 0,.int .i64 0,.int .i64 0,.string ⟨#[]⟩,.slice none 0 0,.slice none 0 0,.slice none 0 0] 131)) 45 #[.string ⟨#[]⟩,.slice none 0 0]).alloc (.cells #[.string ⟨#[]⟩,.slice none 0 0] 45);have hb0:=Blk.new (((w.alloc (.cells #[.slice A n c,.int .i64 (p : Nat),.int .i64 x,strV Ln,.slice B1 m1 e1,.slice B2 m2 e2,.slice B3 m3 e3] 131)).alloc (.cells #[.slice none 0 0,.int .i64 0,.int .i64 0,.string ⟨#[]⟩,.slice none 0 0,.slice none 0 0,.slice none 0 0] 131)).alloc (.cells #[.string ⟨#[]⟩,.slice none 0 0] 45)) 45 #[.string ⟨#[]⟩,.slice none 0 0];have hr0:=rg_alloc (rg_alloc (rg_alloc (rg_refl w.heap.size (w.alloc (.cells #[.slice A n c,.int .i64 (p : Nat),.int .i64 x,strV Ln,.slice B1 m1 e1,.slice B2 m2 e2,.slice B3 m3 e3] 131))) (.cells #[.slice none 0 0,.int .i64 0,.int .i64 0,.string ⟨#[]⟩,.slice none 0 0,.slice none 0 0,.slice none 0 0] 131)) (.cells #[.string ⟨#[]⟩,.slice none 0 0] 45)) (.cells #[.string ⟨#[]⟩,.slice none 0 0] 45);have hba : Below w.heap.size w (w.alloc (.cells #[.slice A n c,.int .i64 (p : Nat),.int .i64 x,strV Ln,.slice B1 m1 e1,.slice B2 m2 e2,.slice B3 m3 e3] 131)):=(brefl w).alloc (Nat.le_refl _) _;have hwa : (w.alloc (.cells #[.slice A n c,.int .i64 (p : Nat),.int .i64 x,strV Ln,.slice B1 m1 e1,.slice B2 m2 e2,.slice B3 m3 e3] 131)).heap.size = w.heap.size + 1:=by simp
 generalize hw0 : (((w.alloc (.cells #[.slice A n c,.int .i64 (p : Nat),.int .i64 x,strV Ln,.slice B1 m1 e1,.slice B2 m2 e2,.slice B3 m3 e3] 131)).alloc (.cells #[.slice none 0 0,.int .i64 0,.int .i64 0,.string ⟨#[]⟩,.slice none 0 0,.slice none 0 0,.slice none 0 0] 131)).alloc (.cells #[.string ⟨#[]⟩,.slice none 0 0] 45)).alloc (.cells #[.string ⟨#[]⟩,.slice none 0 0] 45) = w0 at hs0 hz0 hy0 hb0 hr0 ⊢;have hG0 : BdG w (w.alloc (.cells #[.slice A n c,.int .i64 (p : Nat),.int .i64 x,strV Ln,.slice B1 m1 e1,.slice B2 m2 e2,.slice B3 m3 e3] 131)) (w.heap.size + 1) (w.heap.size + 2) (w.heap.size + 3) #[.slice A n c,.int .i64 (p : Nat),.int .i64 x,strV Ln,.slice B1 m1 e1,.slice B2 m2 e2,.slice B3 m3 e3] [] w0 [] (.slice none 0 0):=⟨hs0,hr0,by simpa using hz0,by simpa using hy0,by simpa using hb0,RowT.nil,⟨hwa,rfl,rfl,rfl⟩,rfl,hba⟩;generalize (w.alloc (.cells #[.slice A n c,.int .i64 (p : Nat),.int .i64 x,strV Ln,.slice B1 m1 e1,.slice B2 m2 e2,.slice B3 m3 e3] 131)) = wa at hG0;have HG0:=Lib.hid hG0;clear hs0 hz0 hy0 hb0 hr0 hba hwa hw0 hG0;(refine (rf_word w0 A n c l (HK.out.belw HG0.out.bel) hn p hp x Ln B1 m1 e1 B2 m2 e2 B3 m3 e3 W HW.out).mono ?_); rintro e w1 ⟨rfl,hb1⟩;have hG1:=HG0.out.below hb1;have HG1:=Lib.hid hG1;have hl1 : w.heap.size + 3 < w1.heap.size:=by have:=hG1.b.lt; have:=hG1.lt; omega
 have hl1a : w.heap.size < w1.heap.size:=by omega
 have hl1b : w.heap.size + 1 < w1.heap.size:=by omega
 have hl1c : w.heap.size + 2 < w1.heap.size:=by omega
 obtain ⟨y0,y1,y2,y3,y4,y5,y6⟩:=hG1.st.c7;obtain ⟨f0,f1,f2,f3,f4,f5,f6⟩:=hG1.st.f7;obtain ⟨cb0,cb1⟩:=hG1.b.c2;obtain ⟨fb0,fb1⟩:=hG1.b.f2;clear hG1 hb1 HG0;go_wp2_with fail;have hG1:=((HG1.out.call (st7 HG1.out.st (.slice A n c) (.int .i64 (W.1 : Nat)) (.int .i64 W.2.1) (.string ⟨Ln.toArray⟩) (.slice B1 m1 e1) (.slice B2 m2 e2) (.slice B3 m3 e3)) (rg7 (rg_refl _ _) _ _ _ _ _ _ _) rfl).nm0 W.2.2 rfl);have HG2:=Lib.hid hG1;clear hG1 y0 y1 y2 y3 y4 y5 y6 f0 f1 f2 f3 f4 f5 f6 cb0 cb1 fb0 fb1 HG1 hl1 hl1a hl1b hl1c;(refine (rf_expect _ A n c l (HK.out.belw HG2.out.bel) hn W.1 hW1 W.2.1 Ln B1 m1 e1 B2 m2 e2 B3 m3 e3 [123] E HE.out).mono ?_); rintro e w2 ⟨rfl,hb2⟩;have hG3:=HG2.out.below hb2;have HG3:=Lib.hid hG3;have hl1 : w.heap.size + 3 < w2.heap.size:=by have:=hG3.b.lt; have:=hG3.lt; omega
 have hl1a : w.heap.size < w2.heap.size:=by omega
 obtain ⟨y0,y1,y2,y3,y4,y5,y6⟩:=hG3.st.c7;obtain ⟨f0,f1,f2,f3,f4,f5,f6⟩:=hG3.st.f7;clear hG3 hb2 HG2;go_wp2_with fail;have hG4:=HG3.out.call (st7 HG3.out.st (.slice A n c) (.int .i64 (E.1 : Nat)) (.int .i64 E.2.1) (.string ⟨Ln.toArray⟩) (.slice B1 m1 e1) (.slice B2 m2 e2) (.slice B3 m3 e3)) (rg7 (rg_refl _ _) _ _ _ _ _ _ _) rfl;have HG4:=Lib.hid hG4;clear hG4 y0 y1 y2 y3 y4 y5 y6 f0 f1 f2 f3 f4 f5 f6 HG3 hl1 hl1a;obtain ⟨M,hM⟩ : ∃ M,marksG l (l.length + 1) E.1 E.2.1 [] = M:=⟨_,rfl⟩;have hN:=HN.out;rw [hM] at hN;have HM:=Lib.hid hM;have HN2:=Lib.hid hN;clear hN hM HN;go_loopw [] (fun wr => ∃ f p' x' L pv,BdG w wa (w.heap.size + 1) (w.heap.size + 2) (w.heap.size + 3) #[.slice A n c,.int .i64 (p' : Nat),.int .i64 x',strV Ln,.slice B1 m1 e1,.slice B2 m2 e2,.slice B3 m3 e3] W.2.2 wr L pv ∧ p' ≤ n ∧ (x' = 0 → n + 1 ≤ f + p' ∧ L.length ≤ p') ∧ Hid (marksG l f p' x' L = M)) (fun wr => mS w.heap.size n wr)
 case atStart => exact ⟨_,E.1,E.2.1,[],_,HG4.out,hE1,fun _ => ⟨by omega,Nat.zero_le _⟩,HM⟩
 case round =>
  clear HM HG4;obtain ⟨f,p',x',L,pv,hbd,hp',hfl,HR⟩:=hrel;have HBD:=Lib.hid hbd;have hle1 : w.heap.size + 3 < wr.heap.size:=by have:=hbd.b.lt; have:=hbd.lt; omega
  have hl1a : w.heap.size < wr.heap.size:=by omega
  obtain ⟨Ap,cp,rfl,hcp⟩:=hbd.row.form;obtain ⟨y0,y1,y2,y3,y4,y5,y6⟩:=hbd.st.c7;clear hbd;by_cases hx : x' = 0;rotate_left
  ·have t1 : (x' == 0) = false:=beq_eq_false_iff_ne.2 hx
   have t2 : (x' = 0) = False:=eq_false hx;have hM2:=HR.out;rw [marksG_stop (fun h => hx h.1)] at hM2;subst hM2;have hN:=HN2.out;subst hN;clear HN2 HR hfl hx;go_wp2_with fail;clear y0 y1 y2 y3 y4 y5 y6;change Code.wp _ _ _ (frZ _ _ _ _ _ _ _ _ _ _ _ _ _ _ _ _ _ _ _ _ _ _ _ _ _ _ _ _ _ _ _ _ _ _ _ _ _ _ _ _ _ _ _ _ _ _ _ _ _ _ (upd (upd (upd (fun _ => undef) 0 _) 1 _) 2 _)) _;have hgl:=HBD.out.lt;obtain ⟨E2,hE2⟩ : ∃ E2,eF l p' x' [125] = E2:=⟨_,rfl⟩;have HE2:=Lib.hid hE2;clear hE2;have H0:=Lib.hid (show TBG w w.heap.size (w.heap.size + 1) (w.heap.size + 2) (w.heap.size + 3) #[.slice A n c,.int .i64 (p' : Nat),.int .i64 x',strV Ln,.slice B1 m1 e1,.slice B2 m2 e2,.slice B3 m3 e3] #[.slice A n c,.int .i64 (E2.1 : Nat),.int .i64 E2.2.1,strV Ln,.slice B1 m1 e1,.slice B2 m2 e2,.slice B3 m3 e3] W.2.2 (.slice Ap L.length cp) L 0 wr from ⟨HBD.out.st,HBD.out.b,HBD.out.row,HBD.out.bel,.inl ⟨by decide,HBD.out.zs,HBD.out.zb⟩⟩);refine wp_region_ste [1,3,4] (fun _ => 3) (R:=fun ri => List.getD (VE (.agg #[.slice A n c,.int .i64 (p' : Nat),.int .i64 x',strV Ln,.slice B1 m1 e1,.slice B2 m2 e2,.slice B3 m3 e3]) :: VE (.agg #[.slice A n c,.int .i64 (E2.1 : Nat),.int .i64 E2.2.1,strV Ln,.slice B1 m1 e1,.slice B2 m2 e2,.slice B3 m3 e3]) :: VE (.agg #[strV W.2.2,.slice Ap L.length cp]) :: []) ri VA) (T:=fun k _ wq => TBG w w.heap.size (w.heap.size + 1) (w.heap.size + 2) (w.heap.size + 3) #[.slice A n c,.int .i64 (p' : Nat),.int .i64 x',strV Ln,.slice B1 m1 e1,.slice B2 m2 e2,.slice B3 m3 e3] #[.slice A n c,.int .i64 (E2.1 : Nat),.int .i64 E2.2.1,strV Ln,.slice B1 m1 e1,.slice B2 m2 e2,.slice B3 m3 e3] W.2.2 (.slice Ap L.length cp) L k wq) (by kernel_rfl) ?_ ?_ ?_ ?_ ?_ ?_ ?_ ?_ ?_ ?_ ?_
   ·exact each_of ⟨(fun _ _ => rfl),(fun _ _ => rfl),(fun _ _ => rfl),(fun _ _ => rfl),(fun _ _ => rfl),trivial⟩
   ·exact each_of (acyc_from _ 0 (by kernel_rfl))
   ·decide
   ·intro j hj
    obtain rfl | rfl | rfl:=(show j = 0 ∨ j = 1 ∨ j = 2 by simp at hj; omega)
    ·exact ⟨1,rfl,rfl⟩
    ·exact ⟨3,rfl,rfl⟩
    exact ⟨4,rfl,rfl⟩
   ·intro i o j ho hj
    have hlt:=stl_lt hj;obtain rfl | rfl:=(show j = 0 ∨ j = 1 by simp at hlt; omega)
    ·injection hj with hj; subst hj
     injection ho with ho; subst ho;exact ⟨⟨1,.data⟩,by simp,rfl,rfl⟩
    injection hj with hj; subst hj;injection ho with ho; subst ho;exact ⟨⟨3,.chain⟩,by simp,rfl,rfl⟩
   ·exact fun _ _ _ _ _ _ h => h
   ·exact H0.out.drew
   ·exact fun i _ => .inl (Nat.le_refl _)
   ·refine each_of ⟨?_,(fun h => absurd (by decide) h),?_,(fun h => absurd (by decide) h),(fun h => absurd (by decide) h),trivial⟩
    ·intro _ k xf wq hkb hT hd K hK
     obtain ⟨x0,x1,x2,x3,x4,x5,x6⟩:=hT.1.c7;(try dsimp only [frZ]);go_simp;have hz:=hK.out _ rfl;dsimp only [frZ] at hz;exact hz
    intro _ k xf wq hkb hT hd K hK;obtain ⟨x0,x1⟩:=hT.2.1.c2;(try dsimp only [frZ]);go_simp;have hz:=hK.out _ rfl;dsimp only [frZ] at hz;exact hz
   ·intro k i o hk ho
    have hlt:=stl_lt hk;obtain rfl | rfl | rfl:=(show k = 0 ∨ k = 1 ∨ k = 2 by simp at hlt; omega)
    ·injection hk with hk; subst hk
     injection ho with ho; subst ho;intro xf wq hT hd K hK;have dq0 : xf 0 = (.agg #[.slice A n c,.int .i64 (p' : Nat),.int .i64 x',strV Ln,.slice B1 m1 e1,.slice B2 m2 e2,.slice B3 m3 e3]):=hd ⟨0,.data⟩ (by simp) rfl;(try dsimp only [frZ]); (try simp only [dq0]);go_simp;go_at_call 75;(refine (rf_expect _ A n c l (HK.out.belw hT.2.2.2.1) hn p' hp' x' Ln B1 m1 e1 B2 m2 e2 B3 m3 e3 [125] E2 HE2.out).mono ?_); rintro e wr2 ⟨rfl,hb⟩;have hz:=hK.out _ _ rfl (TBG.bel_ hT hb);dsimp only [frZ] at hz;simp only [dq0] at hz;exact hz
    ·injection hk with hk; subst hk
     injection ho with ho; subst ho;intro xf wq hT hd K hK;have dq1 : xf 1 = (.agg #[.slice A n c,.int .i64 (E2.1 : Nat),.int .i64 E2.2.1,strV Ln,.slice B1 m1 e1,.slice B2 m2 e2,.slice B3 m3 e3]):=hd ⟨1,.data⟩ (by simp) rfl;obtain ⟨y0,y1,y2,y3,y4,y5,y6⟩:=(TBG.z1 hT).c7;obtain ⟨f0,f1,f2,f3,f4,f5,f6⟩:=(TBG.z1 hT).f7;(try dsimp only [frZ]); (try simp only [dq1]);go_simp;have hz:=hK.out undef _ trivial (TBG.put hT (by omega) (by omega) (by omega) (by omega) (by omega));dsimp only [frZ] at hz;simp only [dq1] at hz;exact hz
    injection hk with hk; subst hk;injection ho with ho; subst ho;intro xf wq hT hd K hK;have dq2 : xf 2 = (.agg #[strV W.2.2,.slice Ap L.length cp]):=hd ⟨2,.data⟩ (by simp) rfl;obtain ⟨y0,y1⟩:=(TBG.z2 hT).c2;obtain ⟨f0,f1⟩:=(TBG.z2 hT).f2;(try dsimp only [frZ]); (try simp only [dq2]);go_simp;have hz:=hK.out undef _ trivial (TBG.put2 hT (by omega) (by omega) (by omega) (by omega));dsimp only [frZ] at hz;simp only [dq2] at hz;exact hz
   intro xf wq hT hr;have hT : TBG w w.heap.size (w.heap.size + 1) (w.heap.size + 2) (w.heap.size + 3) #[.slice A n c,.int .i64 (p' : Nat),.int .i64 x',strV Ln,.slice B1 m1 e1,.slice B2 m2 e2,.slice B3 m3 e3] #[.slice A n c,.int .i64 (E2.1 : Nat),.int .i64 E2.2.1,strV Ln,.slice B1 m1 e1,.slice B2 m2 e2,.slice B3 m3 e3] W.2.2 (.slice Ap L.length cp) L 3 wq:=hT;obtain ⟨y0,y1,y2,y3,y4,y5,y6⟩:=(TBG.z3 hT).1.c7;obtain ⟨z0,z1⟩:=(TBG.z3 hT).2.c2;have hrow:=MksTb.of_row hT.2.2.1;have hbel:=hT.2.2.2.1;dsimp only [frZ];clear hT hr;go_wp2_with fail;refine bodyPost_ret (v:=.tuple #[.agg #[.slice A n c,.int .i64 (E2.1 : Nat),.int .i64 E2.2.1,strV Ln,.slice B1 m1 e1,.slice B2 m2 e2,.slice B3 m3 e3],.agg #[strV W.2.2,.slice Ap L.length cp]]) (by simp [results,Tryz.results80,go_sem, *] <;> trivial) rfl ?_;rw [← HE2.out];exact ⟨_,_,_,rfl,hrow,HWN.out,hbel⟩
  subst hx;obtain ⟨hf1,hf2⟩:=hfl rfl;obtain ⟨v,hv⟩ : ∃ v,peekB l p' 0 [125] = v:=⟨_,rfl⟩;have HV:=Lib.hid hv;clear hv hfl;go_wp2_with fail;(refine (rf_peek _ A n c l (HK.out.belw HBD.out.bel) hn p' hp' 0 Ln B1 m1 e1 B2 m2 e2 B3 m3 e3 [125] v HV.out).mono ?_); rintro e w3 ⟨rfl,hb3⟩;have HB3:=Lib.hid (HBD.out.below hb3);clear hb3 y0 y1 y2 y3 y4 y5 y6 hl1a hle1;have hl3 : w.heap.size + 3 < w3.heap.size:=by have:=HB3.out.b.lt; have:=HB3.out.lt; omega
  have hl3a : w.heap.size < w3.heap.size:=by omega
  have hne0 : ¬ w.heap.size = w3.heap.size:=by omega
  obtain ⟨y0,y1,y2,y3,y4,y5,y6⟩:=HB3.out.st.c7;cases v;rotate_left
  ·have hM2:=HR.out
   rw [marksG_stop (fun h => by rw [HV.out] at h; exact absurd h.2 (by decide))] at hM2;subst hM2;have hN:=HN2.out;subst hN;clear HN2 HR y0 y1 y2 y3 y4 y5 y6;go_wp2_with fail;change Code.wp _ _ _ (frZ _ _ _ _ _ _ _ _ _ _ _ _ _ _ _ _ _ _ _ _ _ _ _ _ _ _ _ _ _ _ _ _ _ _ _ _ _ _ _ _ _ _ _ _ _ _ _ _ _ _ (upd (upd (upd (fun _ => undef) 0 _) 1 _) 2 _)) _;have hgl:=HB3.out.lt;obtain ⟨E2,hE2⟩ : ∃ E2,eF l p' 0 [125] = E2:=⟨_,rfl⟩;have HE2:=Lib.hid hE2;clear hE2;have H0:=Lib.hid (show TBG w w.heap.size (w.heap.size + 1) (w.heap.size + 2) (w.heap.size + 3) #[.slice A n c,.int .i64 (p' : Nat),.int .i64 0,strV Ln,.slice B1 m1 e1,.slice B2 m2 e2,.slice B3 m3 e3] #[.slice A n c,.int .i64 (E2.1 : Nat),.int .i64 E2.2.1,strV Ln,.slice B1 m1 e1,.slice B2 m2 e2,.slice B3 m3 e3] W.2.2 (.slice Ap L.length cp) L 0 w3 from ⟨HB3.out.st,HB3.out.b,HB3.out.row,HB3.out.bel,.inl ⟨by decide,HB3.out.zs,HB3.out.zb⟩⟩);refine wp_region_ste [1,3,4] (fun _ => 3) (R:=fun ri => List.getD (VE (.agg #[.slice A n c,.int .i64 (p' : Nat),.int .i64 0,strV Ln,.slice B1 m1 e1,.slice B2 m2 e2,.slice B3 m3 e3]) :: VE (.agg #[.slice A n c,.int .i64 (E2.1 : Nat),.int .i64 E2.2.1,strV Ln,.slice B1 m1 e1,.slice B2 m2 e2,.slice B3 m3 e3]) :: VE (.agg #[strV W.2.2,.slice Ap L.length cp]) :: []) ri VA) (T:=fun k _ wq => TBG w w.heap.size (w.heap.size + 1) (w.heap.size + 2) (w.heap.size + 3) #[.slice A n c,.int .i64 (p' : Nat),.int .i64 0,strV Ln,.slice B1 m1 e1,.slice B2 m2 e2,.slice B3 m3 e3] #[.slice A n c,.int .i64 (E2.1 : Nat),.int .i64 E2.2.1,strV Ln,.slice B1 m1 e1,.slice B2 m2 e2,.slice B3 m3 e3] W.2.2 (.slice Ap L.length cp) L k wq) (by kernel_rfl) ?_ ?_ ?_ ?_ ?_ ?_ ?_ ?_ ?_ ?_ ?_
   ·exact each_of ⟨(fun _ _ => rfl),(fun _ _ => rfl),(fun _ _ => rfl),(fun _ _ => rfl),(fun _ _ => rfl),trivial⟩
   ·exact each_of (acyc_from _ 0 (by kernel_rfl))
   ·decide
   ·intro j hj
    obtain rfl | rfl | rfl:=(show j = 0 ∨ j = 1 ∨ j = 2 by simp at hj; omega)
    ·exact ⟨1,rfl,rfl⟩
    ·exact ⟨3,rfl,rfl⟩
    exact ⟨4,rfl,rfl⟩
   ·intro i o j ho hj
    have hlt:=stl_lt hj;obtain rfl | rfl:=(show j = 0 ∨ j = 1 by simp at hlt; omega)
    ·injection hj with hj; subst hj
     injection ho with ho; subst ho;exact ⟨⟨1,.data⟩,by simp,rfl,rfl⟩
    injection hj with hj; subst hj;injection ho with ho; subst ho;exact ⟨⟨3,.chain⟩,by simp,rfl,rfl⟩
   ·exact fun _ _ _ _ _ _ h => h
   ·exact H0.out.drew
   ·exact fun i _ => .inl (Nat.le_refl _)
   ·refine each_of ⟨?_,(fun h => absurd (by decide) h),?_,(fun h => absurd (by decide) h),(fun h => absurd (by decide) h),trivial⟩
    ·intro _ k xf wq hkb hT hd K hK
     obtain ⟨x0,x1,x2,x3,x4,x5,x6⟩:=hT.1.c7;(try dsimp only [frZ]);go_simp;have hz:=hK.out _ rfl;dsimp only [frZ] at hz;exact hz
    intro _ k xf wq hkb hT hd K hK;obtain ⟨x0,x1⟩:=hT.2.1.c2;(try dsimp only [frZ]);go_simp;have hz:=hK.out _ rfl;dsimp only [frZ] at hz;exact hz
   ·intro k i o hk ho
    have hlt:=stl_lt hk;obtain rfl | rfl | rfl:=(show k = 0 ∨ k = 1 ∨ k = 2 by simp at hlt; omega)
    ·injection hk with hk; subst hk
     injection ho with ho; subst ho;intro xf wq hT hd K hK;have dq0 : xf 0 = (.agg #[.slice A n c,.int .i64 (p' : Nat),.int .i64 0,strV Ln,.slice B1 m1 e1,.slice B2 m2 e2,.slice B3 m3 e3]):=hd ⟨0,.data⟩ (by simp) rfl;(try dsimp only [frZ]); (try simp only [dq0]);go_simp;go_at_call 75;(refine (rf_expect _ A n c l (HK.out.belw hT.2.2.2.1) hn p' hp' 0 Ln B1 m1 e1 B2 m2 e2 B3 m3 e3 [125] E2 HE2.out).mono ?_); rintro e wr2 ⟨rfl,hb⟩;have hz:=hK.out _ _ rfl (TBG.bel_ hT hb);dsimp only [frZ] at hz;simp only [dq0] at hz;exact hz
    ·injection hk with hk; subst hk
     injection ho with ho; subst ho;intro xf wq hT hd K hK;have dq1 : xf 1 = (.agg #[.slice A n c,.int .i64 (E2.1 : Nat),.int .i64 E2.2.1,strV Ln,.slice B1 m1 e1,.slice B2 m2 e2,.slice B3 m3 e3]):=hd ⟨1,.data⟩ (by simp) rfl;obtain ⟨y0,y1,y2,y3,y4,y5,y6⟩:=(TBG.z1 hT).c7;obtain ⟨f0,f1,f2,f3,f4,f5,f6⟩:=(TBG.z1 hT).f7;(try dsimp only [frZ]); (try simp only [dq1]);go_simp;have hz:=hK.out undef _ trivial (TBG.put hT (by omega) (by omega) (by omega) (by omega) (by omega));dsimp only [frZ] at hz;simp only [dq1] at hz;exact hz
    injection hk with hk; subst hk;injection ho with ho; subst ho;intro xf wq hT hd K hK;have dq2 : xf 2 = (.agg #[strV W.2.2,.slice Ap L.length cp]):=hd ⟨2,.data⟩ (by simp) rfl;obtain ⟨y0,y1⟩:=(TBG.z2 hT).c2;obtain ⟨f0,f1⟩:=(TBG.z2 hT).f2;(try dsimp only [frZ]); (try simp only [dq2]);go_simp;have hz:=hK.out undef _ trivial (TBG.put2 hT (by omega) (by omega) (by omega) (by omega));dsimp only [frZ] at hz;simp only [dq2] at hz;exact hz
   intro xf wq hT hr;have hT : TBG w w.heap.size (w.heap.size + 1) (w.heap.size + 2) (w.heap.size + 3) #[.slice A n c,.int .i64 (p' : Nat),.int .i64 0,strV Ln,.slice B1 m1 e1,.slice B2 m2 e2,.slice B3 m3 e3] #[.slice A n c,.int .i64 (E2.1 : Nat),.int .i64 E2.2.1,strV Ln,.slice B1 m1 e1,.slice B2 m2 e2,.slice B3 m3 e3] W.2.2 (.slice Ap L.length cp) L 3 wq:=hT;obtain ⟨y0,y1,y2,y3,y4,y5,y6⟩:=(TBG.z3 hT).1.c7;obtain ⟨z0,z1⟩:=(TBG.z3 hT).2.c2;have hrow:=MksTb.of_row hT.2.2.1;have hbel:=hT.2.2.2.1;dsimp only [frZ];clear hT hr;go_wp2_with fail;refine bodyPost_ret (v:=.tuple #[.agg #[.slice A n c,.int .i64 (E2.1 : Nat),.int .i64 E2.2.1,strV Ln,.slice B1 m1 e1,.slice B2 m2 e2,.slice B3 m3 e3],.agg #[strV W.2.2,.slice Ap L.length cp]]) (by simp [results,Tryz.results80,go_sem, *] <;> trivial) rfl ?_;rw [← HE2.out];exact ⟨_,_,_,rfl,hrow,HWN.out,hbel⟩
  obtain ⟨T1,hT1⟩ : ∃ T,wF l p' 0 = T:=⟨_,rfl⟩;obtain ⟨N1,hN1⟩ : ∃ T,numF l T1.1 T1.2.1 = T:=⟨_,rfl⟩;obtain ⟨N2,hN2'⟩ : ∃ T,numF l N1.1 N1.2.1 = T:=⟨_,rfl⟩;obtain ⟨T2,hT2⟩ : ∃ T,eF l N2.1 N2.2.1 [59] = T:=⟨_,rfl⟩
  have hmk : mkF l p' 0 = (T2.1,T2.2.1,⟨T1.2.2,rd N1.2.2,rd N2.2.2⟩):=by
   unfold mkF;simp only [hT1,hN1,hN2',hT2]
  have g1 : T1.1 ≤ n:=by rw [← hT1,← hl]; exact takeF_le (by omega)
  have g2 : N1.1 ≤ n:=by rw [← hN1,← hl]; exact numF_ge.2.2 (by omega)
  have g3 : N2.1 ≤ n:=by rw [← hN2',← hl]; exact numF_ge.2.2 (by omega)
  have g4 : T2.1 ≤ n:=by rw [← hT2,← hl]; exact takeF_le (by omega)
  have HT1:=Lib.hid hT1;have HN1:=Lib.hid hN1;have HN2':=Lib.hid hN2';have HT2:=Lib.hid hT2;have HMK:=Lib.hid hmk;have HNM:=Lib.hid (show NmL T1.2.2 by rw [← hT1]; exact wF_nm HX.out p' 0);clear hT1 hN1 hN2' hT2 hmk;clear y0 y1 y2 y3 y4 y5 y6;obtain ⟨y0,y1,y2,y3,y4,y5,y6⟩:=HB3.out.st.c7;have hbw : ∀ {X : World},w3.grownBy X (some w.heap.size) → Below w.heap.size w X:=fun k => HB3.out.bel.trans (rg_bel k HB3.out.bel.size (Nat.le_refl _))
  have K0:=rg_alloc (rg_refl w.heap.size w3) (.cells #[.string ⟨#[]⟩,.bool false,.slice none 0 0,.slice none 0 0,.bool false,.slice none 0 0,.slice none 0 0] 90);go_wp2_with fail;(refine (rf_word _ A n c l (HK.out.belw (hbw K0)) hn p' hp' 0 Ln B1 m1 e1 B2 m2 e2 B3 m3 e3 T1 HT1.out).mono ?_); rintro e w4 ⟨rfl,hb4⟩;have K4:=rg_below K0 hb4;have s4:=(HB3.out.st.alloc (.cells #[.string ⟨#[]⟩,.bool false,.slice none 0 0,.slice none 0 0,.bool false,.slice none 0 0,.slice none 0 0] 90)).below hb4 (by simp; omega);have p4:=(Blk.new w3 90 #[.string ⟨#[]⟩,.bool false,.slice none 0 0,.slice none 0 0,.bool false,.slice none 0 0,.slice none 0 0]).below hb4 (by simp);have hlp : w3.heap.size < w4.heap.size:=p4.lt;have hl4 : w.heap.size < w4.heap.size:=s4.lt;have hnp : ¬ w.heap.size = w3.heap.size:=by omega
  have hnq : w.heap.size ≠ w3.heap.size:=by omega
  clear y0 y1 y2 y3 y4 y5 y6 hb4 K0;obtain ⟨y0,y1,y2,y3,y4,y5,y6⟩:=s4.c7;obtain ⟨f0,f1,f2,f3,f4,f5,f6⟩:=s4.f7;obtain ⟨cp0,_⟩:=p4.c7;obtain ⟨fp0,_⟩:=p4.f7;have K4':=Lib.hid (rg_far (rg7 K4 (.slice A n c) (.int .i64 (T1.1 : Nat)) (.int .i64 T1.2.1) (.string ⟨Ln.toArray⟩) (.slice B1 m1 e1) (.slice B2 m2 e2) (.slice B3 m3 e3)) (p:=⟨w3.heap.size,0,none⟩) (Nat.le_refl _) (.string ⟨T1.2.2.toArray⟩));have S4:=Lib.hid ((st7 s4 (.slice A n c) (.int .i64 (T1.1 : Nat)) (.int .i64 T1.2.1) (.string ⟨Ln.toArray⟩) (.slice B1 m1 e1) (.slice B2 m2 e2) (.slice B3 m3 e3)).far (p:=⟨w3.heap.size,0,none⟩) hnq (.string ⟨T1.2.2.toArray⟩));have P4:=Lib.hid ((far7 p4 hnq.symm (.slice A n c) (.int .i64 (T1.1 : Nat)) (.int .i64 T1.2.1) (.string ⟨Ln.toArray⟩) (.slice B1 m1 e1) (.slice B2 m2 e2) (.slice B3 m3 e3)).set_ 0 (.string ⟨T1.2.2.toArray⟩));clear K4 s4 p4;go_wp2_with fail;clear y0 y1 y2 y3 y4 y5 y6 f0 f1 f2 f3 f4 f5 f6 cp0 fp0;(refine (rf_number _ A n c l (HK.out.belw (hbw K4'.out)) hn T1.1 g1 T1.2.1 Ln B1 m1 e1 B2 m2 e2 B3 m3 e3 N1 HN1.out).mono ?_); rintro e w5 ⟨b5,A5,n5,c5,D5,d5,k5,rfl,q5,hb5⟩;have K5:=rg_below K4'.out hb5;have s5:=S4.out.below hb5 S4.out.lt;have p5:=P4.out.below hb5 P4.out.lt;have hlp5 : w3.heap.size < w5.heap.size:=p5.lt;have hl5 : w.heap.size < w5.heap.size:=s5.lt;clear hb5 K4' S4 P4 hlp hl4;obtain ⟨y0,y1,y2,y3,y4,y5,y6⟩:=s5.c7;obtain ⟨f0,f1,f2,f3,f4,f5,f6⟩:=s5.f7;obtain ⟨_,cp1,cp2,cp3,_⟩:=p5.c7;obtain ⟨_,fp1,fp2,fp3,_⟩:=p5.f7;have K5':=Lib.hid (rg_far (rg_far (rg_far (rg7 K5 (.slice A n c) (.int .i64 (N1.1 : Nat)) (.int .i64 N1.2.1) (.string ⟨Ln.toArray⟩) (.slice B1 m1 e1) (.slice B2 m2 e2) (.slice B3 m3 e3)) (p:=⟨w3.heap.size,1,none⟩) (Nat.le_refl _) (.bool b5)) (p:=⟨w3.heap.size,2,none⟩) (Nat.le_refl _) (.slice A5 n5 c5)) (p:=⟨w3.heap.size,3,none⟩) (Nat.le_refl _) (.slice D5 d5 k5));have S5:=Lib.hid ((((st7 s5 (.slice A n c) (.int .i64 (N1.1 : Nat)) (.int .i64 N1.2.1) (.string ⟨Ln.toArray⟩) (.slice B1 m1 e1) (.slice B2 m2 e2) (.slice B3 m3 e3)).far (p:=⟨w3.heap.size,1,none⟩) hnq (.bool b5)).far (p:=⟨w3.heap.size,2,none⟩) hnq (.slice A5 n5 c5)).far (p:=⟨w3.heap.size,3,none⟩) hnq (.slice D5 d5 k5));have P5:=Lib.hid (Blk.x7 (far7 p5 hnq.symm (.slice A n c) (.int .i64 (N1.1 : Nat)) (.int .i64 N1.2.1) (.string ⟨Ln.toArray⟩) (.slice B1 m1 e1) (.slice B2 m2 e2) (.slice B3 m3 e3)) (.bool b5) (.slice A5 n5 c5) (.slice D5 d5 k5));have Q5:=Lib.hid (QD.tch q5 ((tchU7 (T:=TA) s5 rfl rfl (.slice A n c) (.int .i64 (N1.1 : Nat)) (.int .i64 N1.2.1) (.string ⟨Ln.toArray⟩) (.slice B1 m1 e1) (.slice B2 m2 e2) (.slice B3 m3 e3)).trans (tch_sets (far7 p5 hnq.symm (.slice A n c) (.int .i64 (N1.1 : Nat)) (.int .i64 N1.2.1) (.string ⟨Ln.toArray⟩) (.slice B1 m1 e1) (.slice B2 m2 e2) (.slice B3 m3 e3)) rfl 1 2 3 (.bool b5) (.slice A5 n5 c5) (.slice D5 d5 k5))));clear K5 s5 p5 q5;go_wp2_with fail;clear y0 y1 y2 y3 y4 y5 y6 f0 f1 f2 f3 f4 f5 f6 cp1 cp2 cp3 fp1 fp2 fp3;(refine (rf_number _ A n c l (HK.out.belw (hbw K5'.out)) hn N1.1 g2 N1.2.1 Ln B1 m1 e1 B2 m2 e2 B3 m3 e3 N2 HN2'.out).mono ?_); rintro e w6 ⟨b6,A6,n6,c6,D6,d6,k6,rfl,q6,hb6⟩;have K6:=rg_below K5'.out hb6;have s6:=S5.out.below hb6 S5.out.lt;have p6:=P5.out.below hb6 P5.out.lt;have hlp6 : w3.heap.size < w6.heap.size:=p6.lt;have hl6 : w.heap.size < w6.heap.size:=s6.lt;have u6:=QD.tch (T:=TA) Q5.out (Tch.below hb6);clear hb6 K5' S5 P5 hlp5 hl5 Q5;obtain ⟨y0,y1,y2,y3,y4,y5,y6⟩:=s6.c7;obtain ⟨f0,f1,f2,f3,f4,f5,f6⟩:=s6.f7;obtain ⟨_,_,_,_,cp4,cp5,cp6⟩:=p6.c7;obtain ⟨_,_,_,_,fp4,fp5,fp6⟩:=p6.f7;have t6:=(tchU7 (T:=TA) s6 rfl rfl (.slice A n c) (.int .i64 (N2.1 : Nat)) (.int .i64 N2.2.1) (.string ⟨Ln.toArray⟩) (.slice B1 m1 e1) (.slice B2 m2 e2) (.slice B3 m3 e3)).trans (tch_sets (far7 p6 hnq.symm (.slice A n c) (.int .i64 (N2.1 : Nat)) (.int .i64 N2.2.1) (.string ⟨Ln.toArray⟩) (.slice B1 m1 e1) (.slice B2 m2 e2) (.slice B3 m3 e3)) rfl 4 5 6 (.bool b6) (.slice A6 n6 c6) (.slice D6 d6 k6));have K6':=Lib.hid (rg_far (rg_far (rg_far (rg7 K6 (.slice A n c) (.int .i64 (N2.1 : Nat)) (.int .i64 N2.2.1) (.string ⟨Ln.toArray⟩) (.slice B1 m1 e1) (.slice B2 m2 e2) (.slice B3 m3 e3)) (p:=⟨w3.heap.size,4,none⟩) (Nat.le_refl _) (.bool b6)) (p:=⟨w3.heap.size,5,none⟩) (Nat.le_refl _) (.slice A6 n6 c6)) (p:=⟨w3.heap.size,6,none⟩) (Nat.le_refl _) (.slice D6 d6 k6));have S6:=Lib.hid ((((st7 s6 (.slice A n c) (.int .i64 (N2.1 : Nat)) (.int .i64 N2.2.1) (.string ⟨Ln.toArray⟩) (.slice B1 m1 e1) (.slice B2 m2 e2) (.slice B3 m3 e3)).far (p:=⟨w3.heap.size,4,none⟩) hnq (.bool b6)).far (p:=⟨w3.heap.size,5,none⟩) hnq (.slice A6 n6 c6)).far (p:=⟨w3.heap.size,6,none⟩) hnq (.slice D6 d6 k6));have P6:=Lib.hid (Blk.y7 (far7 p6 hnq.symm (.slice A n c) (.int .i64 (N2.1 : Nat)) (.int .i64 N2.2.1) (.string ⟨Ln.toArray⟩) (.slice B1 m1 e1) (.slice B2 m2 e2) (.slice B3 m3 e3)) (.bool b6) (.slice A6 n6 c6) (.slice D6 d6 k6));have Q6:=Lib.hid (And.intro (QD.tch u6 t6) (QD.tch q6 t6));clear K6 s6 p6 q6 u6 t6;go_wp2_with fail;clear y0 y1 y2 y3 y4 y5 y6 f0 f1 f2 f3 f4 f5 f6 cp4 cp5 cp6 fp4 fp5 fp6;(refine (rf_expect _ A n c l (HK.out.belw (hbw K6'.out)) hn N2.1 g3 N2.2.1 Ln B1 m1 e1 B2 m2 e2 B3 m3 e3 [59] T2 HT2.out).mono ?_); rintro e w7 ⟨rfl,hb7⟩;have K7:=rg_below K6'.out hb7;have s7:=S6.out.below hb7 S6.out.lt;have p7:=P6.out.below hb7 P6.out.lt;have hlp7 : w3.heap.size < w7.heap.size:=p7.lt;have hl7 : w.heap.size < w7.heap.size:=s7.lt;have t7:=(Tch.below (T:=TA) hb7).trans (tchU7 (T:=TA) s7 rfl rfl (.slice A n c) (.int .i64 (T2.1 : Nat)) (.int .i64 T2.2.1) (.string ⟨Ln.toArray⟩) (.slice B1 m1 e1) (.slice B2 m2 e2) (.slice B3 m3 e3));have HM:=Lib.hid (show MkC 500 _ [strV T1.2.2,.bool b5,.slice A5 n5 c5,.slice D5 d5 k5,.bool b6,.slice A6 n6 c6,.slice D6 d6 k6] ⟨T1.2.2,rd N1.2.2,rd N2.2.2⟩ from ⟨b5,A5,n5,c5,D5,d5,k5,b6,A6,n6,c6,D6,d6,k6,rfl,QD.tch Q6.out.1 t7,QD.tch Q6.out.2 t7,HNM.out⟩);have HB7:=Lib.hid (HB3.out.call (st7 s7 (.slice A n c) (.int .i64 (T2.1 : Nat)) (.int .i64 T2.2.1) (.string ⟨Ln.toArray⟩) (.slice B1 m1 e1) (.slice B2 m2 e2) (.slice B3 m3 e3)) (rg7 K7 (.slice A n c) (.int .i64 (T2.1 : Nat)) (.int .i64 T2.2.1) (.string ⟨Ln.toArray⟩) (.slice B1 m1 e1) (.slice B2 m2 e2) (.slice B3 m3 e3)) rfl);have he7 : (World.setCell (World.setCell (World.setCell (World.setCell (World.setCell (World.setCell (World.setCell w7 ⟨w.heap.size,0,none⟩ (.slice A n c)) ⟨w.heap.size,1,none⟩ (.int .i64 (T2.1 : Nat))) ⟨w.heap.size,2,none⟩ (.int .i64 T2.2.1)) ⟨w.heap.size,3,none⟩ (.string ⟨Ln.toArray⟩)) ⟨w.heap.size,4,none⟩ (.slice B1 m1 e1)) ⟨w.heap.size,5,none⟩ (.slice B2 m2 e2)) ⟨w.heap.size,6,none⟩ (.slice B3 m3 e3)).heap.size = w7.heap.size:=by simp [World.setCell]
  obtain ⟨_,xs,hown,hrow⟩:=HB7.out.row;have HO:=Lib.hid hown;have HWR:=Lib.hid hrow;obtain ⟨y0,y1,y2,y3,y4,y5,y6⟩:=s7.c7;obtain ⟨f0,f1,f2,f3,f4,f5,f6⟩:=s7.f7;obtain ⟨cp0,cp1,cp2,cp3,cp4,cp5,cp6⟩:=p7.c7;have b7:=rg_blk K7 HB3.out.b (by have:=HB3.out.lt; omega);obtain ⟨cb0,cb1⟩:=b7.c2;obtain ⟨fb0,fb1⟩:=b7.f2;have hlb : w.heap.size + 3 < w7.heap.size:=b7.lt;have hL : L.length ≤ 65536:=by omega
  clear hb7 K6' S6 P6 hlp6 hl6 Q6 s7 p7 t7 K7 hown hrow b7 hbw;go_wp2_with (at_builtin; (refine wpList_append_J _ rfl noW _ _ _ rfl (w.heap.size + 3) 90 i0 (.agg #[.string ⟨#[]⟩,.bool false,.slice none 0 0,.slice none 0 0,.bool false,.slice none 0 0,.slice none 0 0]) 7 128 Tryz.underlying43 HI.out.1 HI.out.2.1 HI.out.2.2.1 HI.out.2.2.2 rfl (by omega) rfl _ L.length xs rfl (HO.out.belw ((Below.refl _ _).alloc (Nat.le_refl _) _)) ⟨w7.heap.size,0,none⟩ 1 1 [_,_,_,_,_,_,_] rfl rfl (news_at he7 _ _) (by simp [Value.oneCell']) rfl (by omega) (by unfold maxLen; omega) (by omega) (by simp [World.setCell]; omega) ?_); intro gx cap w8 hown8 hgrow hat; have fb8:=(HB7.out.b5 HO.out _ hgrow).frozen 1; obtain ⟨ce0,ce1⟩:=(HB7.out.b5 HO.out _ hgrow).c2);have hge:=mkF_ge (l:=l) (p:=p') (x:=0);rw [HMK.out] at hge;simp only at hge;have hR2:=marksG_step (l:=l) (a:=L) (f:=f) (by omega) ⟨rfl,HV.out⟩;rw [HR.out,HMK.out] at hR2;have hpu:=HB7.out.push HO.out HWR.out HM.out rfl hown8 hgrow;go_roundw
  case rel =>
   refine ⟨f - 1,T2.1,T2.2.1,L ++ [⟨T1.2.2,rd N1.2.2,rd N2.2.2⟩],_,hpu,g4,fun hz => ?_,Lib.hid hR2.symm⟩;have h9:=hge.2.1 hz;rw [List.length_append,List.length_singleton];omega
  case measure =>
   have e1':=mS_st (n:=n) hpu.st;have e2':=mS_st (n:=n) HBD.out.st;refine Nat.lt_of_lt_of_eq (Nat.lt_of_le_of_lt (Nat.le_of_eq e1') ?_) e2'.symm;rw [if_pos rfl];by_cases hz : T2.2.1 = 0
   ·have h9:=hge.2.1 hz
    rw [if_pos hz]; omega
   rw [if_neg hz]; omega
def RelP (l : List Tkn) (p : Nat) (x : Int) (s : PS) : Prop:=x = s.x ∧ (x = 0 → l.drop p = s.toks)
def OneK (l : List Tkn) (k : Nat) (t : List UInt8) : Prop:=k ≠ 1 ∧ ∀ u ∈ l,u.kind ≠ 1 → u.text = t → u.kind = k
theorem good_sign {k : Nat} {c : UInt8} (h : GoodT k [c]) (hc : isSgn c = true) : k = 2:=by
 obtain ⟨r,n,h1,h2⟩:=h;have h3:=firstT_ok h1
 cases r with
 | nil => simp at h3; omega
 | cons d u =>
  obtain ⟨m,rfl⟩ : ∃ m,n = m + 1:=⟨n - 1,by omega⟩;rw [List.take_succ_cons] at h2;injection h2 with e _;subst e;unfold firstT at h1;simp only [hc,if_true] at h1;injection h1 with h1 _;exact h1.symm
theorem good_word {k : Nat} {c : UInt8} {t : List UInt8} (h : GoodT k (c :: t)) (hc : isLet c = true) : k = 0:=by
 obtain ⟨r,n,h1,h2⟩:=h;have h3:=firstT_ok h1
 cases r with
 | nil => simp at h3; omega
 | cons d u =>
  obtain ⟨m,rfl⟩ : ∃ m,n = m + 1:=⟨n - 1,by omega⟩;rw [List.take_succ_cons] at h2;injection h2 with e _;subst e;have hw : 0 < wordN (c :: u):=by rw [wordN,if_pos hc]; omega
  unfold firstT at h1;simp only [let_not_sgn hc,Bool.false_eq_true,if_false,hw,if_true] at h1;split at h1
  ·cases h1
  injection h1 with h1 _;exact h1.symm
theorem oneK_sign {l : List Tkn} (hg : ∀ t ∈ l,GoodT t.kind t.text) {c : UInt8} (hc : isSgn c = true) : OneK l 2 [c]:=⟨by decide,fun u hu _ ht => by have:=hg u hu; rw [ht] at this; exact good_sign this hc⟩
theorem oneK_word {l : List Tkn} (hg : ∀ t ∈ l,GoodT t.kind t.text) {c : UInt8} {r : List UInt8} (hc : isLet c = true) : OneK l 0 (c :: r):=⟨by decide,fun u hu _ ht => by have:=hg u hu; rw [ht] at this; exact good_word this hc⟩
section
variable {l : List Tkn} {p : Nat} {x : Int} {s : PS}
theorem RelP.cases (h : RelP l p x s) : (x ≠ 0 ∧ s.x ≠ 0 ∧ s.x = x) ∨ (x = 0 ∧ s.x = 0 ∧ l[p]? = none ∧ s.toks = []) ∨ ∃ t,x = 0 ∧ s.x = 0 ∧ l[p]? = some t ∧ s.toks = t :: l.drop (p + 1) ∧ t ∈ l:=by
 obtain ⟨h1,h2⟩:=h;by_cases hx : x = 0
 ·right
  have h3:=h2 hx;rcases Nat.lt_or_ge p l.length with hp | hp
  ·right
   refine ⟨l[p],hx,by rw [← h1]; exact hx,List.getElem?_eq_getElem hp,?_,List.getElem_mem hp⟩;rw [← h3];exact List.drop_eq_getElem_cons hp
  left;exact ⟨hx,by rw [← h1]; exact hx,List.getElem?_eq_none hp,by rw [← h3]; exact List.drop_eq_nil_of_le hp⟩
 exact .inl ⟨hx,by rw [← h1]; exact hx,h1.symm⟩
theorem takeF_x {may : Bool} (hx : x ≠ 0) : takeF l p x may = (p,x,[]):=if_pos hx
theorem takeF_n {may : Bool} (hx : x = 0) (h : l[p]? = none) : takeF l p x may = (p,18,[]):=by
 unfold takeF;rw [if_neg (by rw [hx]; simp),h]
theorem takeF_s {may : Bool} {t : Tkn} (hx : x = 0) (h : l[p]? = some t) : takeF l p x may = if may then (p + 1,0,t.text) else (p,2,[]):=by
 unfold takeF;rw [if_neg (by rw [hx]; simp),h]
theorem RelP.word (h : RelP l p x s) : RelP l (wF l p x).1 (wF l p x).2.1 s.word.2 ∧ (wF l p x).2.2 = s.word.1:=by
 unfold wF;rcases h.cases with ⟨h1,h2,h3⟩ | ⟨h1,h2,h3,h4⟩ | ⟨t,h1,h2,h3,h4,_⟩
 ·have e : s.word = ([],s):=by unfold PS.word PS.next; rw [if_pos h2]
  rw [takeF_x h1,e];exact ⟨⟨h3.symm,fun k => absurd k h1⟩,rfl⟩
 ·have e : s.word = ([],{ s with x:=18 }):=by unfold PS.word PS.next; rw [if_neg (by rw [h2]; simp),h4]
  rw [takeF_n h1 h3,e];exact ⟨⟨rfl,fun k => absurd (show (18 : Int) = 0 from k) (by decide)⟩,rfl⟩
 have ek : kindB l p x 0 = (t.kind == 0):=by unfold kindB; rw [h3,h1]; simp
 rw [takeF_s h1 h3,ek];by_cases hk : t.kind = 0
 ·have e : s.word = (t.text,s.drop1):=by unfold PS.word PS.next; rw [if_neg (by rw [h2]; simp),h4]; simp only; rw [if_pos hk]
  rw [e,if_pos (by simpa using hk)];refine ⟨⟨h2.symm,fun _ => ?_⟩,rfl⟩;show l.drop (p + 1) = s.toks.drop 1;rw [h4]; rfl
 have e : s.word = ([],{ s with x:=2 }):=by unfold PS.word PS.next; rw [if_neg (by rw [h2]; simp),h4]; simp only; rw [if_neg hk]
 rw [e,if_neg (by simpa using hk)];exact ⟨⟨rfl,fun k => absurd (show (2 : Int) = 0 from k) (by decide)⟩,rfl⟩
theorem RelP.expect (h : RelP l p x s) {k : Nat} {t : List UInt8} (ho : OneK l k t) : RelP l (eF l p x t).1 (eF l p x t).2.1 (s.expect k t):=by
 unfold eF;rcases h.cases with ⟨h1,h2,h3⟩ | ⟨h1,h2,h3,h4⟩ | ⟨u,h1,h2,h3,h4,hm⟩
 ·have e : s.expect k t = s:=by unfold PS.expect PS.next; rw [if_pos h2]
  rw [takeF_x h1,e];exact ⟨h3.symm,fun k => absurd k h1⟩
 ·have e : s.expect k t = { s with x:=18 }:=by unfold PS.expect PS.next; rw [if_neg (by rw [h2]; simp),h4]
  rw [takeF_n h1 h3,e];exact ⟨rfl,fun k => absurd (show (18 : Int) = 0 from k) (by decide)⟩
 have ep : peekB l p x t = (!(u.kind == 1) && (u.text == t)):=by unfold peekB; rw [h3,h1]; simp
 rw [takeF_s h1 h3,ep];by_cases hk : u.kind = k
 ·by_cases ht : u.text = t
  ·have e : s.expect k t = s.drop1:=by unfold PS.expect PS.next; rw [if_neg (by rw [h2]; simp),h4]; simp only; rw [if_pos hk]; simp only; rw [if_pos ht]
   have h1' : u.kind ≠ 1:=by rw [hk]; exact ho.1
   rw [e,if_pos (by simp [h1',ht])];refine ⟨h2.symm,fun _ => ?_⟩;show l.drop (p + 1) = s.toks.drop 1;rw [h4]; rfl
  have e : s.expect k t = s.fail 2:=by unfold PS.expect PS.next; rw [if_neg (by rw [h2]; simp),h4]; simp only; rw [if_pos hk]; simp only; rw [if_neg ht]
  rw [e,if_neg (by simp [ht])];unfold PS.fail;rw [if_pos h2];exact ⟨rfl,fun k => absurd (show (2 : Int) = 0 from k) (by decide)⟩
 have e : s.expect k t = { s with x:=2 }:=by unfold PS.expect PS.next; rw [if_neg (by rw [h2]; simp),h4]; simp only; rw [if_neg hk]
 have hn : ¬ ((!(u.kind == 1) && (u.text == t)) = true):=by
  intro h9;simp only [Bool.and_eq_true,Bool.not_eq_true',beq_eq_false_iff_ne,beq_iff_eq] at h9;exact hk (ho.2 u hm h9.1 h9.2)
 rw [e,if_neg hn];exact ⟨rfl,fun k => absurd (show (2 : Int) = 0 from k) (by decide)⟩
theorem val_err {t : List UInt8} (h : valX t ≠ 0) : valQ t = 0:=by
 rcases val_out t with ⟨_,_,h2⟩ | ⟨_,_,_,h2⟩ | ⟨_,_,_,_,_,_,h1,_⟩ | ⟨_,_,_,_,_,_,_,_,_,_,h2⟩ | ⟨_,_,_,_,_,_,_,_,_,h1,_⟩ | ⟨_,_,_,_,_,_,_,_,h1,_⟩
 ·exact h2
 ·exact h2
 ·exact absurd h1 h
 ·exact h2
 ·exact absurd h1 h
 exact absurd h1 h
theorem numF_of {T : Nat × Int × List UInt8} (h : takeF l p x (kindB l p x 1) = T) : numF l p x = if T.2.1 ≠ 0 then (T.1,T.2.1,0) else (T.1,valX T.2.2,valQ T.2.2):=by
 unfold numF;rw [h]
theorem RelP.number (h : RelP l p x s) : RelP l (numF l p x).1 (numF l p x).2.1 s.number.2 ∧ (numF l p x).2.2 = s.number.1:=by
 rcases h.cases with ⟨h1,h2,h3⟩ | ⟨h1,h2,h3,h4⟩ | ⟨t,h1,h2,h3,h4,_⟩
 ·have e : s.number = (0,s):=by unfold PS.number PS.next; rw [if_pos h2]
  rw [numF_of (takeF_x h1),e,if_pos h1];exact ⟨⟨h3.symm,fun k => absurd k h1⟩,rfl⟩
 ·have e : s.number = (0,{ s with x:=18 }):=by unfold PS.number PS.next; rw [if_neg (by rw [h2]; simp),h4]
  rw [numF_of (takeF_n h1 h3),e,if_pos (show (18 : Int) ≠ 0 by decide)];exact ⟨⟨rfl,fun k => absurd (show (18 : Int) = 0 from k) (by decide)⟩,rfl⟩
 have ek : kindB l p x 1 = (t.kind == 1):=by unfold kindB; rw [h3,h1]; simp
 by_cases hk : t.kind = 1
 ·have hT : takeF l p x (kindB l p x 1) = (p + 1,0,t.text):=by rw [takeF_s h1 h3,ek,if_pos (by simpa using hk)]
  rw [numF_of hT,if_neg (show ¬ (0 : Int) ≠ 0 by simp)];by_cases hv : valX t.text = 0
  ·have e : s.number = (valQ t.text,s.drop1):=by unfold PS.number PS.next; rw [if_neg (by rw [h2]; simp),h4]; simp only; rw [if_pos hk]; simp only; rw [if_neg (by rw [hv]; simp)]
   rw [e];refine ⟨⟨by show valX t.text = s.x; rw [hv,h2],fun _ => ?_⟩,rfl⟩;show l.drop (p + 1) = s.toks.drop 1;rw [h4]; rfl
  have e : s.number = (0,s.fail (valX t.text)):=by unfold PS.number PS.next; rw [if_neg (by rw [h2]; simp),h4]; simp only; rw [if_pos hk]; simp only; rw [if_pos hv]
  rw [e];refine ⟨⟨?_,fun k => absurd k hv⟩,val_err hv⟩;unfold PS.fail;rw [if_pos h2]
 have e : s.number = (0,{ s with x:=2 }):=by unfold PS.number PS.next; rw [if_neg (by rw [h2]; simp),h4]; simp only; rw [if_neg hk]
 have hT : takeF l p x (kindB l p x 1) = (p,2,[]):=by rw [takeF_s h1 h3,ek,if_neg (by simpa using hk)]
 rw [numF_of hT,e,if_pos (show (2 : Int) ≠ 0 by decide)];exact ⟨⟨rfl,fun k => absurd (show (2 : Int) = 0 from k) (by decide)⟩,rfl⟩
theorem RelP.mark (h : RelP l p x s) (hs : OneK l 2 [59]) : RelP l (mkF l p x).1 (mkF l p x).2.1 s.mark.2 ∧ (mkF l p x).2.2 = s.mark.1:=by
 obtain ⟨a1,b1⟩:=h.word;obtain ⟨a2,b2⟩:=a1.number;obtain ⟨a3,b3⟩:=a2.number;have a4:=a3.expect hs;unfold mkF PS.mark;simp only;exact ⟨a4,by rw [b1,b2,b3]⟩
end
theorem RelP.marks {l : List Tkn} (hs : OneK l 2 [59]) (hb : OneK l 2 [125]) : ∀ (f g p : Nat) (x : Int) (s : PS) (a : List MarkL),RelP l p x s → s.toks.length < f → l.length + 1 ≤ g + p → p ≤ l.length →
 (eF l (marksG l g p x a).1 (marksG l g p x a).2.1 [125]).2.1 = (PS.marks f s a).2.x ∧ ((PS.marks f s a).2.x = 0 → RelP l (eF l (marksG l g p x a).1 (marksG l g p x a).2.1 [125]).1 (eF l (marksG l g p x a).1 (marksG l g p x a).2.1 [125]).2.1 (PS.marks f s a).2 ∧ (marksG l g p x a).2.2 = (PS.marks f s a).1)
 | 0,g,p,x,s,a,_,hf,_,_ => by omega
 | f + 1,g,p,x,s,a,h,hf,hg,hp => by
  rcases h.cases with ⟨h1,h2,h3⟩ | ⟨h1,h2,h3,h4⟩ | ⟨t,h1,h2,h3,h4,hm⟩
  ·rw [marks_x h2,marksG_stop (fun k => h1 k.1)]
   have e : eF l p x [125] = (p,x,[]):=takeF_x h1;simp only [e];exact ⟨h3.symm,fun k => absurd k h2⟩
  ·-- no token is left
   have hsh : s.signHead = false:=by unfold PS.signHead; rw [h4]
   have hpk : peekB l p x [125] = false:=by unfold peekB; rw [h3]; simp
   rw [marks_step (by omega) h2 hsh,marksG_step (by omega) ⟨h1,hpk⟩];obtain ⟨hr,_⟩:=h.mark hs
   have hx1 : s.mark.2.x ≠ 0:=by
    have hw : s.word.2.x = 18:=by unfold PS.word PS.next; rw [if_neg (by rw [h2]; simp),h4]
    have hst:=((number_stp s.word.2).trans (number_stp _)).trans (expect_stp _ 2 [59]);have:=hst.2.1 (by rw [hw]; decide);show ((s.word.2.number.2.number.2.expect 2 [59]).x ≠ 0);rw [this,hw]; decide
   have hx2 : (mkF l p x).2.1 ≠ 0:=by rw [hr.1]; exact hx1
   rw [marks_x hx1,marksG_stop (fun k => hx2 k.1)];have e : eF l (mkF l p x).1 (mkF l p x).2.1 [125] = ((mkF l p x).1,(mkF l p x).2.1,[]):=takeF_x hx2;simp only [e];exact ⟨hr.1,fun k => absurd k hx1⟩
  have ep : peekB l p x [125] = (!(t.kind == 1) && (t.text == [125])):=by unfold peekB; rw [h3,h1]; simp
  cases hsh : s.signHead
  ·have hk2 : t.kind ≠ 2:=by
    unfold PS.signHead at hsh;rw [h4] at hsh;simpa using hsh
   have hpk : peekB l p x [125] = false:=by
    rw [ep];cases hq : (!(t.kind == 1) && (t.text == [125]))
    ·rfl
    simp only [Bool.and_eq_true,Bool.not_eq_true',beq_eq_false_iff_ne,beq_iff_eq] at hq;exact absurd (hb.2 t hm hq.1 hq.2) hk2
   rw [marks_step (by omega) h2 hsh,marksG_step (by omega) ⟨h1,hpk⟩];obtain ⟨hr,hmk⟩:=h.mark hs;have hge:=mkF_ge (l:=l) (p:=p) (x:=x);rw [hmk];by_cases hx1 : s.mark.2.x = 0
   ·have h9:=((mark_stp s).2.2.1 hx1).2
    have h8:=hge.2.1 (by rw [hr.1]; exact hx1);exact RelP.marks hs hb f (g - 1) _ _ _ _ hr (by omega) (by omega) (hge.2.2 hp)
   have hx2 : (mkF l p x).2.1 ≠ 0:=by rw [hr.1]; exact hx1
   rw [marks_x (f:=f + 1 - 1) hx1,marksG_stop (fun k => hx2 k.1)];have e : eF l (mkF l p x).1 (mkF l p x).2.1 [125] = ((mkF l p x).1,(mkF l p x).2.1,[]):=takeF_x hx2;simp only [e];exact ⟨hr.1,fun k => absurd k hx1⟩
  ·have hk2 : t.kind = 2:=by
    unfold PS.signHead at hsh;rw [h4] at hsh;simpa using hsh
   rw [marks_end (by omega) h2 hsh];by_cases ht : t.text = [125]
   ·have hpk : peekB l p x [125] = true:=by rw [ep,hk2,ht]; rfl
    rw [marksG_stop (fun k => by rw [hpk] at k; exact absurd k.2 (by decide))];have hr:=h.expect hb;exact ⟨hr.1,fun _ => ⟨hr,rfl⟩⟩
   have hpk : peekB l p x [125] = false:=by rw [ep]; simp [ht]
   have hx1 : (s.expect 2 [125]).x = 2:=by
    unfold PS.expect PS.next;rw [if_neg (by rw [h2]; simp),h4];simp only;rw [if_pos hk2];simp only;rw [if_neg ht];unfold PS.fail;rw [if_pos h2]
   rw [marksG_step (by omega) ⟨h1,hpk⟩];obtain ⟨hr,_⟩:=h.mark hs
   have hx2 : s.mark.2.x = 2:=by
    have hw : s.word.2.x = 2:=by unfold PS.word PS.next; rw [if_neg (by rw [h2]; simp),h4]; simp only; rw [if_neg (by rw [hk2]; decide)]
    have hst:=((number_stp s.word.2).trans (number_stp _)).trans (expect_stp _ 2 [59]);have:=hst.2.1 (by rw [hw]; decide);show ((s.word.2.number.2.number.2.expect 2 [59]).x = 2);rw [this,hw]
   have hx3 : (mkF l p x).2.1 ≠ 0:=by rw [hr.1,hx2]; decide
   rw [marksG_stop (fun k => hx3 k.1)];have e : eF l (mkF l p x).1 (mkF l p x).2.1 [125] = ((mkF l p x).1,(mkF l p x).2.1,[]):=takeF_x hx3;simp only [e,hx1];exact ⟨by rw [hr.1,hx2],fun k => absurd (show (2 : Int) = 0 from k) (by decide)⟩
theorem RelP.body {l : List Tkn} (hg : ∀ t ∈ l,GoodT t.kind t.text) {p : Nat} {x : Int} {s : PS} (h : RelP l p x s) (hp : p ≤ l.length) : (bodyG l p x).2.1 = s.body.2.x ∧ (s.body.2.x = 0 → RelP l (bodyG l p x).1 (bodyG l p x).2.1 s.body.2 ∧ (bodyG l p x).2.2 = s.body.1):=by
 have s1:=oneK_sign hg (c:=123) (by decide);have s2:=oneK_sign hg (c:=59) (by decide);have s3:=oneK_sign hg (c:=125) (by decide);obtain ⟨a1,b1⟩:=h.word;have a2:=a1.expect s1;have hle:=((word_stp s).trans (expect_stp s.word.2 2 [123])).1;have k1 : (wF l p x).1 ≤ l.length:=takeF_le hp;have k2 : (eF l (wF l p x).1 (wF l p x).2.1 [123]).1 ≤ l.length:=takeF_le k1;have hm:=RelP.marks s2 s3 (s.toks.length + 1) (l.length + 1) _ _ _ [] a2 (by omega) (by omega) k2;unfold bodyG PS.body;simp only;exact ⟨hm.1,fun hx => ⟨(hm.2 hx).1,by rw [b1,(hm.2 hx).2]⟩⟩
theorem genW {P : Program} {c : Code} {Q : Exit → Act → World → Prop} {a : Act} {w : World} (h : ∀ w6,w6 = w → Code.wp P c Q a w6) : Code.wp P c Q a w:=h w rfl
def RetBR (w : World) (x : Int) (b : BodyL) (e : Ending) (w' : World) : Prop :=
  ∃ A n c,e = .returned (.tuple #[.agg #[strV b.name,.slice A n c],.int .i64 x]) ∧ SlS (MkAt 500) 7 w' A n c b.pts ∧ NmL b.name ∧ Below w.heap.size w w'
noncomputable def bodyR (l : List Tkn) (x : Int) : Int × BodyL :=
  let E:=eF l 0 x wBody
  let N:=bodyG l E.1 E.2.1
  if N.2.1 ≠ 0 then (N.2.1,B0) else if N.1 < l.length then (2,B0) else (0,N.2.2)
theorem bodyR_out {s : List UInt8} {x y : Int} {l : List Tkn} {b : BodyL} (hs : SplitOut s x l) (h : BodyOut s y b) : bodyR l x = (y,b):=by
 have hrel : RelP l 0 x (⟨l,L0,x⟩ : PS):=⟨rfl,fun _ => rfl⟩
 have hg : ∀ t ∈ l,GoodT t.kind t.text:=by
  intro t ht;rcases hs with ⟨_,_,h⟩ | ⟨_,h,_⟩ | ⟨_,_,_,_,h⟩
  ·subst h; cases ht
  ·exact toks_good _ _ _ _ _ h t ht
  subst h; cases ht
 have he:=hrel.expect (oneK_word hg (c:=98) (r:=[111,100,121]) (by decide));have k1 : (eF l 0 x [98,111,100,121]).1 ≤ l.length:=takeF_le (Nat.zero_le _);have hb:=he.body hg k1;unfold bodyR;simp only;rw [show wBody = [98,111,100,121] from rfl];generalize eF l 0 x [98,111,100,121] = E at he hb ⊢;have hst:=(expect_stp (⟨l,L0,x⟩ : PS) 0 [98,111,100,121]).trans (body_stp ((⟨l,L0,x⟩ : PS).expect 0 [98,111,100,121]))
 have hrd : x = 0 → readB l = ((((⟨l,L0,x⟩ : PS).expect 0 [98,111,100,121]).body).1,if (((⟨l,L0,x⟩ : PS).expect 0 [98,111,100,121]).body).2.x = 0 ∧ (((⟨l,L0,x⟩ : PS).expect 0 [98,111,100,121]).body).2.toks ≠ [] then (((⟨l,L0,x⟩ : PS).expect 0 [98,111,100,121]).body).2.fail 2 else (((⟨l,L0,x⟩ : PS).expect 0 [98,111,100,121]).body).2):=by
  rintro rfl; rfl
 generalize ((⟨l,L0,x⟩ : PS).expect 0 [98,111,100,121]).body = Z at hb hst hrd;generalize bodyG l E.1 E.2.1 = N at hb ⊢;obtain ⟨b1,b2⟩:=hb;by_cases hx : x = 0
 ·subst hx
  have hrd:=hrd rfl;by_cases hz : Z.2.x = 0
  ·obtain ⟨⟨r1,r2⟩,r3⟩:=b2 hz
   have hN0 : N.2.1 = 0:=by rw [b1]; exact hz
   have r4:=r2 hN0;rw [if_neg (by rw [hN0]; simp)];by_cases hlt : N.1 < l.length
   ·have hne : Z.2.toks ≠ []:=by
     rw [← r4];intro h9;have:=congrArg List.length h9;simp at this;omega
    rw [if_pos hlt];rw [if_pos ⟨hz,hne⟩] at hrd;have hx2 : (readB l).2.x = 2:=by rw [hrd]; show (Z.2.fail 2).x = 2; unfold PS.fail; rw [if_pos hz]
    obtain ⟨e1,e2⟩:=h.uniq (BodyOut.read l hs hx2 (by decide) rfl);rw [e1,e2]
   ·have heq : Z.2.toks = []:=by
     rw [← r4];exact List.drop_eq_nil_of_le (by omega)
    rw [if_neg hlt];rw [if_neg (by rw [heq]; simp)] at hrd;obtain ⟨e1,e2⟩:=h.uniq (BodyOut.ok l hs (by rw [hrd]; exact hz) rfl rfl);rw [e1,e2,hrd,r3]
  have hN0 : N.2.1 ≠ 0:=by rw [b1]; exact hz
  rw [if_pos hN0];rw [if_neg (fun k => hz k.1)] at hrd;obtain ⟨e1,e2⟩:=h.uniq (BodyOut.read l hs (x:=Z.2.x) (by rw [hrd]) hz rfl);rw [e1,e2,b1]
 have hz:=hst.2.1 hx;rw [hz] at b1;have hN0 : N.2.1 ≠ 0:=by rw [b1]; exact hx
 rw [if_pos hN0];obtain ⟨e1,e2⟩:=h.uniq (BodyOut.split l hs hx rfl);rw [e1,e2,b1]
theorem split_txtx {s : List UInt8} {x : Int} {l : List Tkn} (h : SplitOut s x l) : ∀ t ∈ l,NmL t.text:=by
 rcases h with ⟨_,_,e⟩ | ⟨h1,h2,h3⟩ | ⟨_,_,_,_,e⟩
 ·subst e; intro t ht; cases ht
 ·exact split_txt (.ok h1 h2 rfl)
 subst e; intro t ht; cases ht
theorem rf_Body (w : World) (s : List UInt8) (x : Int) (l : List Tkn) (hs : SplitOut s x l) (R : Int × BodyL) (hR : bodyR l x = R) : Calls Tryz.prog 27 #[strV s] w (RetBR w R.1 R.2):=by
 obtain ⟨E,hE⟩ : ∃ E,eF l 0 x wBody = E:=⟨_,rfl⟩;obtain ⟨N,hN⟩ : ∃ N,bodyG l E.1 E.2.1 = N:=⟨_,rfl⟩;unfold bodyR at hR;simp only [hE,hN] at hR;have HS:=Lib.hid hs;have HR:=Lib.hid hR;have HE:=Lib.hid hE;have HN:=Lib.hid hN;have hl6:=hs.len;have HT:=Lib.hid (split_txtx hs);have hE1 : E.1 ≤ l.length:=by rw [← hE]; exact takeF_le (Nat.zero_le _)
 clear hs hR hE hN;go_enter Tryz.func27,Tryz.ntmps27;go_wp2_with fail;have x0:=Blk.new w 45 #[.string ⟨#[]⟩,.slice none 0 0];have q0:=(brefl w).alloc (Nat.le_refl _) (.cells #[.string ⟨#[]⟩,.slice none 0 0] 45);generalize w.alloc (.cells #[.string ⟨#[]⟩,.slice none 0 0] 45) = w0 at x0 q0 ⊢;(refine (r_split_x w0 s x l HS.out).mono ?_); rintro e w1 ⟨A,n,c,rfl,hT,hb1⟩;have q1:=q0.trans (hb1.mono q0.size);have x1:=x0.below hb1 x0.lt;obtain rfl : l.length = n:=hT.1;have HK:=Lib.hid hT;clear hb1 q0 x0 hT;obtain ⟨n,hnl⟩ : ∃ n,l.length = n:=⟨_,rfl⟩;rw [hnl] at HK hl6 hE1 ⊢;go_wp2_with fail;have x2:=x1.alloc (.cells #[.slice A n c,.int .i64 0,.int .i64 x,.string ⟨#[]⟩,.slice none 0 0,.slice none 0 0,.slice none 0 0] 131);have z2:=Blk.new w1 131 #[.slice A n c,.int .i64 0,.int .i64 x,.string ⟨#[]⟩,.slice none 0 0,.slice none 0 0,.slice none 0 0];have q2:=q1.alloc q1.size (.cells #[.slice A n c,.int .i64 0,.int .i64 x,.string ⟨#[]⟩,.slice none 0 0,.slice none 0 0,.slice none 0 0] 131);have k2:=(Below.refl w1.heap.size w1).alloc (Nat.le_refl _) (.cells #[.slice A n c,.int .i64 0,.int .i64 x,.string ⟨#[]⟩,.slice none 0 0,.slice none 0 0,.slice none 0 0] 131);obtain ⟨gs,hgs⟩ : ∃ g,w1.heap.size = g:=⟨_,rfl⟩;have hgg : w.heap.size < gs:=by have:=x1.lt; omega
 have hg1 : w1.heap.size ≤ gs:=Nat.le_of_eq hgs;rw [hgs] at z2 ⊢;generalize w1.alloc (.cells #[.slice A n c,.int .i64 0,.int .i64 x,.string ⟨#[]⟩,.slice none 0 0,.slice none 0 0,.slice none 0 0] 131) = w2 at x2 z2 q2 k2 ⊢;clear q1 x1 hgs;(refine (rf_expect w2 A n c l (HK.out.belw k2) hl6 0 (Nat.zero_le _) x [] none 0 0 none 0 0 none 0 0 wBody E HE.out).mono ?_); rintro e w3 ⟨rfl,hb3⟩;have q3:=q2.trans (hb3.mono q2.size);have k3:=k2.trans (hb3.mono k2.size);have x3:=x2.below hb3 x2.lt;have z3:=z2.below hb3 z2.lt;have hl3 : gs < w3.heap.size:=z3.lt;obtain ⟨y0,y1,y2,y3,y4,y5,y6⟩:=z3.c7;obtain ⟨f0,f1,f2,f3,f4,f5,f6⟩:=z3.f7;clear hb3 q2 x2 z2 k2;go_wp2_with fail;have q4:=bel7 q3 (g:=gs) (by omega) (.slice A n c) (.int .i64 (E.1 : Nat)) (.int .i64 E.2.1) (.string ⟨#[]⟩) (.slice none 0 0) (.slice none 0 0) (.slice none 0 0);have k4:=bel7 k3 (g:=gs) hg1 (.slice A n c) (.int .i64 (E.1 : Nat)) (.int .i64 E.2.1) (.string ⟨#[]⟩) (.slice none 0 0) (.slice none 0 0) (.slice none 0 0);have x4:=far7 x3 (g':=gs) (by omega) (.slice A n c) (.int .i64 (E.1 : Nat)) (.int .i64 E.2.1) (.string ⟨#[]⟩) (.slice none 0 0) (.slice none 0 0) (.slice none 0 0);have z4:=st7 z3 (.slice A n c) (.int .i64 (E.1 : Nat)) (.int .i64 E.2.1) (.string ⟨#[]⟩) (.slice none 0 0) (.slice none 0 0) (.slice none 0 0);clear y0 y1 y2 y3 y4 y5 y6 f0 f1 f2 f3 f4 f5 f6 q3 x3 z3 k3 hl3;(refine (rf_body _ A n c l (HK.out.belw k4) hl6 E.1 (by omega) E.2.1 [] none 0 0 none 0 0 none 0 0 HT.out N HN.out).mono ?_); rintro e w5 ⟨Ab,nb,cb,rfl,hMk,hNm,hb5⟩;have q5:=q4.trans (hb5.mono q4.size);have x5:=x4.below hb5 x4.lt;have z5:=z4.below hb5 z4.lt;have hl5 : gs < w5.heap.size:=z5.lt;have hl5a : w.heap.size < w5.heap.size:=by omega
 have hne5 : ¬ gs = w5.heap.size:=by omega
 have hne6 : ¬ w.heap.size = w5.heap.size:=by omega
 have hne7 : ¬ w.heap.size = gs:=by omega
 have hne8 : ¬ gs = w.heap.size:=by omega
 obtain ⟨y0,y1,y2,y3,y4,y5,y6⟩:=z5.c7;obtain ⟨f0,f1,f2,f3,f4,f5,f6⟩:=z5.f7;obtain ⟨cx0,cx1⟩:=x5.c2;obtain ⟨fx0,fx1⟩:=x5.f2;have HZ:=Lib.hid z5;have HXX:=Lib.hid x5;have HMK:=Lib.hid hMk;have HNM:=Lib.hid hNm;clear hb5 q4 k4 x4 z4 x5 z5 hMk hNm HK HE HN HT HS hE1;obtain ⟨N1,N2,N3⟩:=N;simp only at HMK HNM HR ⊢;by_cases hx : N2 = 0;rotate_left
 ·have t1 : (N2 == 0) = false:=beq_eq_false_iff_ne.2 hx
  have t2 : (N2 = 0) = False:=eq_false hx;have t3 : (N2 != 0) = true:=by unfold bne; rw [t1]; rfl
  have hR:=HR.out;rw [if_pos hx] at hR;subst hR;clear hx HR;go_wp2_with fail;go_region
  all_goals
   go_wp2_with fail;refine bodyPost_ret (v:=.tuple #[.agg #[.string ⟨#[]⟩,.slice none 0 0],.int .i64 N2]) (by simp [results,Tryz.results27,go_sem, *] <;> trivial) rfl ?_;exact ⟨none,0,0,rfl,bd_zero _ 500,nm_nil,(((bel2 (bel7 q5 (by omega) (.slice A n c) (.int .i64 (N1 : Nat)) (.int .i64 N2) (.string ⟨#[]⟩) (.slice none 0 0) (.slice none 0 0) (.slice none 0 0)) (Nat.le_refl _) (.string ⟨#[]⟩) (.slice none 0 0)).alloc (bel2 (bel7 q5 (by omega) (.slice A n c) (.int .i64 (N1 : Nat)) (.int .i64 N2) (.string ⟨#[]⟩) (.slice none 0 0) (.slice none 0 0) (.slice none 0 0)) (Nat.le_refl _) (.string ⟨#[]⟩) (.slice none 0 0)).size _).drew)⟩
 subst hx;have hR:=HR.out;rw [if_neg (by simp)] at hR;by_cases hlt : N1 < n
 ·have u1 : ((N1 : Int) < (n : Int)) = True:=by simp; omega
  rw [if_pos (by rw [hnl]; exact hlt)] at hR;have HRR:=Lib.hid hR;clear HR hlt hR;go_upto_region 5 with fail;refine genW ?_;intro w6 hw6;have z6 : Blk w6 gs 131 #[.slice A n c,.int .i64 (N1 : Nat),.int .i64 0,.string ⟨#[]⟩,.slice none 0 0,.slice none 0 0,.slice none 0 0]:=by rw [hw6]; exact (st7 HZ.out (.slice A n c) (.int .i64 (N1 : Nat)) (.int .i64 0) (.string ⟨#[]⟩) (.slice none 0 0) (.slice none 0 0) (.slice none 0 0)).alloc _
  have x6 : Blk w6 w.heap.size 45 #[.string ⟨#[]⟩,.slice none 0 0]:=by rw [hw6]; exact (far7 HXX.out (g':=gs) (by omega) (.slice A n c) (.int .i64 (N1 : Nat)) (.int .i64 0) (.string ⟨#[]⟩) (.slice none 0 0) (.slice none 0 0) (.slice none 0 0)).alloc _
  have q6 : Below w.heap.size w w6:=by rw [hw6]; exact (bel7 q5 (g:=gs) (by omega) (.slice A n c) (.int .i64 (N1 : Nat)) (.int .i64 0) (.string ⟨#[]⟩) (.slice none 0 0) (.slice none 0 0) (.slice none 0 0)).alloc (bel7 q5 (g:=gs) (by omega) (.slice A n c) (.int .i64 (N1 : Nat)) (.int .i64 0) (.string ⟨#[]⟩) (.slice none 0 0) (.slice none 0 0) (.slice none 0 0)).size _
  have hl6a : gs < w6.heap.size:=z6.lt;have hl6b : w.heap.size < w6.heap.size:=x6.lt;clear hw6 y0 y1 y2 y3 y4 y5 y6 f0 f1 f2 f3 f4 f5 f6 cx0 cx1 fx0 fx1 HZ HXX HMK hl5 hl5a hne5 hne6 q5;obtain ⟨y0,y1,y2,y3,y4,y5,y6⟩:=z6.c7;obtain ⟨f0,f1,f2,f3,f4,f5,f6⟩:=z6.f7;obtain ⟨cx0,cx1⟩:=x6.c2;obtain ⟨fx0,fx1⟩:=x6.f2;clear z6 x6;go_wp2_with fail;go_region
  all_goals
   go_wp2_with fail;refine bodyPost_ret (v:=.tuple #[.agg #[.string ⟨#[]⟩,.slice none 0 0],.int .i64 2]) (by simp [results,Tryz.results27,go_sem, *] <;> trivial) rfl ?_;have hRR:=HRR.out;subst hRR;exact ⟨none,0,0,rfl,bd_zero _ 500,nm_nil,(bel2 (q6.setCell (p:=⟨gs,2,none⟩) (by show w.heap.size ≤ gs; omega) (.int .i64 2)) (Nat.le_refl _) (.string ⟨#[]⟩) (.slice none 0 0)).drew⟩
 have u1 : ((N1 : Int) < (n : Int)) = False:=by simp; omega
 rw [if_neg (by rw [hnl]; exact hlt)] at hR;subst hR;clear HR hlt;go_wp2_with fail;refine bodyPost_ret (v:=.tuple #[.agg #[strV N3.name,.slice Ab nb cb],.int .i64 0]) (by simp [results,Tryz.results27,go_sem, *] <;> trivial) rfl ?_;have t1:=(tchU7 (T:=fun t => t == 131) HZ.out (by simp) rfl (.slice A n c) (.int .i64 (N1 : Nat)) (.int .i64 0) (.string ⟨#[]⟩) (.slice none 0 0) (.slice none 0 0) (.slice none 0 0)).mono (T':=fun t => t == 131 || t == 45) (fun t ht => by simp_all);have t2:=(tch2 (far7 HXX.out (g':=gs) (by omega) (.slice A n c) (.int .i64 (N1 : Nat)) (.int .i64 0) (.string ⟨#[]⟩) (.slice none 0 0) (.slice none 0 0) (.slice none 0 0)) ⟨rfl,rfl⟩ (.string ⟨N3.name.toArray⟩) (.slice Ab nb cb)).mono (T':=fun t => t == 131 || t == 45) (fun t ht => by simp [TOne] at ht; simp [ht]);have B:=bel2 (bel7 q5 (g:=gs) (by omega) (.slice A n c) (.int .i64 (N1 : Nat)) (.int .i64 0) (.string ⟨#[]⟩) (.slice none 0 0) (.slice none 0 0) (.slice none 0 0)) (Nat.le_refl _) (.string ⟨N3.name.toArray⟩) (.slice Ab nb cb);exact ⟨Ab,nb,cb,rfl,(HMK.out.tch ((t1.trans t2).more ((Below.refl _ _).alloc (Nat.le_refl _) _)) (by decide)).sl fun _ _ _ p => p,HNM.out,B.alloc B.size _⟩
theorem marks_four : ∀ (f : Nat) (s : PS) (l : List MarkL),(PS.marks f s l).2.x = 0 → 4 * (PS.marks f s l).1.length ≤ 4 * l.length + s.toks.length
 | 0,s,l,_ => by show 4 * l.length ≤ _; omega
 | f + 1,s,l,h => by
  by_cases hx : s.x = 0
  ·cases hs : s.signHead
   ·rw [marks_step (by omega) hx hs] at h ⊢
    have h1:=marks_four f _ _ h;have h0:=((marks_stp f s.mark.2 (l ++ [s.mark.1])).2.2.1 h).1;have h2:=((mark_stp s).2.2.1 h0).2;simp only [Nat.add_sub_cancel] at h1 ⊢;rw [List.length_append] at h1;simp at h1;omega
   rw [marks_end (by omega) hx hs];show 4 * l.length ≤ _;omega
  rw [marks_x hx]; show 4 * l.length ≤ _; omega
theorem BodyOut.small {s : List UInt8} {x : Int} {b : BodyL} (h : BodyOut s x b) (hl : s.length ≤ 3000) : b.pts.length ≤ 1000:=by
 rcases h with ⟨l,hs,hx,rfl⟩ | ⟨l,hs,hr,hx,rfl⟩ | ⟨l,hs,hr,rfl,rfl⟩
 ·decide
 ·decide
 ·have hll : l.length ≤ 3000:=by
   rcases hs with ⟨h,_,_⟩ | ⟨_,ht,_⟩ | ⟨_,_,_,_,h⟩
   ·omega
   ·have:=tokens_len ht; omega
   subst h; simp
  have hb : (readB l).1 = ((⟨l,L0,0⟩ : PS).expect 0 wBody).body.1:=rfl
  have hx2 : ((⟨l,L0,0⟩ : PS).expect 0 wBody).body.2.x = 0:=by
   have h9 : (readB l).2 = if ((⟨l,L0,0⟩ : PS).expect 0 wBody).body.2.x = 0 ∧ ((⟨l,L0,0⟩ : PS).expect 0 wBody).body.2.toks ≠ [] then ((⟨l,L0,0⟩ : PS).expect 0 wBody).body.2.fail 2 else ((⟨l,L0,0⟩ : PS).expect 0 wBody).body.2:=rfl
   rw [h9] at hr;split at hr
   ·rename_i h8; exact h8.1
   exact hr
  rw [hb];have hst:=(expect_stp (⟨l,L0,0⟩ : PS) 0 wBody).1;have hp:=((word_stp ((⟨l,L0,0⟩ : PS).expect 0 wBody)).trans (expect_stp _ 2 [123])).1;generalize (⟨l,L0,0⟩ : PS).expect 0 wBody = Z at hx2 hst hp ⊢;have h4:=marks_four _ _ _ hx2;show (PS.marks _ _ _).1.length ≤ _;change Z.toks.length ≤ l.length at hst;simp only [List.length_nil] at h4;omega
theorem l_ParseBodies (w : World) (s : List UInt8) (_ : s.length < 9223372036854775808) (_ : Tab w) (hmx : Mx w) : Calls Tryz.prog 5 #[strV s] w (RetV w (.bool true)):=by
 by_cases h1 : 3000 < s.length
 ·have f1 : ((3000 : Int) < (s.length : Int)) = True:=eq_true (by omega)
  go_enter Tryz.func5,Tryz.ntmps5;go_wp2_with fail;(with_reducible refine (l20_awake w hmx).mono ?_); rintro e w1 ⟨rfl,hb1⟩;have hmx1:=hmx.belw hb1;go_wp2_with fail;(with_reducible refine (l20_awake w1 hmx1).mono ?_); rintro e w2 ⟨rfl,hb2⟩;have bw2:=hb1.trans (hb2.mono hb1.size);go_wp2_with fail;go_ret;exact retB rfl bw2
 have f1 : ((3000 : Int) < (s.length : Int)) = False:=eq_false (by omega);obtain ⟨x,b,hR⟩:=bodyOut s;have hsm:=hR.small (by omega);obtain ⟨y,l,hS⟩:=splitOut s;have hB:=bodyR_out hS hR;have HB:=Lib.hid hB;have HS:=Lib.hid hS;have HR:=Lib.hid hR;have HM:=Lib.hid hmx;clear hR hmx h1 hS hB;go_enter Tryz.func5,Tryz.ntmps5;go_wp2_with fail;(with_reducible refine (l20_awake w HM.out).mono ?_); rintro e w1 ⟨rfl,hb1⟩;go_wp2_with fail;(with_reducible refine (ps_body w1 s x b (HM.out.belw hb1) HR.out).mono ?_); rintro e w2 ⟨A,n,c,rfl,hL,hN,hb2⟩;have q2:=hb1.trans (hb2.mono hb1.size);have HL:=Lib.hid hL;rw [hL.1] at hsm;clear hb1 hb2 hL;go_wp2_with fail;have hq:=(brefl w2).alloc (Nat.le_refl _) (.cells #[strV b.name,.slice A n c] 45);have x3:=Blk.new w2 45 #[strV b.name,.slice A n c];have q3:=q2.trans (hq.mono q2.size);have H3:=Lib.hid (HL.out.belw (fun _ _ _ h => h.belw hq) hq);obtain ⟨g3,hg3⟩ : ∃ g,w2.heap.size = g:=⟨_,rfl⟩;rw [hg3] at x3 ⊢;generalize w2.alloc (.cells #[strV b.name,.slice A n c] 45) = w3 at hq x3 q3 H3 ⊢;clear hq HL q2 hg3;(refine (rf_Body w3 s y l HS.out (x,b) HB.out).mono ?_); rintro e w4 ⟨A2,n2,c2,rfl,hL4,hN4,hb4⟩;have q4:=q3.trans (hb4.mono q3.size);have x4:=x3.below hb4 x3.lt;have hl4 : g3 < w4.heap.size:=x4.lt;have hne4 : ¬ g3 = w4.heap.size:=by omega
 have hne5 : ¬ w4.heap.size = g3:=by omega
 have H4:=Lib.hid (H3.out.mk_ hb4);have HL4:=Lib.hid hL4;clear hb4 x3 hL4 H3 q3;obtain ⟨c0,c1⟩:=x4.c2;go_wp2_with fail;have hq:=(brefl w4).alloc (Nat.le_refl _) (.cells #[strV b.name,.slice A2 n2 c2] 45);have y5:=Blk.new w4 45 #[strV b.name,.slice A2 n2 c2];(refine (b_num_v _ x).mono ?_); rintro e w5 ⟨rfl,hb5⟩;have hb45:=hq.trans (hb5.mono hq.size);have q6:=q4.trans (hb45.mono q4.size);have H6:=Lib.hid (H4.out.mk_ hb45).mkM;have HL6:=Lib.hid (HL4.out.mk_ hb45).mkM;have x6:=x4.below hb45 hl4;have y6:=y5.below hb5 y5.lt;obtain ⟨g4,hg4⟩ : ∃ g,w4.heap.size = g:=⟨_,rfl⟩;rw [hg4] at y6 hl4 hne4 hne5 ⊢;obtain ⟨c0,c1⟩:=x6.c2;have d0:=y6.c2;clear hb5 hb45 hq y5 x4 x6 y6 HL4 H4 q4 hg4;have t1 : (x == x) = true:=beq_self_eq_true x;go_wp2_with fail;(refine (b_body_d w5 A n c b H6.out A2 n2 c2 b HL6.out hsm true (by simp)).mono ?_); rintro e w7 ⟨rfl,hb7⟩;have q7:=q6.trans (hb7.mono q6.size);go_wp2_with fail;go_ret;exact retB rfl q7
end Go.Proofs.YtmfdifjkjkaheaaGreatDoor
namespace Go.Proofs.YtmfdifjkjkaheaaGreatDoor
open Go Go.RowKit Bn Go.ChangeShapes Go.WideShapes
attribute [local go_sem ↓] Go.wp_at_zero Go.wp_at_succ

theorem args_again {H : Type} {enc : TypeId × Value → H} {W : World} {P : Program} (hl : laidOutB P = true) {W' : World} (hb : Below W.heap.size W W') : ∀ {ts : List TypeId} {vs : List Value} {ds : List (DataW H)} {ps : List MemPlace},(ts.all fun t => P.readableRec t && decide (t < P.types.size)) = true →
 DataW.TrodAll enc P W 0 (fun _ => true) true ts vs ds ps → DataW.TrodAll enc P W' 0 (fun b => decide (b < W.heap.size)) true ts vs ds ps
 | [],[],[],_,_,h => h
 | _ :: _,_ :: _,_ :: _,_,hr,h => by
  have hlt:=h.lt;obtain ⟨p,q,h1,h2,e⟩:=h;rw [List.all_cons,Bool.and_eq_true,Bool.and_eq_true,decide_eq_true_eq] at hr;exact ⟨p,q,Below.trod hl hr.1.1 hr.1.2 h1 hb (fun x hx => hlt x (by rw [e]; exact List.mem_append_left _ hx)),args_again hl hb hr.2 h2,e⟩
 | [],[],_ :: _,_,_,h => h.elim
 | [],_ :: _,_,_,_,h => h.elim
 | _ :: _,[],_,_,_,h => h.elim
 | _ :: _,_ :: _,[],_,_,h => h.elim
theorem law_post {H : Type} {enc : TypeId × Value → H} {W : World} {P : Program} {B : TypeId} {f : Func} {s : ChangeSpec} {W' : World} {args : Array Value} {ds : List (DataW H)} {before : List MemPlace} (hl : laidOutB P = true) (hB : P.underlying B = some .bool)
 (hW : DataW.Whole enc P f.params.toList s.vars false W args.toList ds [] before) (hv : s.vars = []) (hr : f.resultTypes = #[B]) (hp : (f.params.toList.all fun t => P.readableRec t && decide (t < P.types.size)) = true)
 (hres : (s.fn H (ds ++ [])).results = [.lit (.bool true)]) (hargs : (s.fn H (ds ++ [])).args = ds) (hvars : (s.fn H (ds ++ [])).vars = []) (hb : Below W.heap.size W W') :
 s.post enc P f false true false false W args (.bool true) W':=by
 have hW':=hW;obtain ⟨p,q,hA,hV,rfl,_,_⟩:=hW;have hV':=hV;rw [hv] at hV';obtain ⟨_,rfl⟩:=trodVars_none hV';refine ⟨ds,[],_,[],p,[],hW',?_,?_,?_,hb.frame _,fun h => by cases h⟩
 ·rw [hr,hres]
  exact trodAll_mk1 (shut_bool hB _)
 ·rw [hargs]
  exact args_again hl hb hp hA
 rw [hv,hvars];rfl
theorem joined_parts {P : Program} {f : FuncId} {fn : Func} {s : ChangeSpec} {c : OpenClaim}
 (h1 : (c.wf (OpenSpec.ofChange s) && laidOutB P && mapsRowed P && fn.params.all (P.readableRec ·) && namedTie P c.named s.vars && (c.stops == []) && (P.stops == []) && (c.knobs == []) && (P.stopKnobs == [])) = true)
 (h2 : (c.inPlace == P.inPlace f) = true) (h3 : (c.unfollowed == P.unfollowed f) = true) (h4 : (c.recurses == P.recurses f) = true) (h5 : (c.named == P.varsNamed f) = true)
 (h6 : ((c.maps == (fn.params.toList ++ s.plain.varTypes P).any (P.mapsRec ·)) && (c.ifaces == (fn.params.toList ++ s.plain.varTypes P).any (P.ifacesRec ·)) && (c.mapsOut == P.mapsAmong fn.resultTypes.toList) &&
  (c.loops == (fn.params.toList ++ s.plain.varTypes P).any (P.loopsFrom ·)) && (c.wideKeys == (fn.params.toList ++ s.plain.varTypes P ++ fn.resultTypes.toList).any (P.wideKeysFrom ·)) &&
  s.vars.all (P.varReadable ·) && fn.resultTypes.all (fun t => P.readableRec t && decide (t < P.types.size)) && (c.ifacesOut == fn.resultTypes.toList.any (P.ifacesRec ·)) && (c.loopsOut == fn.resultTypes.toList.any (P.loopsFrom ·)) && (c.plainKeys == P.plainKeys) && c.shortTexts.isNone && P.stopsHeard && P.mayEnter && (c.lifted == P.liftsFinal) && (P.make == some c.make) && (c.kinds == (if c.domain.isEmpty then [] else fn.params.toList.map fun t => match P.underlying t with | some (.int k) => some k | _ => none)) && (c.pinned == c.pinnedBy) &&
  (c.veiled == (fn.params.toList ++ s.plain.varTypes P ++ fn.resultTypes.toList).any (P.veiledRec ·)) && c.veiledFits P fn.params.toList (fn.params.toList ++ s.plain.varTypes P ++ fn.resultTypes.toList)) = true) : joinedFacts P f fn s c = true:=by
 unfold joinedFacts;simp only [Bool.and_eq_true] at h1 h6 ⊢;obtain ⟨⟨⟨⟨⟨⟨⟨⟨a0,a1⟩,a2⟩,a3⟩,a4⟩,a5⟩,a6⟩,a7⟩,a8⟩:=h1;obtain ⟨⟨⟨⟨⟨⟨⟨⟨⟨⟨⟨⟨⟨⟨⟨⟨⟨⟨b0,b1⟩,b2⟩,b3⟩,b4⟩,b5⟩,b6⟩,b7⟩,b8⟩,b9⟩,b10⟩,b11⟩,b12⟩,b13⟩,b14⟩,b15⟩,b16⟩,b17⟩,b18⟩:=h6;exact ⟨⟨⟨⟨⟨⟨⟨⟨⟨⟨⟨⟨⟨⟨⟨⟨⟨⟨⟨⟨⟨⟨⟨⟨⟨⟨⟨⟨⟨⟨⟨a0,a1⟩,a2⟩,a3⟩,a4⟩,a5⟩,a6⟩,a7⟩,a8⟩,h2⟩,h3⟩,h4⟩,h5⟩,b0⟩,b1⟩,b2⟩,b3⟩,b4⟩,b5⟩,b6⟩,b7⟩,b8⟩,b9⟩,b10⟩,b11⟩,b12⟩,b13⟩,b14⟩,b15⟩,b16⟩,b17⟩,b18⟩
section
variable {H : Type} {enc : TypeId × Value → H} {W : World} {base : Nat}
end
theorem mx_of_shaped {W : World} (h : W.ShapedOpen Tryz.prog) : ∃ m,W.cell? ⟨0,0,none⟩ = some (.int .i64 m) :=
 Go.Proofs.cell_of_shapedOpen_int (P:=Tryz.prog) (g:=0) (t:=3) (zero:=#[.int .i64 0]) h (of_decide_eq_true (by kernel_rfl)) (by kernel_rfl) rfl (by kernel_rfl) (by kernel_rfl) Tryz.underlying3
theorem g_pow : Tryz.prog.globalNamed "internal/strconv.uint64pow10" = some 1 := by kernel_rfl
theorem ty_pow : (Tryz.prog.globals[1]?).map (·.type) = some 305:=by kernel_rfl
theorem cells_pow : Tryz.prog.cellsOf 305 = 20:=by kernel_rfl
theorem cells_u64 : Tryz.prog.cellsOf 174 = 1:=by kernel_rfl
theorem pow_data {H : Type} : (Rows.laid_internal_strconv_uint64pow10 : DataW H) = Lib.tabData .u64 Lib.pow10Tab:=by kernel_rfl
theorem tab_of_laid {rest : List (String × DataW Unit)} {W : World} (h : laidMet Tryz.prog (("math/bits.deBruijn32tab", Rows.laid_math_bits_deBruijn32tab) :: ("math/bits.deBruijn64tab", Rows.laid_math_bits_deBruijn64tab) :: ("internal/strconv.uint64pow10", Rows.laid_internal_strconv_uint64pow10) :: rest) W) : Tab W := by
 obtain ⟨ps,⟨_,_,_,_,_,_,_,_,_,_,⟨_,_,_,_,_,_,_,_,_,_,⟨g,t,cs,f,p,q,hg,ht,hv,hd,_,_⟩,_⟩,_⟩,_,_⟩:=h;obtain rfl:=Option.some.inj (g_pow.symm.trans hg);obtain rfl:=Option.some.inj (ty_pow.symm.trans ht);rw [pow_data] at hd;unfold Tab Lib.TabIs;rw [hv,← Lib.cells_of_tab Tryz.underlying305 Tryz.underlying174 cells_u64 cells_pow hd]
noncomputable def low : Nat:=(World.holding Tryz.prog default ⟨#[],#[],[]⟩).heap.size
noncomputable def laidWorld (os : Os) : World :=
  let w0:=World.holding Tryz.prog os ⟨#[.cells #[.string ⟨#[118,97,108,117,101,32,111,117,116,32,111,102,32,114,97,110,103,101]⟩] 327,.cells #[.string ⟨#[105,110,118,97,108,105,100,32,115,121,110,116,97,120]⟩] 327],#[],[]⟩
  { w0 with heap:=(((((((w0.heap.modify 1 fun
      | .cells _ t frozen => .cells (#[.int .u64 1,.int .u64 10,.int .u64 100,.int .u64 1000,.int .u64 10000,.int .u64 100000,.int .u64 1000000,.int .u64 10000000,.int .u64 100000000,.int .u64 1000000000,.int .u64 10000000000,.int .u64 100000000000,.int .u64 1000000000000,.int .u64 10000000000000,.int .u64 100000000000000,.int .u64 1000000000000000,.int .u64 10000000000000000,.int .u64 100000000000000000,.int .u64 1000000000000000000,.int .u64 10000000000000000000]) t frozen
      | o => o).modify 6 fun
      | .cells _ t frozen => .cells (#[.int .u8 0,.int .u8 1,.int .u8 28,.int .u8 2,.int .u8 29,.int .u8 14,.int .u8 24,.int .u8 3,.int .u8 30,.int .u8 22,.int .u8 20,.int .u8 15,.int .u8 25,.int .u8 17,.int .u8 4,.int .u8 8,.int .u8 31,.int .u8 27,.int .u8 13,.int .u8 23,.int .u8 21,.int .u8 19,.int .u8 16,.int .u8 7,.int .u8 26,.int .u8 12,.int .u8 18,.int .u8 6,.int .u8 11,.int .u8 5,.int .u8 10,.int .u8 9]) t frozen
      | o => o).modify 7 fun
      | .cells _ t frozen => .cells (#[.int .u8 0,.int .u8 1,.int .u8 56,.int .u8 2,.int .u8 57,.int .u8 49,.int .u8 28,.int .u8 3,.int .u8 61,.int .u8 58,.int .u8 42,.int .u8 50,.int .u8 38,.int .u8 29,.int .u8 17,.int .u8 4,.int .u8 62,.int .u8 47,.int .u8 59,.int .u8 36,.int .u8 45,.int .u8 43,.int .u8 51,.int .u8 22,.int .u8 53,.int .u8 39,.int .u8 33,.int .u8 30,.int .u8 24,.int .u8 18,.int .u8 12,.int .u8 5,.int .u8 63,.int .u8 55,.int .u8 48,.int .u8 27,.int .u8 60,.int .u8 41,.int .u8 37,.int .u8 16,.int .u8 46,.int .u8 35,.int .u8 44,.int .u8 21,.int .u8 52,.int .u8 32,.int .u8 23,.int .u8 11,.int .u8 54,.int .u8 26,.int .u8 40,.int .u8 15,.int .u8 34,.int .u8 20,.int .u8 31,.int .u8 10,.int .u8 25,.int .u8 14,.int .u8 19,.int .u8 9,.int .u8 13,.int .u8 8,.int .u8 7,.int .u8 6]) t frozen
      | o => o).modify 5 fun
      | .cells _ t frozen => .cells (#[.int .u8 128,.int .u8 191,.int .u8 160,.int .u8 191,.int .u8 128,.int .u8 159,.int .u8 144,.int .u8 191,.int .u8 128,.int .u8 143,.int .u8 0,.int .u8 0,.int .u8 0,.int .u8 0,.int .u8 0,.int .u8 0,.int .u8 0,.int .u8 0,.int .u8 0,.int .u8 0,.int .u8 0,.int .u8 0,.int .u8 0,.int .u8 0,.int .u8 0,.int .u8 0,.int .u8 0,.int .u8 0,.int .u8 0,.int .u8 0,.int .u8 0,.int .u8 0]) t frozen
      | o => o).modify 4 fun
      | .cells _ t frozen => .cells ((Go.Pinned.utf8FirstZ.map fun z : Nat => Value.int .u8 (z : Int)).toArray) t frozen
      | o => o).modify 3 fun
      | .cells _ t frozen => .cells (#[.iface 325 (.pointer (some ⟨low,0,none⟩))]) t frozen
      | o => o).modify 2 fun
      | .cells _ t frozen => .cells (#[.iface 325 (.pointer (some ⟨low + 1,0,none⟩))]) t frozen
      | o => o) }
theorem own_knob : ownKnob Tryz.prog.godebug = none:=by kernel_rfl
theorem laid_out : laidOutB Tryz.prog = true:=by kernel_rfl
end Go.Proofs.YtmfdifjkjkaheaaGreatDoor
