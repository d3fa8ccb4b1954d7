/- Part EN3: lemmas and walks that the claim rests on. No claim is made here. -/
import Derived.Lib.AppendIntMem
import Derived.Laws.OwnMore
import Derived.Deep.AppendLies
import Derived.Deep.RegionHeld3
import Derived.Deep.DrawnRows
import Derived.Shelf.Strings.SlTrimAscii
import Derived.WalkSpells
import Derived.BigQuiet
import Derived.Deep.DeepCutAuto
import Derived.Lib.IndexMore
import Derived.Shelf.Strings.Builder1
import Derived.Test.YtndhgcfajlalhaaGreatDoorEN2
set_option linter.unusedVariables false
set_option maxHeartbeats 8000000
set_option maxRecDepth 100000
/- Walks: integer.Text. -/
namespace Go.Proofs.YtndhgcfajlalhaaGreatDoor
open Go Go.RowKit Bn
attribute [local go_sem ↓] Go.wp_at_zero Go.wp_at_succ

def Tab (w : World) : Prop := Lib.TabIs Tryz.prog w "internal/strconv.uint64pow10" .u64 Lib.pow10Tab
theorem Tab.belw {w w':World}(h:Tab w) (hb:Below w.heap.size w w'):Tab w':=Lib.tabBelow_of_tabIs h w' hb
abbrev ae (l:List UInt8):Value:=.string ⟨l.toArray⟩
def strs (ps:List (List UInt8)):List Value:=ps.map ae
theorem iQ (ps:List (List UInt8)):(strs ps).length=ps.length:=by simp [strs]
theorem oh (ps:List (List UInt8)):∀ u∈strs ps,u.oneCell'=true:=by
 intro u hu;simp only [strs,List.mem_map] at hu;obtain ⟨x,_,rfl⟩:=hu;rfl
theorem oi:(Tryz.prog.info? 9).map (fun i=>(i.zero,i.size,i.bytes))=some (some (.string ⟨#[]⟩),1,16):=by kernel_rfl
theorem pM (w:World) (k:Nat) (os:Array Obj):Below w.heap.size w (Sort.grow (w.drewN k) os) :=
 ⟨rfl,rfl,rfl,by simp [Sort.grow],fun j hj=>by simp [Sort.grow,Array.getElem?_append_left hj]⟩
theorem yM (w:World) (n:Int) (h0:-9223372036854775808≤n) (h1:n≤9223372036854775807) (ht:Tab w) :
 Calls Tryz.prog 124 #[.int .i64 n] w (aB w (ae (Lib.itoa n))) :=
 (Tryz.strconv_Itoa n h0 h1 w ht).mono fun e w' ⟨he,k,os,hw⟩=>⟨he,by rw [hw];exact pM w k os⟩
def jK (w:World) (p:Value) (ps:List (List UInt8)):Prop:=(ps=[]∧p=.slice none 0 0)∨(ps≠[]∧∃ g cap,p=.slice (some ⟨g,0,none⟩) ps.length cap∧g < w.heap.size∧ps.length≤cap∧∀ j,j < ps.length→w.cell? ⟨g,j,none⟩=(strs ps)[j]?)
theorem jK.belw {w w':World}{p:Value}{ps:List (List UInt8)}(h:jK w p ps) (hb:Below w.heap.size w w'):jK w' p ps:=by
 rcases h with h | ⟨h0,g,cap,h1,h2,h3,h4⟩
 ·exact .inl h
 refine .inr ⟨h0,g,cap,h1,Nat.lt_of_lt_of_le h2 hb.size,h3,fun j hj=>?_⟩;rw [← h4 j hj];simp only [World.cell?,hb.block g h2]
theorem uo (w:World) (p:Value) (ps:List (List UInt8)) (h:jK w p ps) (hlen:ps.flatten.length≤140737488355328) (hN:ps.length≤140737488355328) :
 Calls Tryz.prog 64 #[p,.string ⟨#[]⟩] w (aB w (ae ps.flatten)):=by
 rcases h with ⟨rfl,rfl⟩ | ⟨h0,g,cap,rfl,h2,h3,h4⟩
 ·exact (Tryz.strings_Join_none none 0 ⟨#[]⟩ w).mono fun e w' ⟨he,hw⟩=>⟨he,hw ▸ Below.refl _ _⟩
 ·have hm:(ps.map fun l=>(⟨l.toArray⟩:ByteArray)).map (·.data.toList)=ps:=by
   rw [List.map_map];exact (List.map_congr_left (fun a _=>by simp)).trans (List.map_id ps)
  have hl:(ps.map fun l=>(⟨l.toArray⟩:ByteArray)).length=ps.length:=by simp
  have hJ:Lib.join ((ps.map fun l=>(⟨l.toArray⟩:ByteArray)).map (·.data.toList)) (⟨#[]⟩:ByteArray).data.toList=ps.flatten:=by rw [hm];exact sh ps
  have:=Tryz.strings_Join g 0 cap (ps.map fun l=>⟨l.toArray⟩) ⟨#[]⟩ w (fun j x hx=>by
   have hj:j < ps.length:=by have:=(List.getElem?_eq_some_iff.1 hx).1;rw [hl] at this;exact this
   rw [Nat.zero_add,h4 j hj];rw [List.getElem?_map] at hx;unfold strs;rw [List.getElem?_map]
   cases hp:ps[j]? with
   | none=>rw [hp] at hx;simp at hx
   | some y=>rw [hp] at hx;simp at hx;subst hx;rfl) h2 (by rw [hl];exact hN) (by rw [hl];exact h3) (by rw [hJ];exact hlen)
  rw [hJ,hl] at this;exact this
theorem oj (a b:List UInt8):((⟨a.toArray⟩:ByteArray) ++ ⟨b.toArray⟩)=⟨(a ++ b).toArray⟩:=by
 apply ByteArray.ext;simp [ByteArray.data_append]
theorem mH (w:World) (z:Int) (r:Nat) (d:List UInt8) (hz:z=r) (hr:r < 1000000000) (hd:Lib.decDigits r=d) (ht:Tab w) :
 Calls Tryz.prog 124 #[.int .i64 z] w (aB w (ae d)):=by
 subst hz hd;rw [← Lib.itoa_nonneg];exact yM w r (by omega) (by omega) ht
theorem ol (w:World) (z:Int) (j:Nat) (d:List UInt8) (hz:z=j) (hj:j < 1000000) (hd:Lib.repeatL [48] j=d) :
 Calls Tryz.prog 112 #[.string ⟨#[48]⟩,.int .i64 z] w (aB w (ae d)):=by
 subst hz hd;exact Tryz.strings_Repeat ⟨#[48]⟩ j w (by omega) (by show 1 * j≤_;omega)
theorem j8 (w:World) (A:Option Addr) (n c q r q':Nat) (wa:Wd w A n c (am q)) (hn:n≤1099511627776) (hr:q % 1000000000=r) (hq:q / 1000000000=q') :
 Calls Tryz.prog 123 #[.slice A n c,.int .u32 1000000000] w fun e w'=>∃ A1 n1 c1,e=.returned (.tuple #[.slice A1 n1 c1,.int .u32 (r:Nat)])∧Wd w' A1 n1 c1 (am q')∧Below w.heap.size w w':=by
 have:=qK w A n c (am q) wa hn 1000000000 (by omega) (by omega);rw [ag,hr,hq] at this;exact this
theorem jK.one (w:World) (S:List UInt8):jK (w.alloc (.cells #[ae S] 9)) (.slice (some ⟨w.heap.size,0,none⟩) 1 1) [S]:=by
 refine .inr ⟨by simp,_,_,rfl,by simp,Qr,fun j hj=>?_⟩;rw [World.cell?_alloc_new];have:j=0:=by simpa using hj
 subst this;rfl
theorem jK.own {w:World}{base g cap:Nat}{S:List UInt8}{ps:List (List UInt8)}(h:w.ownsRow base 9 1 (.slice (some ⟨g,0,none⟩) (1+ps.length) cap) (1+ps.length) ([ae S] ++ strs ps)) (hg:g < w.heap.size) :
 jK w (.slice (some ⟨g,0,none⟩) (1+ps.length) cap) (S :: ps):=by
 refine .inr ⟨by simp,g,cap,by rw [List.length_cons,Nat.add_comm],hg,?_,fun j hj=>?_⟩
 ·rcases h.2 with ⟨e,_⟩ | ⟨g',c',cur,e,_,_,hc,_⟩
  ·exact absurd e (by simp)
  injection e with _ _ e2;rw [List.length_cons];omega
 rw [h.cellAt j (by rw [List.length_cons] at hj;omega)];rfl
def Aj (N:Nat) (W0 wr:World) (m p:Value):Prop:=∃ A1 n1 c1 q ps,m=.slice A1 n1 c1∧n1≤1099511627000∧vZ (Wd wr A1 n1 c1 (am q)∧jZ N q ps∧jK wr p ps)∧Below W0.heap.size W0 wr
theorem yN (w:World) (b:Bool) (A n c l) (wa:Wd w A n c l) (hn:n≤1000000000) (ht:Tab w) :
 Calls Tryz.prog 85 #[.agg #[.bool b,.slice A n c]] w (aB w (ae (Lib.itoa (WD.z ⟨b,l⟩)))):=by
 have HL:=Qh wa.2.1;have hcm:aO (WD.m ⟨b,l⟩):=WD.canon_m wa.1;obtain ⟨i0,hi0,hz0,hz1,hz2⟩:=info_parts oi;obtain ⟨M,hM⟩:∃ M,WD.m ⟨b,l⟩=am M:=⟨_,(dM hcm).symm⟩;have hab:(WD.z ⟨b,l⟩).natAbs=M:=by rw [kx,hM,ag]
 obtain ⟨T,hT⟩:∃ T,T=Lib.itoa (WD.z ⟨b,l⟩):=⟨_,rfl⟩;rw [iM,hab] at hT;rw [iM,hab,← hT];have HT:=Qh hT;have HTab:=Qh ht;have HM:=Qh hM;have HA:=Qh hab;clear hT ht hM hab hcm;have b0:Below w.heap.size w (w.alloc (.cells #[.bool b,.slice A n c] 134)):=(Below.refl _ _).alloc Qr _;have x0:Blk (w.alloc (.cells #[.bool b,.slice A n c] 134)) w.heap.size 134 #[.bool b,.slice A n c]:=ak _ _ _ rfl;by_cases hM0:M=0
 ·subst hM0
  have hz:(WD.z ⟨b,l⟩) < 0→False:=by have:=HA.out;omega
  have hT0:T=[48]:=by rw [HT.out,if_neg (fun h=>hz h)];exact Lib.decDigits_one (by omega)
  subst hT0;go_in;go_wp2_with (go_at_call 120;(with_reducible refine (dQ _ b A n c l ?_ ?_).mono ?_);(exact wa.belw b0);(omega);rintro e w1 ⟨A1,n1,c1,rfl,h1,hb1⟩;rw [HM.out,av] at h1;obtain rfl:n1=0:=h1.2.1);go_ret;exact ⟨rfl,b0.trans (hb1.mono b0.size)⟩
 have hMp:0 < M:=Nat.pos_of_ne_zero hM0;have HMP:=Qh hMp;clear hM0 hMp;go_in;go_wp2_with (go_at_call 120;(with_reducible refine (dQ _ b A n c l ?_ ?_).mono ?_);(exact wa.belw b0);(omega);rintro e w1 ⟨A1,n1,c1,rfl,h1,hb1⟩;have hn1:n1≤1000000000:=h1.m_len (by rw [← HL.out];exact hn);rw [HM.out] at h1;have e1:((n1:Int) == 0)=false:=(by have h9:n1≠0:=(fun e=>by have h8:=h1.2.1;rw [e] at h8;exact absurd (aP.1 (List.eq_nil_of_length_eq_zero h8.symm)) (by have:=HMP.out;omega));simp;exact h9));clear e1;go_loopw [3,4] (fun mv pv wr=>Aj M w1 wr mv pv) (fun mv _ wr=>valOf wr mv)
 case atStart=>exact ⟨A1,n1,c1,M,[],rfl,by omega,⟨h1,jZ.start HMP.out,.inl ⟨rfl,rfl⟩⟩,aa _⟩
 case round =>
  obtain ⟨A3,n3,c3,q,ps,rfl,hn3,hK,rr⟩:=hrel;have hm5:valOf wr (.slice A3 n3 c3)=q:=by rw [hK.1.valOf,ag]
  by_cases hq0:q=0
  ·subst hq0
   have h0:n3=0:=by have:=hK.1.2.1;rw [av] at this;exact this
   subst h0;have hps:M=M∧Lib.decDigits M=ps.flatten:=⟨rfl,hK.2.1.2.1 rfl⟩;have hln:=hK.2.1.len;have hnd:Lib.nDigits M≤10 * 1000000000:=fL hn1 (by omega) (by have:=h1.vlt Qr;rw [ag] at this;exact this);have x1:Blk w1 w.heap.size 134 #[.bool b,.slice A n c]:=x0.below hb1 (by simp);have x2:=x1.below rr x1.lt;have bw:=((b0.trans (hb1.mono b0.size)).trans (rr.mono (by have:=hb1.size;have:=b0.size;omega)));have HX:=Qh x2;have HP:=Qh hps.2;have HA2:=Qh (show (WD.z ⟨b,l⟩)=sgn (WD.s ⟨b,l⟩) M by rw [WD.z_eq,HM.out,ag]);clear hps x1 x2;cases hs:WD.s ⟨b,l⟩
   ·have HS:=Qh hs
    have HT2:=Qh (show T=ps.flatten by rw [HT.out,HP.out,HA2.out,hs,if_neg (by simp [sgn])];rfl);clear hs
    go_wp2_with (first
     | (go_at_call 64;(with_reducible refine (uo _ _ ps ?_ ?_ ?_).mono ?_);(exact hK.2.2);omega;omega;rintro e w2 ⟨rfl,hb2⟩;have x3:=HX.out.below hb2 HX.out.lt;obtain ⟨c0,c1⟩:=x3.c2)
     | (go_at_call 121;(with_reducible refine (eU _ b A n c l false ?_ ?_ HS.out).mono ?_);(exact wa.belw (bw.trans (hb2.mono bw.size)));omega;rintro e w3 ⟨rfl,hb3⟩))
    go_ret;refine ⟨by rw [HT2.out];rfl,(bw.trans (hb2.mono bw.size)).trans (hb3.mono (by have:=hb2.size;have:=bw.size;omega))⟩
   have HS:=Qh hs;have HT2:=Qh (show T=45 :: ps.flatten by rw [HT.out,HP.out,HA2.out,hs,if_pos (by simp [sgn];have:=HMP.out;omega)];rfl);clear hs;have hsum:(ps.map List.length).sum≤Lib.nDigits M:=by rw [← List.length_flatten];exact hln.1
   go_wp2_with (first
    | (go_at_call 64;(with_reducible refine (uo _ _ ps ?_ ?_ ?_).mono ?_);(exact hK.2.2);omega;omega;rintro e w2 ⟨rfl,hb2⟩;have x3:=HX.out.below hb2 HX.out.lt;obtain ⟨c0,c1⟩:=x3.c2)
    | (go_at_call 121;(with_reducible refine (eU _ b A n c l true ?_ ?_ HS.out).mono ?_);(exact wa.belw (bw.trans (hb2.mono bw.size)));omega;rintro e w3 ⟨rfl,hb3⟩))
   go_ret;refine ⟨?_,(bw.trans (hb2.mono bw.size)).trans (hb3.mono (by have:=hb2.size;have:=bw.size;omega))⟩;rw [HT2.out];exact congrArg (fun x=>Ending.returned (.string x)) (oj [45] ps.flatten)
  have hqp:0 < q:=Nat.pos_of_ne_zero hq0;have hn30:n3≠0:=fun e=>hq0 (aP.1 (List.eq_nil_of_length_eq_zero (by rw [← hK.1.2.1];exact e)))
  have e1:decide (0 < n3)=true:=by simp;omega
  obtain ⟨r,hr⟩:∃ r,q % 1000000000=r:=⟨_,rfl⟩;have hr9:r < 1000000000:=by rw [← hr];exact Nat.mod_lt _ (by omega)
  obtain ⟨d,hd⟩:∃ d,Lib.decDigits r=d:=⟨_,rfl⟩;obtain ⟨k,hk⟩:∃ k,d.length=k:=⟨_,rfl⟩;have hkn:Lib.nDigits r=k:=by rw [← hk,← hd,Lib.decDigits_length]
  have hk9:k≤9:=by rw [← hkn];exact mE (by omega) hr9
  obtain ⟨j,hj⟩:∃ j,k+j=9:=⟨9 - k,by omega⟩;obtain ⟨z,hz⟩:∃ z,Lib.repeatL [48] j=z:=⟨_,rfl⟩;have hzl:z.length=j:=by rw [← hz,Lib.repeatL_length];simp
  obtain ⟨q',hq'⟩:∃ q',q / 1000000000=q':=⟨_,rfl⟩;have HR:=Qh hr;have HD:=Qh hd;have HZ:=Qh hz;have HQ:=Qh hq';have HQP:=Qh hqp;have HKN:=Qh hkn;have hlt:q' < q:=by rw [← hq'];omega
  have HLT:=Qh hlt;have bw:=((b0.trans (hb1.mono b0.size)).trans (rr.mono (by have:=hb1.size;have:=b0.size;omega)));have hnd:Lib.nDigits M≤10 * 1000000000:=fL hn1 (by omega) (by have:=h1.vlt Qr;rw [ag] at this;exact this);have hln:=hK.2.1.len;clear hr hd hz hq' hq0 hqp hn30 hkn hlt;by_cases h0:q'=0
  ·subst h0
   by_cases hp0:ps=[]
   ·subst hp0
    have hu4:u4=.slice none 0 0:=by
     rcases hK.2.2 with h | h
     ·exact h.2
     exact absurd rfl h.1
    subst hu4
    go_wp2_with (first
     | (go_at_call 123;(with_reducible refine (j8 _ A3 n3 c3 q r 0 ?_ ?_ HR.out HQ.out).mono ?_);(exact hK.1);omega;rintro e w2 ⟨A5,n5,c5,rfl,h5,hb2⟩;obtain rfl:n5=0:=(by have h9:=h5.2.1;rw [av] at h9;exact h9))
     | (go_at_call 124;(with_reducible refine (mH _ _ r d ?_ ?_ HD.out ?_).mono ?_);(first | rfl | omega);omega;(exact HTab.out.belw (bw.trans (hb2.mono bw.size)));rintro e w3 ⟨rfl,hb3⟩)
    )
    have bl:Below wr.heap.size wr w3:=(hb2.mono Qr).trans (hb3.mono hb2.size);have b5:Below w2.heap.size w2 w3:=hb3;go_roundw
    case rel =>
     refine ⟨A5,0,c5,0,[d],rfl,?_,⟨(h5.belw b5).belw ((Below.refl _ _).alloc Qr _),by have:=hK.2.1.last HQP.out HQ.out;rw [HQ.out,HR.out,HD.out] at this;exact this,?_⟩,(rr.trans (bl.mono rr.size)).alloc (Nat.le_trans rr.size bl.size) _⟩
     ·omega
     have:=jK.one w3 d;exact this
    case measure =>
     rw [((h5.belw b5).belw ((Below.refl _ _).alloc Qr _)).valOf,hm5,ag];exact HLT.out
   have hp1:0 < ps.length:=List.length_pos_iff.2 hp0
   obtain ⟨g,cap,hu4,hg,hcap,hcells0⟩:∃ g cap,u4=.slice (some ⟨g,0,none⟩) ps.length cap∧g < wr.heap.size∧ps.length≤cap∧∀ j,j < ps.length→wr.cell? ⟨g,j,none⟩=(strs ps)[j]?:=by
    rcases hK.2.2 with h | h
    ·exact absurd h.1 hp0
    exact h.2
   subst hu4
   have hcells:∀ w',Below wr.heap.size wr w'→∀ S j u,(strs ps)[j]?=some u→(w'.alloc (.cells #[S] 9)).cell? ((⟨g,0,none⟩:Addr).add j)=some u:=by
    intro w' hb S j u hu;have hj:j < ps.length:=by have:=(List.getElem?_eq_some_iff.1 hu).1;rw [iQ] at this;exact this
    rw [Lib.add_plain,Nat.zero_add,← hu,← hcells0 j hj];simp only [World.cell?,Below.heap_alloc _ _ _ (Nat.lt_of_lt_of_le hg hb.size),hb.block g hg]
   go_wp2_with (first
    | (go_at_call 123;(with_reducible refine (j8 _ A3 n3 c3 q r 0 ?_ ?_ HR.out HQ.out).mono ?_);(exact hK.1);omega;rintro e w2 ⟨A5,n5,c5,rfl,h5,hb2⟩;obtain rfl:n5=0:=(by have h9:=h5.2.1;rw [av] at h9;exact h9))
    | (go_at_call 124;(with_reducible refine (mH _ _ r d ?_ ?_ HD.out ?_).mono ?_);(first | rfl | omega);omega;(exact HTab.out.belw (bw.trans (hb2.mono bw.size)));rintro e w3 ⟨rfl,hb3⟩)
    | (at_builtin;refine wpList_append_lies _ rfl _ _ _ rfl w3.heap.size 9 i0 (.string ⟨#[]⟩) 1 16 Tryz.underlying109 hi0 hz0 hz1 hz2 rfl (by omega) _ 1 [ae d] rfl (World.ownsRow_lit w3 #[ae d] 1 Qr (by unfold maxLen;omega) rfl) ⟨g,0,none⟩ ps.length cap (strs ps) rfl (by rw [iQ,Nat.mul_one]) ?_ (oh ps) hp1 (by unfold maxLen;omega) (by omega) (by simp) (w3.heap.size+1) (by simp) ?_;(exact hcells _ ((hb2.mono Qr).trans (hb3.mono hb2.size)) _);intro gx cap2 w5 hown5 hgrow hat hlt5)
   )
   have bl:Below wr.heap.size wr w3:=(hb2.mono Qr).trans (hb3.mono hb2.size);have b5:Below w2.heap.size w2 w3:=hb3;have bg:Below w3.heap.size w3 w5:=((Below.refl _ _).alloc Qr _).grown hgrow (by simp) (du (World.ownsRow_lit (e:=9) (size:=1) w3 #[ae d] 1 Qr (by unfold maxLen;omega) rfl));have bgr:Below w1.heap.size w1 w5:=((rr.trans (bl.mono rr.size)).alloc (Nat.le_trans rr.size bl.size) _).grown hgrow (by have:=rr.size;have:=bl.size;simp;omega) (fun k hk=>Nat.le_trans (Nat.le_trans rr.size bl.size) ((du (World.ownsRow_lit (e:=9) (size:=1) w3 #[ae d] 1 Qr (by unfold maxLen;omega) rfl)) k hk));go_roundw
   case rel =>
    refine ⟨A5,0,c5,0,d :: ps,rfl,?_,⟨(h5.belw b5).belw bg,by have:=hK.2.1.last HQP.out HQ.out;rw [HQ.out,HR.out,HD.out] at this;exact this,?_⟩,bgr⟩
    ·omega
    refine jK.own (base:=w3.heap.size) ?_ hlt5;exact hown5
   case measure =>
    rw [((h5.belw b5).belw bg).valOf,hm5,ag];exact HLT.out
  by_cases hp0:ps=[]
  ·subst hp0
   have hu4:u4=.slice none 0 0:=by
    rcases hK.2.2 with h | h
    ·exact h.2
    exact absurd rfl h.1
   subst hu4
   go_wp2_with (first
    | (go_at_call 123;(with_reducible refine (j8 _ A3 n3 c3 q r q' ?_ ?_ HR.out HQ.out).mono ?_);(exact hK.1);omega;rintro e w2 ⟨A5,n5,c5,rfl,h5,hb2⟩;have e5:decide (0 < n5)=true:=(by have:n5≠0:=(fun e=>h0 (aP.1 (List.eq_nil_of_length_eq_zero (by rw [← h5.2.1];exact e))));simp;omega))
    | (go_at_call 124;(with_reducible refine (mH _ _ r d ?_ ?_ HD.out ?_).mono ?_);(first | rfl | omega);omega;(exact HTab.out.belw (bw.trans (hb2.mono bw.size)));rintro e w3 ⟨rfl,hb3⟩)
    | (go_at_call 112;(with_reducible refine (ol _ _ j z ?_ ?_ HZ.out).mono ?_);omega;omega;rintro e w4 ⟨rfl,hb4⟩)
   )
   have bl:Below wr.heap.size wr w4:=((hb2.mono Qr).trans (hb3.mono hb2.size)).trans (hb4.mono (Nat.le_trans hb2.size hb3.size));have b5:Below w2.heap.size w2 w4:=hb3.trans (hb4.mono hb3.size);go_roundw
   case rel =>
    refine ⟨A5,n5,c5,q',[(z ++ d)],rfl,?_,⟨(h5.belw b5).belw ((Below.refl _ _).alloc Qr _),by have:=hK.2.1.more (by rw [HQ.out];omega);rw [HQ.out,HR.out,HKN.out,HD.out,show 9 - k=j by omega,HZ.out] at this;exact this,?_⟩,(rr.trans (bl.mono rr.size)).alloc (Nat.le_trans rr.size bl.size) _⟩
    ·rw [h5.2.1];exact Nat.le_trans (ar (Nat.lt_trans (by first | exact HLT.out | (have:=HLT.out;omega)) (by have:=hK.1.vlt Qr;rw [ag] at this;exact this))) hn3
    have:=jK.one w4 (z ++ d);rw [show ae (z ++ d)=.string (⟨z.toArray⟩ ++ ⟨d.toArray⟩) by rw [oj]] at this;exact this
   case measure =>
    rw [((h5.belw b5).belw ((Below.refl _ _).alloc Qr _)).valOf,hm5,ag];exact HLT.out
  have hp1:0 < ps.length:=List.length_pos_iff.2 hp0
  obtain ⟨g,cap,hu4,hg,hcap,hcells0⟩:∃ g cap,u4=.slice (some ⟨g,0,none⟩) ps.length cap∧g < wr.heap.size∧ps.length≤cap∧∀ j,j < ps.length→wr.cell? ⟨g,j,none⟩=(strs ps)[j]?:=by
   rcases hK.2.2 with h | h
   ·exact absurd h.1 hp0
   exact h.2
  subst hu4
  have hcells:∀ w',Below wr.heap.size wr w'→∀ S j u,(strs ps)[j]?=some u→(w'.alloc (.cells #[S] 9)).cell? ((⟨g,0,none⟩:Addr).add j)=some u:=by
   intro w' hb S j u hu;have hj:j < ps.length:=by have:=(List.getElem?_eq_some_iff.1 hu).1;rw [iQ] at this;exact this
   rw [Lib.add_plain,Nat.zero_add,← hu,← hcells0 j hj];simp only [World.cell?,Below.heap_alloc _ _ _ (Nat.lt_of_lt_of_le hg hb.size),hb.block g hg]
  go_wp2_with (first
   | (go_at_call 123;(with_reducible refine (j8 _ A3 n3 c3 q r q' ?_ ?_ HR.out HQ.out).mono ?_);(exact hK.1);omega;rintro e w2 ⟨A5,n5,c5,rfl,h5,hb2⟩;have e5:decide (0 < n5)=true:=(by have:n5≠0:=(fun e=>h0 (aP.1 (List.eq_nil_of_length_eq_zero (by rw [← h5.2.1];exact e))));simp;omega))
   | (go_at_call 124;(with_reducible refine (mH _ _ r d ?_ ?_ HD.out ?_).mono ?_);(first | rfl | omega);omega;(exact HTab.out.belw (bw.trans (hb2.mono bw.size)));rintro e w3 ⟨rfl,hb3⟩)
   | (go_at_call 112;(with_reducible refine (ol _ _ j z ?_ ?_ HZ.out).mono ?_);omega;omega;rintro e w4 ⟨rfl,hb4⟩)
   | (at_builtin;refine wpList_append_lies _ rfl _ _ _ rfl w4.heap.size 9 i0 (.string ⟨#[]⟩) 1 16 Tryz.underlying109 hi0 hz0 hz1 hz2 rfl (by omega) _ 1 [.string (⟨z.toArray⟩ ++ ⟨d.toArray⟩)] rfl (World.ownsRow_lit w4 #[.string (⟨z.toArray⟩ ++ ⟨d.toArray⟩)] 1 Qr (by unfold maxLen;omega) rfl) ⟨g,0,none⟩ ps.length cap (strs ps) rfl (by rw [iQ,Nat.mul_one]) ?_ (oh ps) hp1 (by unfold maxLen;omega) (by omega) (by simp) (w4.heap.size+1) (by simp) ?_;(exact hcells _ (((hb2.mono Qr).trans (hb3.mono hb2.size)).trans (hb4.mono (Nat.le_trans hb2.size hb3.size))) _);intro gx cap2 w5 hown5 hgrow hat hlt5)
  )
  have bl:Below wr.heap.size wr w4:=((hb2.mono Qr).trans (hb3.mono hb2.size)).trans (hb4.mono (Nat.le_trans hb2.size hb3.size));have b5:Below w2.heap.size w2 w4:=hb3.trans (hb4.mono hb3.size);have bg:Below w4.heap.size w4 w5:=((Below.refl _ _).alloc Qr _).grown hgrow (by simp) (du (World.ownsRow_lit (e:=9) (size:=1) w4 #[.string (⟨z.toArray⟩ ++ ⟨d.toArray⟩)] 1 Qr (by unfold maxLen;omega) rfl));have bgr:Below w1.heap.size w1 w5:=((rr.trans (bl.mono rr.size)).alloc (Nat.le_trans rr.size bl.size) _).grown hgrow (by have:=rr.size;have:=bl.size;simp;omega) (fun k hk=>Nat.le_trans (Nat.le_trans rr.size bl.size) ((du (World.ownsRow_lit (e:=9) (size:=1) w4 #[.string (⟨z.toArray⟩ ++ ⟨d.toArray⟩)] 1 Qr (by unfold maxLen;omega) rfl)) k hk));go_roundw
  case rel =>
   refine ⟨A5,n5,c5,q',(z ++ d) :: ps,rfl,?_,⟨(h5.belw b5).belw bg,by have:=hK.2.1.more (by rw [HQ.out];omega);rw [HQ.out,HR.out,HKN.out,HD.out,show 9 - k=j by omega,HZ.out] at this;exact this,?_⟩,bgr⟩
   ·rw [h5.2.1];exact Nat.le_trans (ar (Nat.lt_trans HLT.out (by have:=hK.1.vlt Qr;rw [ag] at this;exact this))) hn3
   refine jK.own (base:=w4.heap.size) ?_ hlt5;rw [show ae (z ++ d)=.string (⟨z.toArray⟩ ++ ⟨d.toArray⟩) by rw [oj]];exact hown5
  case measure =>
   rw [((h5.belw b5).belw bg).valOf,hm5,ag];exact HLT.out

theorem aV (l:List UInt8):(⟨l.toArray⟩:ByteArray).toList=l:=by rw [Lib.toList_data]
theorem aE (l:List UInt8):(⟨l.toArray⟩:ByteArray).size=l.length:=rfl
theorem lV (l:List UInt8) (a b:Nat):(⟨l.toArray⟩:ByteArray).extract a b=⟨((l.drop a).take (b - a)).toArray⟩:=by
 apply ByteArray.ext;rw [ByteArray.data_extract];simp
theorem bA (w:World) (l:List UInt8) (m:Bool) (hm:bX l=m):Calls Tryz.prog 148 #[ae l,.string ⟨#[45]⟩] w (aB w (.bool m)):=by
 subst hm;refine (Tryz.strings_HasPrefix ⟨l.toArray⟩ ⟨#[45]⟩ w).mono fun e w' ⟨he,hw⟩=>⟨?_,hw ▸ aa _⟩
 rw [he];exact congrArg (fun x=>Ending.returned (.bool x)) (fN l)
theorem lW (w:World) (l t:List UInt8) (ht:bI l=t):Calls Tryz.prog 153 #[ae l,.string ⟨#[45]⟩] w (aB w (ae t)):=by
 subst ht;refine (Tryz.strings_TrimPrefix ⟨l.toArray⟩ ⟨#[45]⟩ w).mono fun e w' ⟨he,hw⟩=>⟨?_,hw ▸ aa _⟩
 rw [he];exact congrArg (fun x:List UInt8=>Ending.returned (ae x)) (iO l)
theorem up (w:World) (t x:List UInt8) (hn:t.length≤1000000) (hx:Lib.trimS t kA=x):Calls Tryz.prog 154 #[ae t,.string ⟨#[48,49,50,51,52,53,54,55,56,57]⟩] w (aB w (ae x)):=by
 subst hx;exact Any.strings_Trim_laid Tryz.lays160 (by kernel_rfl) ⟨t.toArray⟩ ⟨#[48,49,50,51,52,53,54,55,56,57]⟩ w (by show t.length≤_;omega) (by decide) (ascii_of_all (by decide))
theorem uq (w:World) (t:List UInt8) (x:Nat) (hn:t.length≤9) (h0:t≠[]) (ha:t.all aM=true) (hx:ap t=x):Calls Tryz.prog 155 #[ae t] w (aB w (.tuple #[.int .i64 (x:Nat),.nilIface])):=by
 subst hx;refine (Tryz.strconv_Atoi ⟨t.toArray⟩ (ap t:Nat) (by show t.length≤18;omega) (uh ha h0) w).mono fun e w' ⟨he,t,hw⟩=>⟨he,?_⟩
 rw [hw];exact ⟨rfl,rfl,rfl,by rw [Lib.bytesWorld_size];omega,fun j hj=>Lib.bytesWorld_at_old _ _ _ j hj⟩
def ur (T:List UInt8) (W0 wr:World) (tv mv:Value):Prop:=∃ pre rest A1 n1 c1,tv=ae rest∧mv=.slice A1 n1 c1∧n1≤65536∧rest.length≤65536∧vZ (lx T pre rest∧pre.all aM=true∧rest.all aM=true∧Wd wr A1 n1 c1 (am (ap pre)))∧Below W0.heap.size W0 wr
def ut:Value→Nat
  | .string s=>s.size
  | _=>0
theorem uu (w:World) (A:Option Addr) (n c x:Nat) (wa:Wd w A n c (am x)) (hn:n≤1099511627776) (A':Option Addr) (n' c' y:Nat) (wb:Wd w A' n' c' (am y)) (hn':n'≤1099511627776) :
 Calls Tryz.prog 141 #[.slice A n c,.slice A' n' c'] w (fm w (am (x+y))):=by
 have:=py w A n c (am x) wa hn A' n' c' (am y) wb hn';rw [ag,ag] at this;exact this
theorem qT (w:World) (A:Option Addr) (n c x:Nat) (wa:Wd w A n c (am x)) (hn:n≤1099511627776) (g:Nat) (z:Int) (y:Nat) (hz:z=y) (hy:y < 4294967296) (hb:Blk w g 173 #[.int .u32 z]) :
 Calls Tryz.prog 143 #[.slice A n c,.slice (some ⟨g,0,none⟩) 1 1] w (fm w (am (x * y))):=by
 subst hz;have h1:Wd w (some ⟨g,0,none⟩) 1 1 [y]:=Blk.wdN (l:=[y]) hb (by intro x hx;simp at hx;omega) rfl;have:=qJ w A n c (am x) wa hn (some ⟨g,0,none⟩) 1 1 [y] h1 (by omega);rw [ag,show val [y]=y by simp [val]] at this;exact this
theorem uv (w:World) (g:Nat) (z:Int) (y:Nat) (hz:z=y) (hy:y < 4294967296) (hb:Blk w g 173 #[.int .u32 z]) :
 Calls Tryz.prog 156 #[.slice (some ⟨g,0,none⟩) 1 1] w (fm w (am y)):=by
 subst hz;have h1:Wd w (some ⟨g,0,none⟩) 1 1 [y]:=Blk.wdN (l:=[y]) hb (by intro x hx;simp at hx;omega) rfl;have:=eH w (some ⟨g,0,none⟩) 1 1 [y] h1 (by omega);rw [show val [y]=y by simp [val]] at this;exact this
theorem pN (w:World) (l:List UInt8) (hl:l.length≤65536) (hb:okZ l=true) :
 Calls Tryz.prog 113 #[ae l] w (iP w .nilIface (dT l) l.length):=by
 have hsz:=aE l;have htl2:=sj l;have htl:=Nat.le_trans htl2 hl;obtain ⟨m,hm⟩:∃ m,bX l=m:=⟨_,rfl⟩;obtain ⟨t,ht⟩:∃ t,bI l=t:=⟨_,rfl⟩;obtain ⟨h0,h1,h2⟩:=sk hb;have hv:dT l=if m then -(ap t:Int) else ap t:=by unfold dT;rw [hm,ht]
 rw [hm,ht] at h2;rw [ht] at htl htl2 h0 h1;have HM:=Qh (And.intro hm ht);have HV:=Qh hv;have b0:Below w.heap.size w (w.alloc (.cells #[.bool false,.slice none 0 0] 134)):=(aa w).alloc Qr _;have x0:Blk (w.alloc (.cells #[.bool false,.slice none 0 0] 134)) w.heap.size 134 #[.bool false,.slice none 0 0]:=ak _ _ _ rfl;clear hb hm ht hv;obtain ⟨c,r,rfl⟩:=List.exists_cons_of_ne_nil h0;have htl0:=aV (c :: r);have htl1:=aV [];have hsz0:=aE (c :: r);have HX:=Qh (wZ.2 h1);have HTL:=Qh (show (c :: r:List UInt8).length≤1000000 by omega);have HALL:=Qh h1
 have hcase:c≠48∨(c=48∧r=[]∧m=false):=by
  by_cases hc:c=48
  ·refine .inr ⟨hc,?_,?_⟩
   ·cases r with
    | nil=>rfl
    | cons d rs=>exact absurd ⟨by rw [hc];rfl,.inl (by simp)⟩ h2
   cases m with
   | false=>rfl
   | true=>exact absurd ⟨by rw [hc];rfl,.inr rfl⟩ h2
  exact .inl hc
 have HLL:=Qh htl
 have HSZ:=Qh (show (dT l).natAbs < 4294967296 ^ l.length by
  rw [HV.out]
  refine Nat.lt_of_lt_of_le (show (if m=true then -(ap (c :: r):Int) else (ap (c :: r):Int)).natAbs < 4294967296 ^ (c :: r).length by
   have:=mG h1
   split <;> omega) (Nat.pow_le_pow_right (by omega) htl2))
 clear h0 h1 h2;rcases hcase with hc | ⟨rfl,rfl,rfl⟩
 ·have hcn:c.toNat≠48:=fun e=>hc (UInt8.toNat.inj e)
  have hcz:¬ (c.toNat:Int)=48:=by omega
  have hcb:((c.toNat:Int) == 48)=false:=by simp;omega
  have hget:∀ h,(⟨(c :: r).toArray⟩:ByteArray)[0]'h=c:=fun h=>rfl
  go_in
  go_wp2_with (first
   | (go_at_call 148;(with_reducible refine (bA _ l _ HM.out.1).mono ?_);rintro e w1 ⟨rfl,hb1⟩;have b1:=b0.trans (hb1.mono b0.size);have x1:=x0.below hb1 x0.lt)
   | (go_at_call 153;(with_reducible refine (lW _ l _ HM.out.2).mono ?_);rintro e w2 ⟨rfl,hb2⟩;have b2:=b1.trans (hb2.mono b1.size);have x2:=x1.below hb2 x1.lt)
   | (go_at_call 154;(with_reducible refine (up _ _ [] ?_ HX.out).mono ?_);(exact HTL.out);rintro e w3 ⟨rfl,hb3⟩;have b3:=b2.trans (hb3.mono b2.size);have x3:=x2.below hb3 x2.lt))
  clear hget hcz hcb hcn hc htl0 htl1 hsz0;go_loopw [5,6] (fun tv mv wr=>ur (c :: r) w3 wr tv mv) (fun tv _ _=>ut tv)
  case atStart=>exact ⟨[],(c :: r),none,0,0,rfl,rfl,by omega,HLL.out,⟨lx.start _,rfl,HALL.out,by rw [show ap []=0 from rfl,av];exact Wd.nil_ _⟩,aa _⟩
  case round =>
   obtain ⟨pre,rest,A1,n1,c1,rfl,rfl,hn1,hrl,hK,rr⟩:=hrel;have bw:=b3.trans (rr.mono b3.size);have x4:=x3.below rr x3.lt;by_cases hr0:rest=[]
   ·subst hr0
    have hpre:=hK.1.fin;subst hpre;have hsz1:=aE [];go_wp2_with (go_at_call 140;(with_reducible refine (fY _ m A1 n1 c1 (am (ap (c :: r))) ?_ ?_).mono ?_);(exact hK.2.2.2);omega;rintro e w5 ⟨A5,n5,c5,rfl,h5,hb5⟩;have b5:=bw.trans (hb5.mono bw.size);have x5:=x4.below hb5 x4.lt;obtain ⟨d0,d1⟩:=x5.c2;obtain ⟨f0,f1⟩:=x5.f2);rw [ag] at h5;have hz:sgn m (ap (c :: r))=dT l:=by rw [HV.out];rfl
    rw [hz] at h5;refine bodyPost_ret (v:=.tuple #[.agg #[.bool _,.slice A5 n5 c5],.nilIface]) (by simp [results,Tryz.results113,go_sem, *] <;> trivial) rfl ?_;exact ⟨_,_,_,_,rfl,IV.mk_ (h5.keep (kp2 x5.box (by decide) _ _ _ _)) (by rw [ag,hz]) HSZ.out,(b5.setCell (by dsimp only;omega) _).setCell (by dsimp only;omega) _⟩
   have hlp:0 < rest.length:=List.length_pos_iff.2 hr0;obtain ⟨L,hL⟩:∃ L,rest.length=L:=⟨_,rfl⟩;obtain ⟨k,hk⟩:∃ k,(L - 1) % 9=k:=⟨_,rfl⟩;have hk9:k < 9:=by rw [← hk];exact Nat.mod_lt _ (by omega)
   have hst:=hK.1.step (n:=k+1) hlp (by rw [hL,hk]);rw [hL] at hst hlp hrl;have hkL:=hst.1;have hsz1:(⟨rest.toArray⟩:ByteArray).size=L:=hL;have e1:((L:Int) - 1) % 9=(k:Int):=by omega
   have e2:(⟨rest.toArray⟩:ByteArray).extract 0 (k+1)=⟨(rest.take (k+1)).toArray⟩:=by rw [lV];simp
   have e3:(⟨rest.toArray⟩:ByteArray).extract (k+1) L=⟨(rest.drop (k+1)).toArray⟩:=by rw [lV,List.take_of_length_le];rw [List.length_drop,hL];exact Qr
   obtain ⟨x,hx⟩:∃ x,ap (rest.take (k+1))=x:=⟨_,rfl⟩;have htk:=oc hK.2.2.1 (k+1)
   have hx9:x < 1000000000:=by
    have h9:=dK htk;rw [hx] at h9;refine Nat.lt_of_lt_of_le h9 (Nat.le_trans (Nat.pow_le_pow_right (by omega) (show (rest.take (k+1)).length≤9 by rw [List.length_take];omega)) (by decide))
   have hpd:=od hK.2.2.1 (k+1);have HST:=Qh hst;have HXX:=Qh hx;have HTK:=Qh htk;have HLR:=Qh hL;have hnd:(rest.drop (k+1)).length=L - (k+1):=by rw [List.length_drop,hL]
   have HND:=Qh hnd;have hT1:(rest.take (k+1)).length≤9:=by rw [List.length_take];omega
   have hT0:rest.take (k+1)≠[]:=fun e=>by have:=congrArg List.length e;rw [List.length_take,hL] at this;simp at this;omega
   have HT1:=Qh (And.intro hT1 hT0);have hpl:=dK (show (pre ++ rest.take (k+1)).all aM=true by rw [List.all_append,hK.2.1,htk];rfl);clear hk hst hx htk hL hr0 hnd hT1 hT0
   go_wp2_with (first
    | (go_at_call 155;(with_reducible refine (uq _ (rest.take (k+1)) x ?_ ?_ ?_ HXX.out).mono ?_);(exact HT1.out.1);(exact HT1.out.2);(exact HTK.out);rintro e w5 ⟨rfl,hb5⟩;have b5:Below wr.heap.size wr (w5.alloc (.cells #[.int .u32 1000000000] 173)):=hb5.alloc hb5.size _;have y5:Blk (w5.alloc (.cells #[.int .u32 1000000000] 173)) w5.heap.size 173 #[.int .u32 1000000000]:=ak _ _ _ rfl)
    | (go_at_call 143;(with_reducible refine (qT _ A1 n1 c1 (ap pre) ?_ ?_ w5.heap.size 1000000000 1000000000 ?_ ?_ ?_).mono ?_);(exact hK.2.2.2.belw b5);omega;rfl;omega;(exact y5);rintro e w6 ⟨A6,n6,c6,rfl,h6,hb6⟩;have b6:=b5.trans (hb6.mono b5.size);have hn6:n6≤1000000000:=(by have h9:=h6.2.1;rw [h9];refine Nat.le_trans (ar (k:=n1+1) ?_) (by omega);have h8:=(hK.2.2.2).vlt Qr;rw [ag] at h8;rw [Nat.pow_succ];exact Nat.mul_lt_mul'' h8 (by omega)))
    | (go_at_call 156;(with_reducible refine (uv _ w6.heap.size (x:Int) x ?_ ?_ ?_).mono ?_);(first | rfl | omega);omega;(exact ak _ _ _ rfl);rintro e w7 ⟨A7,n7,c7,rfl,h7,hb7⟩;have b7:Below wr.heap.size wr w7:=(b6.alloc b6.size _).trans (hb7.mono (by have:=b6.size;simp;omega));have h67:Below w6.heap.size w6 w7:=((aa w6).alloc Qr _).trans (hb7.mono (by simp));have hn7:n7≤1000000000:=(by have h9:=h7.2.1;rw [h9];exact Nat.le_trans (ar (k:=1) (by omega)) (by omega)))
    | (go_at_call 141;(with_reducible refine (uu _ A6 n6 c6 (ap pre * 1000000000) ?_ ?_ A7 n7 c7 x ?_ ?_).mono ?_);(exact h6.belw h67);omega;(exact h7);omega;rintro e w8 ⟨A8,n8,c8,rfl,h8,hb8⟩;have b8:=b7.trans (hb8.mono b7.size)))
   have hv8:ap pre * 1000000000+x=ap (pre ++ rest.take (k+1)):=by rw [HST.out.2.2.2.2,HXX.out]
   go_roundw
   case rel =>
    refine ⟨pre ++ rest.take (k+1),rest.drop (k+1),A8,n8,c8,rfl,rfl,?_,by rw [HND.out];omega,⟨HST.out.2.2.2.1,by rw [List.all_append,hK.2.1,HTK.out];rfl,hpd,by rw [← hv8];exact h8⟩,rr.trans (b8.mono rr.size)⟩;rw [h8.2.1,hv8];refine Nat.le_trans (ar (Nat.lt_of_lt_of_le hpl (mF _))) ?_;have h9:=congrArg List.length HST.out.2.2.2.1.1;rw [List.length_append] at h9;omega
   case measure =>
    show (rest.drop (k+1)).length < rest.length;rw [HND.out,HLR.out];omega
 go_in
 go_wp2_with (first
  | (go_at_call 148;(with_reducible refine (bA _ l _ HM.out.1).mono ?_);rintro e w1 ⟨rfl,hb1⟩;have b1:=b0.trans (hb1.mono b0.size);have x1:=x0.below hb1 x0.lt)
  | (go_at_call 153;(with_reducible refine (lW _ l _ HM.out.2).mono ?_);rintro e w2 ⟨rfl,hb2⟩;have b2:=b1.trans (hb2.mono b1.size);have x2:=x1.below hb2 x1.lt)
  | (go_at_call 154;(with_reducible refine (up _ _ [] ?_ HX.out).mono ?_);(exact HTL.out);rintro e w3 ⟨rfl,hb3⟩;have b3:=b2.trans (hb3.mono b2.size);have x3:=x2.below hb3 x2.lt))
 clear htl0 htl1;go_loopw [5,6] (fun tv mv wr=>ur [48] w3 wr tv mv) (fun tv _ _=>ut tv)
 case atStart=>exact ⟨[],[48],none,0,0,rfl,rfl,by omega,HLL.out,⟨lx.start _,rfl,HALL.out,by rw [show ap []=0 from rfl,av];exact Wd.nil_ _⟩,aa _⟩
 case round =>
  obtain ⟨pre,rest,A1,n1,c1,rfl,rfl,hn1,hrl,hK,rr⟩:=hrel;have bw:=b3.trans (rr.mono b3.size);have x4:=x3.below rr x3.lt;by_cases hr0:rest=[]
  ·subst hr0
   have hpre:=hK.1.fin;subst hpre;have hsz1:=aE [];go_wp2_with (go_at_call 140;(with_reducible refine (fY _ false A1 n1 c1 (am (ap [48])) ?_ ?_).mono ?_);(exact hK.2.2.2);omega;rintro e w5 ⟨A5,n5,c5,rfl,h5,hb5⟩;have b5:=bw.trans (hb5.mono bw.size);have x5:=x4.below hb5 x4.lt;obtain ⟨d0,d1⟩:=x5.c2;obtain ⟨f0,f1⟩:=x5.f2);rw [ag] at h5;have hz:sgn false (ap [48])=dT l:=by rw [HV.out];rfl
   rw [hz] at h5;refine bodyPost_ret (v:=.tuple #[.agg #[.bool _,.slice A5 n5 c5],.nilIface]) (by simp [results,Tryz.results113,go_sem, *] <;> trivial) rfl ?_;exact ⟨_,_,_,_,rfl,IV.mk_ (h5.keep (kp2 x5.box (by decide) _ _ _ _)) (by rw [ag,hz]) HSZ.out,(b5.setCell (by dsimp only;omega) _).setCell (by dsimp only;omega) _⟩
  have hlp:0 < rest.length:=List.length_pos_iff.2 hr0;obtain ⟨L,hL⟩:∃ L,rest.length=L:=⟨_,rfl⟩;obtain ⟨k,hk⟩:∃ k,(L - 1) % 9=k:=⟨_,rfl⟩;have hk9:k < 9:=by rw [← hk];exact Nat.mod_lt _ (by omega)
  have hst:=hK.1.step (n:=k+1) hlp (by rw [hL,hk]);rw [hL] at hst hlp hrl;have hkL:=hst.1;have hsz1:(⟨rest.toArray⟩:ByteArray).size=L:=hL;have e1:((L:Int) - 1) % 9=(k:Int):=by omega
  have e2:(⟨rest.toArray⟩:ByteArray).extract 0 (k+1)=⟨(rest.take (k+1)).toArray⟩:=by rw [lV];simp
  have e3:(⟨rest.toArray⟩:ByteArray).extract (k+1) L=⟨(rest.drop (k+1)).toArray⟩:=by rw [lV,List.take_of_length_le];rw [List.length_drop,hL];exact Qr
  obtain ⟨x,hx⟩:∃ x,ap (rest.take (k+1))=x:=⟨_,rfl⟩;have htk:=oc hK.2.2.1 (k+1)
  have hx9:x < 1000000000:=by
   have h9:=dK htk;rw [hx] at h9;refine Nat.lt_of_lt_of_le h9 (Nat.le_trans (Nat.pow_le_pow_right (by omega) (show (rest.take (k+1)).length≤9 by rw [List.length_take];omega)) (by decide))
  have hpd:=od hK.2.2.1 (k+1);have HST:=Qh hst;have HXX:=Qh hx;have HTK:=Qh htk;have HLR:=Qh hL;have hnd:(rest.drop (k+1)).length=L - (k+1):=by rw [List.length_drop,hL]
  have HND:=Qh hnd;have hT1:(rest.take (k+1)).length≤9:=by rw [List.length_take];omega
  have hT0:rest.take (k+1)≠[]:=fun e=>by have:=congrArg List.length e;rw [List.length_take,hL] at this;simp at this;omega
  have HT1:=Qh (And.intro hT1 hT0);have hpl:=dK (show (pre ++ rest.take (k+1)).all aM=true by rw [List.all_append,hK.2.1,htk];rfl);clear hk hst hx htk hL hr0 hnd hT1 hT0
  go_wp2_with (first
   | (go_at_call 155;(with_reducible refine (uq _ (rest.take (k+1)) x ?_ ?_ ?_ HXX.out).mono ?_);(exact HT1.out.1);(exact HT1.out.2);(exact HTK.out);rintro e w5 ⟨rfl,hb5⟩;have b5:Below wr.heap.size wr (w5.alloc (.cells #[.int .u32 1000000000] 173)):=hb5.alloc hb5.size _;have y5:Blk (w5.alloc (.cells #[.int .u32 1000000000] 173)) w5.heap.size 173 #[.int .u32 1000000000]:=ak _ _ _ rfl)
   | (go_at_call 143;(with_reducible refine (qT _ A1 n1 c1 (ap pre) ?_ ?_ w5.heap.size 1000000000 1000000000 ?_ ?_ ?_).mono ?_);(exact hK.2.2.2.belw b5);omega;rfl;omega;(exact y5);rintro e w6 ⟨A6,n6,c6,rfl,h6,hb6⟩;have b6:=b5.trans (hb6.mono b5.size);have hn6:n6≤1000000000:=(by have h9:=h6.2.1;rw [h9];refine Nat.le_trans (ar (k:=n1+1) ?_) (by omega);have h8:=(hK.2.2.2).vlt Qr;rw [ag] at h8;rw [Nat.pow_succ];exact Nat.mul_lt_mul'' h8 (by omega)))
   | (go_at_call 156;(with_reducible refine (uv _ w6.heap.size (x:Int) x ?_ ?_ ?_).mono ?_);(first | rfl | omega);omega;(exact ak _ _ _ rfl);rintro e w7 ⟨A7,n7,c7,rfl,h7,hb7⟩;have b7:Below wr.heap.size wr w7:=(b6.alloc b6.size _).trans (hb7.mono (by have:=b6.size;simp;omega));have h67:Below w6.heap.size w6 w7:=((aa w6).alloc Qr _).trans (hb7.mono (by simp));have hn7:n7≤1000000000:=(by have h9:=h7.2.1;rw [h9];exact Nat.le_trans (ar (k:=1) (by omega)) (by omega)))
   | (go_at_call 141;(with_reducible refine (uu _ A6 n6 c6 (ap pre * 1000000000) ?_ ?_ A7 n7 c7 x ?_ ?_).mono ?_);(exact h6.belw h67);omega;(exact h7);omega;rintro e w8 ⟨A8,n8,c8,rfl,h8,hb8⟩;have b8:=b7.trans (hb8.mono b7.size)))
  have hv8:ap pre * 1000000000+x=ap (pre ++ rest.take (k+1)):=by rw [HST.out.2.2.2.2,HXX.out]
  go_roundw
  case rel =>
   refine ⟨pre ++ rest.take (k+1),rest.drop (k+1),A8,n8,c8,rfl,rfl,?_,by rw [HND.out];omega,⟨HST.out.2.2.2.1,by rw [List.all_append,hK.2.1,HTK.out];rfl,hpd,by rw [← hv8];exact h8⟩,rr.trans (b8.mono rr.size)⟩;rw [h8.2.1,hv8];refine Nat.le_trans (ar (Nat.lt_of_lt_of_le hpl (mF _))) ?_;have h9:=congrArg List.length HST.out.2.2.2.1.1;rw [List.length_append] at h9;omega
  case measure =>
   show (rest.drop (k+1)).length < rest.length;rw [HND.out,HLR.out];omega
end Go.Proofs.YtndhgcfajlalhaaGreatDoor
namespace Bn
def ch (c:UInt8):Bool:=(decide (97≤c.toNat) && decide (c.toNat≤122)) || (decide (65≤c.toNat) && decide (c.toNat≤90))
def aY (c:UInt8):Bool:=ch c || aM c || c == 95
def cH (c:UInt8):Bool:=c == 123 || c == 125 || c == 59 || c == 46
def dU (c:UInt8):Bool:=c == 32 || c == 9 || c == 13
def bp:List UInt8→Nat
  | []=>0
  | c :: t=>if ch c then 1+(t.takeWhile aY).length else 0
def ci (r:List UInt8):Nat:=(r.takeWhile aM).length
def cj:List UInt8→Nat
  | 45 :: _=>1
  | _=>0
def dx:List UInt8→Nat
  | c :: t=>if (c == 46 || c == 47) && decide (0 < ci t) then 1+ci t else 0
  | []=>0
def bH (r:List UInt8):Nat:=if ci (r.drop (cj r))=0 then 0 else cj r+ci (r.drop (cj r))+dx (r.drop (cj r+ci (r.drop (cj r))))
def mI:List UInt8→Bool
  | c :: _=>ch c || c == 95 || c == 46 || c == 47
  | []=>false
inductive qU where
  | ok (kind n:Nat)
  | err (x:Nat)
def bc (r:List UInt8):qU:=match r with
  | []=>.err 2
  | c :: _=>if cH c then .ok 2 1 else if 0 < bp r then (if 24 < bp r then .err 5 else .ok 0 (bp r))
    else if bH r=0 then .err 2 else if 60 < bH r then .err 4 else if mI (r.drop (bH r)) then .err 2 else .ok 1 (bH r)
structure Tkn where
  kind:Nat
  text:List UInt8
  line:Nat
  col:Nat
deriving DecidableEq
inductive iR where
  | ok (l:List Tkn)
  | err (x:Nat)
def iR.push (t:Tkn):iR→iR
  | .ok l=>.ok (t :: l)
  | .err x=>.err x
def dG (r:List UInt8):Nat:=(r.takeWhile (fun c=>c != 10)).length
def toks:Nat→List UInt8→Nat→Nat→iR
  | 0,_,_,_=>.ok []
  | _+1,[],_,_=>.ok []
  | f+1,c :: t,line,col =>
    if c=10 then toks f t (line+1) 1
    else if dU c then toks f t line (col+1)
    else if c=37 then toks f ((c :: t).drop (dG (c :: t))) line (col+dG (c :: t))
    else match bc (c :: t) with
      | .err x=>.err x
      | .ok k n=>(toks f ((c :: t).drop n) line (col+n)).push ⟨k,(c :: t).take n,line,col⟩
theorem uw (p:UInt8→Bool) (l:List UInt8):(l.takeWhile p).length≤l.length:=(List.takeWhile_sublist p).length_le
theorem mJ (r:List UInt8):ci r≤r.length:=uw _ _
theorem kD:∀ (r:List UInt8),bp r≤r.length
 | []=>Qr
 | c :: t=>by
  rw [bp];have:=uw aY t;simp only [List.length_cons];split <;> omega
theorem ux:∀ (r:List UInt8),dx r≤r.length
 | []=>Qr
 | c :: t=>by
  rw [dx];have:=mJ t;simp only [List.length_cons];split <;> omega
theorem xg:∀ (r:List UInt8),cj r≤r.length
 | []=>Qr
 | c :: t=>by unfold cj;split <;> simp
theorem mK (r:List UInt8):bH r≤r.length:=by
 unfold bH;split
 ·omega
 have h1:=mJ (r.drop (cj r));have h2:=ux (r.drop (cj r+ci (r.drop (cj r))));have h3:=xg r;rw [List.length_drop] at h1 h2;omega
theorem mL (r:List UInt8):dG r≤r.length:=uw _ _
theorem iT {t:List UInt8}:0 < dG (37 :: t):=by unfold dG;simp
theorem eY {r:List UInt8}{k n:Nat}(h:bc r=.ok k n):0 < n∧n≤r.length:=by
 unfold bc at h;split at h
 ·cases h
 rename_i c t;split at h
 ·injection h with _ h;subst h;simp
 split at h
 ·split at h
  ·cases h
  injection h with _ h;subst h;exact ⟨by assumption,kD _⟩
 split at h
 ·cases h
 split at h
 ·cases h
 split at h
 ·cases h
 injection h with _ h;subst h;exact ⟨by omega,mK _⟩
theorem lX:∀ (f g:Nat) (r:List UInt8) (line col:Nat),r.length < f→r.length < g→toks f r line col=toks g r line col:=by
 intro f
 induction f with
 | zero=>intro g r _ _ h;omega
 | succ f ih =>
  intro g r line col hf hg
  cases g with
  | zero=>omega
  | succ g =>
   cases r with
   | nil=>rfl
   | cons c t =>
    simp only [List.length_cons] at hf hg;unfold toks;split
    ·exact ih g t _ _ (by omega) (by omega)
    split
    ·exact ih g t _ _ (by omega) (by omega)
    split
    ·rename_i h37
     subst h37;have h1:=iT (t:=t);have h2:=mL (37 :: t);simp only [List.length_cons] at h2;exact ih g _ _ _ (by rw [List.length_drop];simp only [List.length_cons];omega) (by rw [List.length_drop];simp only [List.length_cons];omega)
    split
    ·rfl
    rename_i k n h;have h1:=eY h;simp only [List.length_cons] at h1;rw [ih g _ _ _ (by rw [List.length_drop];simp only [List.length_cons];omega) (by rw [List.length_drop];simp only [List.length_cons];omega)]
def dV (s:List UInt8):iR:=toks (s.length+1) s 1 1
end Bn

/- Tokens of joined texts: plain. -/
namespace Bn
def xh (c:UInt8):Bool:=c == 32 || c == 9 || c == 10 || c == 13 || c == 37
def sm (e:List UInt8):Prop:=e=[]∨∃ c t,e=c :: t∧xh c=true
theorem kE {c:UInt8}(h:xh c=true):aY c=false∧aM c=false∧(c == 46)=false∧(c == 47)=false∧ch c=false∧(c == 95)=false:=by
 unfold xh at h;simp only [Bool.or_eq_true,beq_iff_eq] at h;rcases h with (((h | h) | h) | h) | h <;> subst h <;> decide
theorem ic {p:UInt8→Bool}:∀ (l:List UInt8),(l.takeWhile p).all p=true:=by
 intro l
 induction l with
 | nil=>rfl
 | cons x r ih =>
  rw [List.takeWhile_cons];split
  ·rename_i h;rw [List.all_cons,h,ih];rfl
  rfl
theorem kF {p:UInt8→Bool}:∀ {a:List UInt8}(e:List UInt8),a.all p=true→(∀ c t,e=c :: t→p c=false)→(a ++ e).takeWhile p=a:=by
 intro a
 induction a with
 | nil =>
  intro e _ he
  cases e with
  | nil=>rfl
  | cons c t=>rw [List.nil_append,List.takeWhile_cons,he c t rfl];rfl
 | cons x r ih =>
  intro e h he;rw [List.all_cons,Bool.and_eq_true] at h;rw [List.cons_append,List.takeWhile_cons,h.1,if_pos rfl,ih e h.2 he]
theorem fO (p:UInt8→Bool) (l:List UInt8):∃ d,l=l.takeWhile p ++ d∧(∀ c t,d=c :: t→p c=false):=by
 refine ⟨l.dropWhile p,(List.takeWhile_append_dropWhile).symm,fun c t h=>?_⟩
 induction l with
 | nil=>simp at h
 | cons x r ih =>
  rw [List.dropWhile_cons] at h;split at h
  ·exact ih h
  injection h with h1 _;subst h1;simp_all
theorem sm.np {e:List UInt8}(h:sm e) (c:UInt8) (t:List UInt8) (he:e=c :: t):xh c=true:=by
 rcases h with h | ⟨c',t',h,hs⟩
 ·rw [h] at he;cases he
 rw [h] at he;injection he with h1 _;rw [← h1];exact hs
theorem mM {l:List UInt8}(h:l.all aM=true):10 ∉ l:=fun h1=>by
 rw [List.all_eq_true] at h;exact absurd (h 10 h1) (by decide)
theorem sn (r:List UInt8):∃ M d,r=M ++ d∧dx r=M.length∧10 ∉ M∧∀ e,sm e→dx (M ++ e)=M.length∧(∀ c t,M ++ e=c :: t→aM c=false):=by
 have hs:∀ e,sm e→dx ([] ++ e)=0∧(∀ c t,([]:List UInt8) ++ e=c :: t→aM c=false):=by
  intro e he;rw [List.nil_append];refine ⟨?_,fun c t h=>(kE (he.np c t h)).2.1⟩
  cases e with
  | nil=>rfl
  | cons c t =>
   have:=kE (he.np c t rfl);rw [dx,this.2.2.1,this.2.2.2.1];rfl
 cases r with
 | nil=>exact ⟨[],[],rfl,rfl,by simp,hs⟩
 | cons c t =>
  by_cases h:((c == 46 || c == 47) && decide (0 < ci t))=true
  ·obtain ⟨d,h1,h2⟩:=fO aM t
   have h3:(c == 46 || c == 47)=true:=by rw [Bool.and_eq_true] at h;exact h.1
   have h4:0 < ci t:=by rw [Bool.and_eq_true,decide_eq_true_eq] at h;exact h.2
   refine ⟨c :: t.takeWhile aM,d,by rw [List.cons_append,← h1],?_,?_,?_⟩
   ·rw [dx,h,if_pos rfl,List.length_cons];unfold ci;omega
   ·intro h6
    rcases List.mem_cons.1 h6 with e | e
    ·subst e;exact absurd h3 (by decide)
    exact mM (ic t) e
   intro e he
   have h5:ci (t.takeWhile aM ++ e)=(t.takeWhile aM).length:=by
    unfold ci;rw [kF e (ic t) (fun c t h=>(kE (he.np c t h)).2.1)]
   refine ⟨?_,fun c' t' h'=>?_⟩
   ·rw [List.cons_append,dx,h5,h3]
    have:0 < (t.takeWhile aM).length:=h4;rw [if_pos (by simp;exact this),List.length_cons];omega
   injection h' with h6 _;subst h6;rw [Bool.or_eq_true,beq_iff_eq,beq_iff_eq] at h3;rcases h3 with e | e <;> subst e <;> decide
  have h':((c == 46 || c == 47) && decide (0 < ci t))=false:=by simpa using h
  exact ⟨[],c :: t,rfl,by rw [dx,h'];rfl,by simp,hs⟩
theorem pO {c:UInt8}{t:List UInt8}(h:aM c=true):cj (c :: t)=0:=by
 unfold cj;split
 ·rename_i h1;injection h1 with h1 _;subst h1;exact absurd h (by decide)
 rfl
theorem uy {r:List UInt8}(h:0 < bH r):∃ P d c t,r=P ++ d∧P.length=bH r∧P=c :: t∧(aM c=true∨c=45)∧10 ∉ P∧∀ e,sm e→bH (P ++ e)=P.length:=by
 have hk:0 < ci (r.drop (cj r)):=by
  rcases Nat.eq_zero_or_pos (ci (r.drop (cj r))) with e | e
  ·unfold bH at h;rw [if_pos e] at h;omega
  exact e
 obtain ⟨d0,e0,g0⟩:=fO aM (r.drop (cj r));obtain ⟨D,hD⟩:∃ D,(r.drop (cj r)).takeWhile aM=D:=⟨_,rfl⟩;have hDa:D.all aM=true:=by rw [← hD];exact ic _
 have hDl:ci (r.drop (cj r))=D.length:=by unfold ci;rw [hD]
 rw [hD] at e0;rw [hDl] at hk
 obtain ⟨x,D',hx⟩:∃ x D',D=x :: D':=by
  cases D with
  | nil=>simp at hk
  | cons x D'=>exact ⟨x,D',rfl⟩
 have hxd:aM x=true:=by rw [hx,List.all_cons,Bool.and_eq_true] at hDa;exact hDa.1
 have hdd:(r.drop (cj r)).drop D.length=d0:=by rw [e0];simp
 obtain ⟨M,d,e1,e2,e10,e3⟩:=sn d0
 have hn:bH r=cj r+D.length+M.length:=by
  unfold bH;rw [hDl,if_neg (by omega),← List.drop_drop,hdd,e2]
 have hmin:(cj r=0∧r=D ++ d0)∨(cj r=1∧r=45 :: (D ++ d0)):=by
  cases r with
  | nil=>simp [cj] at e0;left;exact ⟨rfl,by simpa using e0⟩
  | cons c t =>
   by_cases hc:c=45
   ·subst hc;right;refine ⟨rfl,?_⟩
    have:cj (45 :: t)=1:=rfl;rw [this] at e0;simp at e0;rw [← e0]
   left
   have:cj (c :: t)=0:=by
    unfold cj;split
    ·rename_i h1;injection h1 with h1 _;exact absurd h1 hc
    rfl
   refine ⟨this,?_⟩;rw [this] at e0;simpa using e0
 have key:∀ e,sm e→ci (D ++ (M ++ e))=D.length∧dx (M ++ e)=M.length:=by
  intro e he;obtain ⟨h1,h2⟩:=e3 e he;refine ⟨?_,h1⟩;unfold ci;rw [kF (M ++ e) hDa h2]
 rcases hmin with ⟨m0,hr⟩ | ⟨m1,hr⟩
 ·refine ⟨D ++ M,d,x,D' ++ M,by rw [hr,e1,List.append_assoc],by rw [hn,m0,List.length_append];omega,by rw [hx];rfl,.inl hxd,fun h=>by rcases List.mem_append.1 h with h | h;exact mM hDa h;exact e10 h,fun e he=>?_⟩
  obtain ⟨h1,h2⟩:=key e he;have hm:cj (D ++ M ++ e)=0:=by rw [hx];exact pO hxd
  unfold bH;rw [hm,List.drop_zero,List.append_assoc,h1,if_neg (by omega),Nat.zero_add,List.drop_left,h2,List.length_append]
 refine ⟨45 :: (D ++ M),d,45,D ++ M,by rw [hr,e1,List.cons_append,List.append_assoc],by rw [hn,m1,List.length_cons,List.length_append];omega,rfl,.inr rfl,fun h=>by rcases List.mem_cons.1 h with h | h;exact absurd h (by decide);rcases List.mem_append.1 h with h | h;exact mM hDa h;exact e10 h,fun e he=>?_⟩;obtain ⟨h1,h2⟩:=key e he;have hm:cj (45 :: (D ++ M) ++ e)=1:=rfl;unfold bH;rw [hm];rw [show (45 :: (D ++ M) ++ e).drop 1=D ++ (M ++ e) by simp];rw [h1,if_neg (by omega),← List.drop_drop];rw [show (45 :: (D ++ M) ++ e).drop 1=D ++ (M ++ e) by simp];rw [List.drop_left,h2,List.length_cons,List.length_append];omega
theorem pQ {r:List UInt8}{k n:Nat}(h:bc r=.ok k n):10 ∉ r.take n:=by
 unfold bc at h;split at h
 ·cases h
 rename_i c t;split at h
 ·rename_i hs
  injection h with h1 h2;subst h2;intro h3;have h4:(10:UInt8)=c:=by simpa using h3
  subst h4;exact absurd hs (by decide)
 split at h
 ·rename_i hw
  split at h
  ·cases h
  injection h with h1 h2
  have hl:ch c=true:=by
   rw [bp] at hw;split at hw
   ·assumption
   omega
  have hwn:bp (c :: t)=1+(t.takeWhile aY).length:=by rw [bp,hl,if_pos rfl]
  obtain ⟨d,e1,_⟩:=fO aY t
  have ht:(c :: t).take n=c :: t.takeWhile aY:=by
   rw [← h2,hwn,Nat.add_comm,List.take_succ_cons];congr 1;exact (congrArg (List.take _) e1).trans List.take_left
  rw [ht];intro h3;rcases List.mem_cons.1 h3 with e | e
  ·subst e;exact absurd hl (by decide)
  have:=ic (p:=aY) t;rw [List.all_eq_true] at this;exact absurd (this 10 e) (by decide)
 split at h
 ·cases h
 rename_i hn0;split at h
 ·cases h
 split at h
 ·cases h
 injection h with h1 h2;obtain ⟨P,d,x,P',e1,e2,e3,e4,e10,e5⟩:=uy (Nat.pos_of_ne_zero hn0);have hP:(c :: t).take n=P:=by rw [← h2,← e2,e1];exact List.take_left
 rw [hP];exact e10
end Bn

/- Tokens of joined texts, blanks and comments between them: plain. -/
namespace Bn
def tk (r:List UInt8) (line col:Nat):iR:=toks (r.length+1) r line col
theorem uz (line col:Nat):tk [] line col=.ok []:=rfl
theorem j9 (t:List UInt8) (line col:Nat):tk (10 :: t) line col=tk t (line+1) 1:=by
 unfold tk;rw [List.length_cons]
 conv=>lhs;unfold toks
 rw [if_pos rfl]
theorem sq {c:UInt8}(h:dU c=true):c≠10:=by
 rintro rfl;exact absurd h (by decide)
theorem iU {c:UInt8}(h:dU c=true) (t:List UInt8) (line col:Nat):tk (c :: t) line col=tk t line (col+1):=by
 unfold tk;rw [List.length_cons]
 conv=>lhs;unfold toks
 rw [if_neg (sq h),if_pos h]
theorem uA (t:List UInt8) (line col:Nat):tk (37 :: t) line col=tk ((37 :: t).drop (dG (37 :: t))) line (col+dG (37 :: t)):=by
 have h1:=iT (t:=t);have h2:=mL (37 :: t);unfold tk
 conv=>lhs;rw [List.length_cons];unfold toks
 rw [if_neg (by decide),if_neg (by decide),if_pos rfl];simp only [List.length_cons] at h2;refine lX _ _ _ _ _ ?_ ?_ <;> rw [List.length_drop,List.length_cons] <;> omega
theorem om {c:UInt8}{t:List UInt8}{k n:Nat}(h:bc (c :: t)=.ok k n):c≠10∧dU c=false∧c≠37:=by
 have key:∀ c:UInt8,cH c=false→ch c=false→aM c=false→c≠45→∀ t k n,bc (c :: t)≠.ok k n:=by
  intro c h1 h2 h3 h4 t k n h;have hw:bp (c :: t)=0:=by rw [bp,h2];rfl
  have hm:cj (c :: t)=0:=by
   unfold cj;split
   ·rename_i h5;injection h5 with h5 _;exact absurd h5 h4
   rfl
  have hn:bH (c :: t)=0:=by
   unfold bH;rw [hm,List.drop_zero,if_pos (by unfold ci;rw [List.takeWhile_cons,h3];rfl)]
  unfold bc at h;simp [h1,hw,hn] at h
 refine ⟨?_,?_,?_⟩
 ·rintro rfl;exact key 10 (by decide) (by decide) (by decide) (by decide) t k n h
 ·cases hb:dU c
  ·rfl
  exfalso;unfold dU at hb;simp only [Bool.or_eq_true,beq_iff_eq] at hb;rcases hb with (e | e) | e <;> subst e
  ·exact key 32 (by decide) (by decide) (by decide) (by decide) t k n h
  ·exact key 9 (by decide) (by decide) (by decide) (by decide) t k n h
  exact key 13 (by decide) (by decide) (by decide) (by decide) t k n h
 rintro rfl;exact key 37 (by decide) (by decide) (by decide) (by decide) t k n h
theorem pR {c:UInt8}{t:List UInt8}{k n:Nat}(h:bc (c :: t)=.ok k n) (line col:Nat) :
 tk (c :: t) line col=(tk ((c :: t).drop n) line (col+n)).push ⟨k,(c :: t).take n,line,col⟩:=by
 obtain ⟨h1,h2,h3⟩:=om h;have h4:=eY h;unfold tk
 conv=>lhs;rw [List.length_cons];unfold toks
 rw [if_neg h1,if_neg (by rw [h2];simp),if_neg h3,h];simp only [List.length_cons] at h4;dsimp only;rw [lX (t.length+1) (((c :: t).drop n).length+1) _ _ _ (by rw [List.length_drop,List.length_cons];omega) (by omega)]
theorem uB {c:UInt8}{t:List UInt8}{x:Nat}(h:bc (c :: t)=.err x) (h1:c≠10) (h2:dU c=false) (h3:c≠37) (line col:Nat):tk (c :: t) line col=.err x:=by
 unfold tk;rw [List.length_cons];unfold toks;rw [if_neg h1,if_neg (by rw [h2];simp),if_neg h3,h]
def oo (s:List UInt8):Prop:=∀ rest line col,∃ line' col',tk (s ++ rest) line col=tk rest line' col'
theorem oo.nil:oo []:=fun _ line col=>⟨line,col,rfl⟩
theorem oo.line {s:List UInt8}(h:oo s):oo (10 :: s):=fun rest line col=>by
 obtain ⟨a,b,e⟩:=h rest (line+1) 1;exact ⟨a,b,by rw [List.cons_append,j9,e]⟩
theorem oo.blank {c:UInt8}{s:List UInt8}(hc:dU c=true) (h:oo s):oo (c :: s):=fun rest line col=>by
 obtain ⟨a,b,e⟩:=h rest line (col+1);exact ⟨a,b,by rw [List.cons_append,iU hc,e]⟩
def shape:iR→Option (List (Nat × List UInt8))
  | .ok l=>some (l.map fun t=>(t.kind,t.text))
  | .err _=>none
theorem pS (t:Tkn) (x:iR):shape (x.push t)=(shape x).map ((t.kind,t.text) :: ·):=by
 cases x <;> rfl
end Bn

/- Every token stands at its place: plain. -/
namespace Bn
def oq (line col:Nat) (t:Tkn):Prop:=line < t.line∨(line=t.line∧col≤t.col)
theorem oq.mono {line col col':Nat}{t:Tkn}(h:oq line col' t) (hc:col≤col'):oq line col t:=by
 rcases h with h | ⟨h,h1⟩
 ·exact .inl h
 exact .inr ⟨h,Nat.le_trans hc h1⟩
theorem ig:∀ (f:Nat) (r:List UInt8) (line col:Nat) (l:List Tkn),toks f r line col=.ok l→∀ t∈l,oq line col t:=by
 intro f
 induction f with
 | zero=>intro r line col l h t ht;unfold toks at h;injection h with h;subst h;cases ht
 | succ f ih =>
  intro r line col l h t ht
  cases r with
  | nil=>unfold toks at h;injection h with h;subst h;cases ht
  | cons c s =>
   unfold toks at h;split at h
   ·rcases ih _ _ _ _ h t ht with e | ⟨e,_⟩
    ·exact .inl (by omega)
    exact .inl (by omega)
   split at h
   ·exact (ih _ _ _ _ h t ht).mono (by omega)
   split at h
   ·exact (ih _ _ _ _ h t ht).mono (by omega)
   split at h
   ·cases h
   rename_i k n hf
   cases hx:toks f ((c :: s).drop n) line (col+n) with
   | err x=>rw [hx] at h;cases h
   | ok l' =>
    rw [hx] at h;injection h with h;subst h;rcases List.mem_cons.1 ht with e | e
    ·subst e;exact .inr ⟨rfl,Qr⟩
    exact (ih _ _ _ _ hx t e).mono (by omega)
def PlI (s:List UInt8) (l:List Tkn) (i line col k left:Nat):Prop:=k≤l.length∧∃ u rest,s.drop i=u ++ rest∧10 ∉ u∧tk rest line (col+u.length)=.ok (l.drop k)∧(left=u.length∨left=0)
theorem PlI.start {s:List UInt8}{l:List Tkn}(h:dV s=.ok l):PlI s l 0 1 1 0 0:=⟨Nat.zero_le _,[],s,rfl,by simp,h,.inr rfl⟩
theorem PlI.fin {s:List UInt8}{l:List Tkn}{line col k left:Nat}(h:PlI s l s.length line col k left):k=l.length:=by
 obtain ⟨hk,u,rest,h1,_,h2,_⟩:=h;rw [List.drop_length] at h1;have h3:=List.append_eq_nil_iff.1 h1.symm;rw [h3.2,uz] at h2;injection h2 with h2;have:=congrArg List.length h2;rw [List.length_drop] at this;simp at this;omega
def lY (l:List Tkn) (line col k left:Nat):Bool:=decide (left=0) && (match l[k]? with | some t=>decide (t.line=line) && decide (t.col=col) | none=>false)
def eZ (c:UInt8) (line:Nat):Nat:=if c=10 then line+1 else line
def gq (c:UInt8) (col:Nat):Nat:=if c=10 then 1 else col+1
theorem kG {l:List Tkn}{line col k left:Nat}{line' col':Nat}(h:∀ t∈l.drop k,oq line' col' t) (hp:line < line'∨(line=line'∧col < col')):lY l line col k left=false:=by
 unfold lY
 cases hk:l[k]? with
 | none=>simp
 | some t =>
  have hm:t∈l.drop k:=by
   obtain ⟨h1,h2⟩:=List.getElem?_eq_some_iff.1 hk;rw [List.drop_eq_getElem_cons h1,h2];simp
  have:=h t hm
  have h3:¬ (t.line=line∧t.col=col):=by
   rintro ⟨a,b⟩;rcases this with e | ⟨e,e2⟩ <;> rcases hp with g | ⟨g,g2⟩ <;> omega
  simp only [Bool.and_eq_false_iff,decide_eq_false_iff_not];right;by_cases ha:t.line=line
  ·right;exact fun hb=>h3 ⟨ha,hb⟩
  left;exact ha
theorem PlI.inner {s:List UInt8}{l:List Tkn}{i line col k left:Nat}{c:UInt8}{t u rest:List UInt8}(hk:k≤l.length) (hd:s.drop i=c :: t) (h1:s.drop i=u ++ rest) (hu:10 ∉ u) (h2:tk rest line (col+u.length)=.ok (l.drop k)) (h3:left=u.length∨left=0) (hne:u≠[]) :
 lY l line col k left=false∧PlI s l (i+1) (eZ c line) (gq c col) k (left - 1):=by
 obtain ⟨x,u',rfl⟩:=List.exists_cons_of_ne_nil hne;have hx:x=c∧t=u' ++ rest:=by rw [hd] at h1;injection h1 with a b;exact ⟨a.symm,b⟩
 obtain ⟨rfl,ht⟩:=hx;have hx10:x≠10:=fun e=>hu (by rw [e];simp)
 rw [List.length_cons] at h2 h3;have hd1:s.drop (i+1)=t:=by rw [← List.drop_drop,hd];rfl
 refine ⟨kG (ig _ _ _ _ _ h2) (.inr ⟨rfl,by omega⟩),hk,u',rest,by rw [hd1,ht],fun h=>hu (by simp [h]),?_,by omega⟩;unfold eZ gq;rw [if_neg hx10,if_neg hx10,show col+1+u'.length=col+(u'.length+1) by omega];exact h2
theorem PlI.step {s:List UInt8}{l:List Tkn}{i line col k left:Nat}(h:PlI s l i line col k left) {c:UInt8}{t:List UInt8}(hd:s.drop i=c :: t) :
 (lY l line col k left=false∧PlI s l (i+1) (eZ c line) (gq c col) k (left - 1)) ∨
 (lY l line col k left=true∧∃ x,l[k]?=some x∧0 < x.text.length∧i+x.text.length≤s.length∧(s.drop i).take x.text.length=x.text∧PlI s l (i+1) (eZ c line) (gq c col) (k+1) (x.text.length - 1)):=by
 obtain ⟨hk,u,rest,h1,hu,h2,h3⟩:=h;by_cases hne:u=[]
 ·subst hne
  rw [List.nil_append] at h1;rw [List.length_nil,Nat.add_zero] at h2;have hl0:left=0:=by rcases h3 with e | e <;> simpa using e
  subst hl0;have hd1:s.drop (i+1)=t:=by rw [← List.drop_drop,hd];rfl
  have hr:rest=c :: t:=by rw [← h1,hd]
  subst hr;by_cases h10:c=10
  ·subst h10
   rw [j9] at h2;left;refine ⟨kG (ig _ _ _ _ _ h2) (.inl (by omega)),hk,[],t,by rw [hd1];rfl,by simp,?_,.inr rfl⟩;exact h2
  by_cases hb:dU c=true
  ·rw [iU hb] at h2
   left;refine ⟨kG (ig _ _ _ _ _ h2) (.inr ⟨rfl,by omega⟩),hk,[],t,by rw [hd1];rfl,by simp,?_,.inr rfl⟩;unfold eZ gq;rw [if_neg h10,if_neg h10];exact h2
  by_cases h37:c=37
  ·subst h37
   rw [uA] at h2;left;have hp:=iT (t:=t);have hle:=mL (37 :: t);have hlen:((37 :: t).take (dG (37 :: t))).length=dG (37 :: t):=by rw [List.length_take];omega
   refine PlI.inner hk hd (h1.trans (List.take_append_drop _ _).symm) ?_ (by rw [hlen];exact h2) (.inr rfl) (fun e=>by rw [e] at hlen;simp at hlen;omega);intro hm
   have:(37 :: t).take (dG (37 :: t))=(37 :: t).takeWhile (fun c=>c != 10):=by
    obtain ⟨d,e,_⟩:=fO (fun c=>c != 10) (37 :: t);exact (congrArg (List.take _) e).trans List.take_left
   rw [this] at hm;have h4:=ic (p:=fun c=>c != 10) (37 :: t);rw [List.all_eq_true] at h4;exact absurd (h4 10 hm) (by decide)
  cases hf:bc (c :: t) with
  | err x=>rw [uB hf h10 (by simpa using hb) h37] at h2;cases h2
  | ok kk n =>
   rw [pR hf] at h2;have hn:=eY hf
   cases hx:tk ((c :: t).drop n) line (col+n) with
   | err x=>rw [hx] at h2;cases h2
   | ok l' =>
    rw [hx] at h2;injection h2 with h2
    have hkl:k < l.length:=by
     rcases Nat.lt_or_ge k l.length with e | e
     ·exact e
     rw [List.drop_eq_nil_of_le e] at h2;cases h2
    rw [List.drop_eq_getElem_cons hkl] at h2;injection h2 with h4 h5;have hlt:((c :: t).take n).length=n:=by rw [List.length_take];omega
    right;have hg:l[k]?=some ⟨kk,(c :: t).take n,line,col⟩:=by rw [List.getElem?_eq_getElem hkl,h4]
    have hlen:i+n≤s.length:=by
     have:=congrArg List.length hd;rw [List.length_drop] at this;have h7:(c :: t).length≤s.length - i:=by omega
     have h8:0 < (c :: t).length:=by simp
     omega
    refine ⟨?_,⟨kk,(c :: t).take n,line,col⟩,hg,by dsimp only;omega,by dsimp only;omega,by dsimp only;rw [hlt,hd],?_⟩
    ·unfold lY;rw [hg];simp
    dsimp only;rw [hlt];obtain ⟨m,rfl⟩:∃ m,n=m+1:=⟨n - 1,by omega⟩;have hno:=pQ hf;rw [List.take_succ_cons] at hno;refine ⟨by omega,t.take m,t.drop m,by rw [hd1,List.take_append_drop],fun h=>hno (by simp [h]),?_,.inl ?_⟩
    ·unfold eZ gq
     rw [if_neg h10,if_neg h10];have hm:(t.take m).length=m:=by rw [List.length_take];simp at hn;omega
     rw [hm,← h5];rw [List.drop_succ_cons] at hx;rw [show col+1+m=col+(m+1) by omega];exact hx
    rw [List.length_take];simp at hn;omega
 exact .inl (PlI.inner hk hd h1 hu h2 h3 hne)
end Bn

/- Walks: tokens: what a byte is. -/
namespace Go.Proofs.YtndhgcfajlalhaaGreatDoor
open Go Go.RowKit Bn
attribute [local go_sem ↓] Go.wp_at_zero Go.wp_at_succ
theorem ka (c d:UInt8):(c == d)=decide (c.toNat=d.toNat):=by
 by_cases h:c=d
 ·subst h;simp
 rw [beq_eq_false_iff_ne.2 h,decide_eq_false (fun e=>h (UInt8.toNat.inj e))]
theorem lZ (c:UInt8):ch c=((decide (97≤c.toNat) && decide (c.toNat≤122)) || (decide (65≤c.toNat) && decide (c.toNat≤90))):=rfl
theorem ot (c:UInt8):aM c=(decide (48≤c.toNat) && decide (c.toNat≤57)):=rfl
theorem l8 (c:UInt8):cH c=(decide (c.toNat=123) || decide (c.toNat=125) || decide (c.toNat=59) || decide (c.toNat=46)):=by unfold cH;rw [ka,ka,ka,ka];rfl
theorem cw (w:World) (c:UInt8) (v:Bool) (hv:ch c=v):Calls Tryz.prog 134 #[.int .u8 (c.toNat:Nat)] w (aB w (.bool v)):=by
 have hc:c.toNat < 256:=c.toNat_lt;obtain ⟨n,hn⟩:∃ n,c.toNat=n:=⟨_,rfl⟩;rw [hn] at hc ⊢;have hd:v=((decide (97≤n) && decide (n≤122)) || (decide (65≤n) && decide (n≤90))):=by rw [← hv,lZ,hn]
 clear hv;rcases (show (0≤n∧n≤64)∨(65≤n∧n≤90)∨(91≤n∧n≤96)∨(97≤n∧n≤122)∨(123≤n∧n≤255) by omega) with ⟨ha,hb⟩ | ⟨ha,hb⟩ | ⟨ha,hb⟩ | ⟨ha,hb⟩ | ⟨ha,hb⟩
 ·have ege97:((97:Int)≤(n:Int))=False:=by simp;omega
  have ele122:((n:Int)≤122)=True:=by simp;omega
  have ege65:((65:Int)≤(n:Int))=False:=by simp;omega
  have ele90:((n:Int)≤90)=True:=by simp;omega
  obtain rfl:v=false:=by rw [hd];simp;omega
  clear hd hn;go_in;go_wp2;go_ret;exact cQ rfl (aa w)
 ·have ege97:((97:Int)≤(n:Int))=False:=by simp;omega
  have ele122:((n:Int)≤122)=True:=by simp;omega
  have ege65:((65:Int)≤(n:Int))=True:=by simp;omega
  have ele90:((n:Int)≤90)=True:=by simp;omega
  obtain rfl:v=true:=by rw [hd];simp;omega
  clear hd hn;go_in;go_wp2;go_ret;exact cQ rfl (aa w)
 ·have ege97:((97:Int)≤(n:Int))=False:=by simp;omega
  have ele122:((n:Int)≤122)=True:=by simp;omega
  have ege65:((65:Int)≤(n:Int))=True:=by simp;omega
  have ele90:((n:Int)≤90)=False:=by simp;omega
  obtain rfl:v=false:=by rw [hd];simp;omega
  clear hd hn;go_in;go_wp2;go_ret;exact cQ rfl (aa w)
 ·have ege97:((97:Int)≤(n:Int))=True:=by simp;omega
  have ele122:((n:Int)≤122)=True:=by simp;omega
  have ege65:((65:Int)≤(n:Int))=True:=by simp;omega
  have ele90:((n:Int)≤90)=False:=by simp;omega
  obtain rfl:v=true:=by rw [hd];simp;omega
  clear hd hn;go_in;go_wp2;go_ret;exact cQ rfl (aa w)
 have ege97:((97:Int)≤(n:Int))=True:=by simp;omega
 have ele122:((n:Int)≤122)=False:=by simp;omega
 have ege65:((65:Int)≤(n:Int))=True:=by simp;omega
 have ele90:((n:Int)≤90)=False:=by simp;omega
 obtain rfl:v=false:=by rw [hd];simp;omega
 clear hd hn;go_in;go_wp2;go_ret;exact cQ rfl (aa w)
theorem iV (w:World) (c:UInt8) (v:Bool) (hv:aM c=v):Calls Tryz.prog 170 #[.int .u8 (c.toNat:Nat)] w (aB w (.bool v)):=by
 have hc:c.toNat < 256:=c.toNat_lt;obtain ⟨n,hn⟩:∃ n,c.toNat=n:=⟨_,rfl⟩;rw [hn] at hc ⊢;have hd:v=(decide (48≤n) && decide (n≤57)):=by rw [← hv,ot,hn]
 clear hv;rcases (show (0≤n∧n≤47)∨(48≤n∧n≤57)∨(58≤n∧n≤255) by omega) with ⟨ha,hb⟩ | ⟨ha,hb⟩ | ⟨ha,hb⟩
 ·have ege48:((48:Int)≤(n:Int))=False:=by simp;omega
  have ele57:((n:Int)≤57)=True:=by simp;omega
  obtain rfl:v=false:=by rw [hd];simp;omega
  clear hd hn;go_in;go_wp2;go_ret;exact cQ rfl (aa w)
 ·have ege48:((48:Int)≤(n:Int))=True:=by simp;omega
  have ele57:((n:Int)≤57)=True:=by simp;omega
  obtain rfl:v=true:=by rw [hd];simp;omega
  clear hd hn;go_in;go_wp2;go_ret;exact cQ rfl (aa w)
 have ege48:((48:Int)≤(n:Int))=True:=by simp;omega
 have ele57:((n:Int)≤57)=False:=by simp;omega
 obtain rfl:v=false:=by rw [hd];simp;omega
 clear hd hn;go_in;go_wp2;go_ret;exact cQ rfl (aa w)
def atB (s:List UInt8) (i:Nat):UInt8:=s.getD i 0
theorem dC {s:List UInt8}{i:Nat}(h:i < s.length):atB s i=s[i]:=by unfold atB;rw [List.getD_eq_getElem?_getD,List.getElem?_eq_getElem h];rfl
theorem fq {s:List UInt8}{i:Nat}(h:s.length≤i):atB s i=0:=by unfold atB;rw [List.getD_eq_getElem?_getD,List.getElem?_eq_none h];rfl
theorem bt {s:List UInt8}{i:Nat}(h:i < s.length):s.drop i=atB s i :: s.drop (i+1):=by rw [dC h];exact List.drop_eq_getElem_cons h
theorem qV {p:UInt8→Bool}{s:List UInt8}{i:Nat}(hp:p 0=false) (h:p (atB s i)=true):i < s.length∧((s.drop i).takeWhile p).length=1+((s.drop (i+1)).takeWhile p).length:=by
 have hl:i < s.length:=by
  rcases Nat.lt_or_ge i s.length with x | x
  ·exact x
  rw [fq x,hp] at h;cases h
 refine ⟨hl,?_⟩;rw [bt hl,List.takeWhile_cons,if_pos h,List.length_cons];omega
theorem kb {p:UInt8→Bool}{s:List UInt8}{i:Nat}(h:p (atB s i)=false):((s.drop i).takeWhile p).length=0:=by
 rcases Nat.lt_or_ge i s.length with x | x
 ·rw [bt x,List.takeWhile_cons,if_neg (by rw [h];decide)];rfl
 rw [List.drop_eq_nil_of_le x];rfl
theorem uC {s:List UInt8}{i:Nat}(h:ch (atB s i)=true):i < s.length∧bp (s.drop i)=1+((s.drop (i+1)).takeWhile aY).length:=by
 have hl:i < s.length:=by
  rcases Nat.lt_or_ge i s.length with x | x
  ·exact x
  rw [fq x] at h;cases h
 refine ⟨hl,?_⟩;rw [bt hl,bp,if_pos h]
theorem ox {s:List UInt8}{i:Nat}(h:ch (atB s i)=false):bp (s.drop i)=0:=by
 rcases Nat.lt_or_ge i s.length with x | x
 ·rw [bt x,bp,if_neg (by rw [h];decide)]
 rw [List.drop_eq_nil_of_le x];rfl
theorem uD {c:UInt8}(h:ch c=true):aY c=true:=by unfold aY;rw [h];rfl
theorem uE {c:UInt8}(h:aM c=true):aY c=true:=by unfold aY;rw [h,Bool.or_true];rfl
theorem uF {c:UInt8}(h:(c == 95)=true):aY c=true:=by unfold aY;rw [h,Bool.or_true]
theorem uG {c:UInt8}(h1:ch c=false) (h2:aM c=false) (h3:(c == 95)=false):aY c=false:=by unfold aY;rw [h1,h2,h3];rfl
theorem aD (c d:UInt8):(((c.toNat:Nat):Int) == ((d.toNat:Nat):Int))=(c == d):=by
 by_cases h:c=d
 ·subst h;simp
 rw [beq_eq_false_iff_ne.2 h,beq_eq_false_iff_ne];intro e;exact h (UInt8.toNat.inj (by omega))
theorem uH (w:World) (c:UInt8) (v:Bool) (hv:aY c=v):Calls Tryz.prog 135 #[.int .u8 (c.toNat:Nat)] w (aB w (.bool v)):=by
 cases hl:ch c
 ·cases hd:aM c
  ·cases hu:(c == 95)
   ·obtain rfl:v=false:=by rw [← hv];exact uG hl hd hu
    have h95:(((c.toNat:Nat):Int) == 95)=false:=(aD c 95).trans hu;clear hv hu;go_in;go_wp2_with fail;(with_reducible refine (cw _ c false hl).mono ?_);rintro e w1 ⟨rfl,q1⟩;have bw1:=(aa w).trans (q1.mono (aa w).size);have lw1:=q1.size;clear q1;go_wp2_with fail;(with_reducible refine (iV _ c false hd).mono ?_);rintro e w2 ⟨rfl,q2⟩;have bw2:=bw1.trans (q2.mono bw1.size);have lw2:=q2.size;clear q2 bw1;go_wp2;go_ret;exact cQ rfl bw2
   obtain rfl:v=true:=by rw [← hv];exact uF hu
   have h95:(((c.toNat:Nat):Int) == 95)=true:=(aD c 95).trans hu;clear hv hu;go_in;go_wp2_with fail;(with_reducible refine (cw _ c false hl).mono ?_);rintro e w1 ⟨rfl,q1⟩;have bw1:=(aa w).trans (q1.mono (aa w).size);have lw1:=q1.size;clear q1;go_wp2_with fail;(with_reducible refine (iV _ c false hd).mono ?_);rintro e w2 ⟨rfl,q2⟩;have bw2:=bw1.trans (q2.mono bw1.size);have lw2:=q2.size;clear q2 bw1;go_wp2;go_ret;exact cQ rfl bw2
  obtain rfl:v=true:=by rw [← hv];exact uE hd
  clear hv;go_in;go_wp2_with fail;(with_reducible refine (cw _ c false hl).mono ?_);rintro e w1 ⟨rfl,q1⟩;have bw1:=(aa w).trans (q1.mono (aa w).size);have lw1:=q1.size;clear q1;go_wp2_with fail;(with_reducible refine (iV _ c true hd).mono ?_);rintro e w2 ⟨rfl,q2⟩;have bw2:=bw1.trans (q2.mono bw1.size);have lw2:=q2.size;clear q2 bw1;go_wp2;go_ret;exact cQ rfl bw2
 obtain rfl:v=true:=by rw [← hv];exact uD hl
 clear hv;go_in;go_wp2_with fail;(with_reducible refine (cw _ c true hl).mono ?_);rintro e w1 ⟨rfl,q1⟩;have bw1:=(aa w).trans (q1.mono (aa w).size);have lw1:=q1.size;clear q1;go_wp2;go_ret;exact cQ rfl bw1
theorem uI (w:World) (s:List UInt8) (i:Nat) (hi:i≤s.length) (hs:s.length < 4611686018427387904) (v:Nat) (hv:ci (s.drop i)=v):Calls Tryz.prog 149 #[ae s,.int .i64 (i:Nat)] w (aB w (.int .i64 (v:Nat))):=by
 have HV:Hid (0+((s.drop (i+0)).takeWhile aM).length=v):=Qh (by rw [← hv,Nat.zero_add];rfl);have hszs:=aE s;clear hv;go_in;go_wp2_with fail;go_loopw [5] (fun iv wr=>∃ (j:Nat),iv=.int .i64 (j:Nat)∧i+j≤s.length∧Hid (j+((s.drop (i+j)).takeWhile aM).length=v)∧Kp w wr∧Below w.heap.size w wr∧w.heap.size≤wr.heap.size) (fun iv _=>s.length - (intOf iv).toNat)
 case atStart=>exact ⟨0,rfl,hi,HV,Kp.refl _,(aa w),Qr⟩
 case round =>
  obtain ⟨j,rfl,hj,hw,hkp,hbw,hlw⟩:=hrel;have hw1:IntKind.i64.wrap ((i:Int)+(j:Int))=(i:Int)+(j:Int):=IntWalk.i64_in _ ⟨by omega,by omega⟩;rcases Nat.lt_or_ge (i+j) s.length with hl | hl
  ·obtain ⟨d,hd⟩:∃ d,atB s (i+j)=d:=⟨_,rfl⟩
   have hi0:(0:Int)≤(i:Int)+(j:Int):=by omega
   have hi1:(i:Int)+(j:Int) < (s.length:Int):=by omega
   have et:((i:Int)+(j:Int)).toNat=i+j:=by omega
   have hget:∀ h,(⟨s.toArray⟩:ByteArray)[i+j]'h=d:=fun h=>by rw [← hd];exact (dC hl).symm
   cases hg:aM d
   ·have hjv:j=v:=by rw [← hw.out,kb (p:=aM) (by rw [hd];exact hg)];rfl
    subst hjv;clear hd;go_wp2_with fail;(with_reducible refine (iV _ d false hg).mono ?_);rintro e w1 ⟨rfl,q1⟩;replace hkp:=hkp.below q1;have bw1:=hbw.trans (q1.mono hbw.size);have lw1:=q1.size;clear q1;go_wp2;go_ret;exact ⟨rfl,bw1⟩
   obtain ⟨_,hst⟩:=qV (p:=aM) (s:=s) (i:=i+j) rfl (by rw [hd];exact hg);have hw2:Hid (j+1+((s.drop (i+(j+1))).takeWhile aM).length=v):=Qh (by rw [← hw.out,hst,Nat.add_assoc i j 1];omega);clear hst hd;go_wp2_with fail;(with_reducible refine (iV _ d true hg).mono ?_);rintro e w1 ⟨rfl,q1⟩;replace hkp:=hkp.below q1;have bw1:=hbw.trans (q1.mono hbw.size);have lw1:=q1.size;clear q1;go_wp2_with fail;go_roundw
   case rel=>exact ⟨j+1,by go_num,by omega,hw2,hkp,bw1,by omega⟩
   case measure=>simp [intOf];omega
  have hjv:j=v:=by rw [← hw.out,kb (p:=aM) (by rw [fq hl];rfl)];rfl
  subst hjv;have hi1:((i:Int)+(j:Int) < (s.length:Int))=False:=by simp;omega
  go_wp2;go_ret;exact ⟨rfl,hbw⟩
theorem cT (w:World) (s:List UInt8) (hs:s.length < 4611686018427387904) (v:Nat) (hv:bp s=v):Calls Tryz.prog 94 #[ae s] w (aB w (.int .i64 (v:Nat))):=by
 have hszs:=aE s;rcases Nat.eq_zero_or_pos s.length with h0 | h0
 ·obtain rfl:s=[]:=List.eq_nil_of_length_eq_zero h0
  obtain rfl:0=v:=hv;clear hs;go_in;go_wp2;go_ret;exact ⟨rfl,(aa w)⟩
 obtain ⟨y,ys,hyy⟩:∃ y ys,s=y :: ys:=List.exists_cons_of_length_pos h0;have hBe:((⟨s.toArray⟩:ByteArray) == ⟨#[]⟩)=false:=by rw [hyy];rfl
 have hBl:(s == [])=false:=by rw [hyy];rfl
 have hBn:(s=[])=False:=by rw [hyy];simp
 clear hyy;obtain ⟨d,hd⟩:∃ d,atB s 0=d:=⟨_,rfl⟩;have hget:∀ h,(⟨s.toArray⟩:ByteArray)[0]'h=d:=fun h=>by rw [← hd];exact (dC h0).symm
 have hi1:(0:Int) < (s.length:Int):=by omega
 cases hl:ch d
 ·obtain rfl:0=v:=by rw [← hv];exact (ox (s:=s) (i:=0) (by rw [hd];exact hl)).symm
  clear hd hv;go_in;go_wp2_with fail;(with_reducible refine (cw _ d false hl).mono ?_);rintro e w1 ⟨rfl,q1⟩;have bw1:=(aa w).trans (q1.mono (aa w).size);have lw1:=q1.size;clear q1;go_wp2;go_ret;exact ⟨rfl,bw1⟩
 have HV:Hid (1+((s.drop 1).takeWhile aY).length=v):=Qh (by rw [← hv];exact ((uC (s:=s) (i:=0) (by rw [hd];exact hl)).2).symm);clear hv hd;go_in;go_wp2_with fail;(with_reducible refine (cw _ d true hl).mono ?_);rintro e w1 ⟨rfl,q1⟩;have bw1:=(aa w).trans (q1.mono (aa w).size);have lw1:=q1.size;clear q1;go_wp2_with fail;clear hget hl hi1 hBe hBl hBn;go_loopw [3] (fun iv wr=>∃ (j:Nat),iv=.int .i64 (j:Nat)∧j≤s.length∧Hid (j+((s.drop j).takeWhile aY).length=v)∧Kp w1 wr∧Below w.heap.size w wr∧w1.heap.size≤wr.heap.size) (fun iv _=>s.length - (intOf iv).toNat)
 case atStart=>exact ⟨1,rfl,h0,HV,Kp.refl _,bw1,Qr⟩
 case round =>
  obtain ⟨j,rfl,hj,hw,hkp,hbw,hlw⟩:=hrel;rcases Nat.lt_or_ge j s.length with hl | hl
  ·obtain ⟨d,hd⟩:∃ d,atB s j=d:=⟨_,rfl⟩
   have hget:∀ h,(⟨s.toArray⟩:ByteArray)[j]'h=d:=fun h=>by rw [← hd];exact (dC hl).symm
   have hlt:j < s.length:=hl;cases hg:aY d
   ·have hjv:j=v:=by rw [← hw.out,kb (p:=aY) (by rw [hd];exact hg)];rfl
    subst hjv;clear hd;go_wp2_with fail;(with_reducible refine (uH _ d false hg).mono ?_);rintro e w2 ⟨rfl,q2⟩;replace hkp:=hkp.below q2;have bw2:=hbw.trans (q2.mono hbw.size);have lw2:=q2.size;clear q2;go_wp2;go_ret;exact ⟨rfl,bw2⟩
   obtain ⟨_,hst⟩:=qV (p:=aY) (s:=s) (i:=j) rfl (by rw [hd];exact hg);have hw2:Hid (j+1+((s.drop (j+1)).takeWhile aY).length=v):=Qh (by rw [← hw.out,hst];omega);clear hst hd;go_wp2_with fail;(with_reducible refine (uH _ d true hg).mono ?_);rintro e w2 ⟨rfl,q2⟩;replace hkp:=hkp.below q2;have bw2:=hbw.trans (q2.mono hbw.size);have lw2:=q2.size;clear q2;go_wp2_with fail;go_roundw
   case rel=>exact ⟨j+1,by go_num,by omega,hw2,hkp,bw2,by omega⟩
   case measure=>simp [intOf];omega
  have hjv:j=v:=by rw [← hw.out,kb (p:=aY) (by rw [fq hl];rfl)];rfl
  subst hjv;have hi1:((j:Int) < (s.length:Int))=False:=by simp;omega
  go_wp2;go_ret;exact ⟨rfl,hbw⟩
theorem aF (w:World) (s:List UInt8) (x:Int) (i:Nat) (hx:x=((i:Nat):Int)) (hi:i≤s.length) (hs:s.length < 4611686018427387904) (y:Int) (hy:((ci (s.drop i):Nat):Int)=y):Calls Tryz.prog 149 #[ae s,.int .i64 x] w (aB w (.int .i64 y)):=by
 subst hx hy;exact uI w s i hi hs _ rfl

theorem val_rep (m:Nat):val (List.replicate m 0)=0:=by
 induction m with
 | zero=>rfl
 | succ m ih=>rw [List.replicate_succ,val,ih]
theorem qW (m:Nat):Wds (List.replicate m 0):=by intro x hx;rw [List.eq_of_mem_replicate hx];omega
theorem oy (l:List Nat):(cellsOf l).toList=words l:=by simp [cellsOf,words]
theorem OwS.made (w:World) {B:Nat}(L:List Nat) (n:Nat) (hB:B≤w.heap.size) (hn:n≤4398046511104) (hL:L.length=n) (hW:Wds L):OwS (w.alloc (.cells (cellsOf L) 173)) B w.heap.size n n L:=by
 refine ⟨?_,hW⟩;rw [← oy];exact World.ownsRow_lit w (cellsOf L) n hB (by unfold maxLen;omega) (by simp [cellsOf,hL])
theorem OwS.far {w:World}{B g n cap:Nat}{l:List Nat}(h:OwS w B g n cap l) {p:Addr}(hp:g≠p.block) (u:Value):OwS (w.setCell p u) B g n cap l:=by
 refine ⟨⟨h.1.1,?_⟩,h.2⟩;rcases h.1.2 with ⟨e,_⟩ | ⟨g',c',cur,e,hB,hgg,r⟩
 ·cases e
 have e':=e;injection e with e1 _ e2;injection e1 with e1;injection e1 with e1;subst e1;exact .inr ⟨g,c',cur,e',hB,(Below.heap_setCell w p u g hp).trans hgg,r⟩
theorem xi {u p s:Nat}(hu:u+p < 4294967296) (ho:u ||| p=u+p) (hp:2 ^ s=p):bits .or .u32 (u:Int) ((2:Int) ^ s % 4294967296)=((u+p:Nat):Int):=by
 have e:(2:Int) ^ s % 4294967296=(p:Int):=by
  have h:(2:Int) ^ s=((2 ^ s:Nat):Int):=by simp
  rw [h,hp];omega
 rw [e,← ho];exact u32_or_nat u p (by omega) (by omega)
theorem Bt {q m:Nat}:(2 * q+1) * 2 ^ m=q * 2 ^ (m+1)+2 ^ m:=by rw [Nat.pow_succ];grind
theorem Al {q m:Nat}:(2 * q) * 2 ^ m=q * 2 ^ (m+1):=by rw [Nat.pow_succ];grind
def Bv (a b:Nat) (Lq Lr:List Nat) (k:Nat):Prop:=val Lq=a / 2 ^ k / b * 2 ^ k∧val Lr=a / 2 ^ k % b
theorem pT (w:World) (A n c l) (wa:Wd w A n c l) (hn:n≤1000000000000) (A' n' c' l') (wb:Wd w A' n' c' l') (hn':n'≤1000000000000) (h0:val l'≠0) :
 Calls Tryz.prog 162 #[.slice A n c,.slice A' n' c'] w (pE w (val l) (val l')):=by
 have HL:=Qh wa.2.1;have HL':=Qh wb.2.1;obtain ⟨va,hva⟩:∃ v,val l=v:=⟨_,rfl⟩;obtain ⟨vb,hvb⟩:∃ v,val l'=v:=⟨_,rfl⟩;have HA:=Qh hva;have HB:=Qh hvb;rw [hvb] at h0;have H0:=Qh (Nat.pos_of_ne_zero h0);rw [hva,hvb]
 obtain ⟨gb,ob,rfl,hgb,_⟩:=wb.at2 (by
  rcases Nat.eq_zero_or_pos n' with e | e
  ·exfalso
   have h9:=HL'.out;rw [e] at h9;rw [List.eq_nil_of_length_eq_zero h9.symm] at hvb;exact h0 hvb.symm
  exact e)
 clear h0 hva hvb;go_in
 go_wp2_with (first
  | (at_make;refine aL _ rfl _ _ rfl _ _ _ _ n rfl rfl (by omega) (by omega) (by omega) ?_)
  | (at_make;refine aL _ rfl _ _ rfl _ _ _ _ (n'+1) rfl rfl (by omega) (by omega) (by omega) ?_))
 (with_reducible refine (um _ A n c l ?_ (by omega)).mono ?_);(exact wa.keep (((Kp.refl w).alloc _).alloc _));rintro e w1 ⟨N,rfl,hN1,hN2,rfl⟩;rw [HA.out] at hN1;go_wp2_with fail
 have oq0:OwS ((w.alloc (.cells (cellsOf (List.replicate n 0)) 173)).alloc (.cells (cellsOf (List.replicate (n'+1) 0)) 173)) w.heap.size w.heap.size n n (List.replicate n 0) :=
  (OwS.made w (List.replicate n 0) n Qr (by omega) (by simp) (qW n)).belw ((aa _).alloc Qr _)
 have or0:OwS ((w.alloc (.cells (cellsOf (List.replicate n 0)) 173)).alloc (.cells (cellsOf (List.replicate (n'+1) 0)) 173)) w.heap.size (w.heap.size+1) (n'+1) (n'+1) (List.replicate (n'+1) 0):=by
  have h:=OwS.made (w.alloc (.cells (cellsOf (List.replicate n 0)) 173)) (B:=w.heap.size) (List.replicate (n'+1) 0) (n'+1) (by simp) (by omega) (by simp) (qW _);simpa using h
 have HO:=Qh (And.intro oq0 or0);clear oq0 or0;go_loopw [8] (fun iv wr=>∃ (k:Nat) (z:Int) (Lq Lr:List Nat),k≤N∧iv=.int .i64 z∧z+1=(k:Int)∧Bv va vb Lq Lr k∧OwS wr w.heap.size w.heap.size n n Lq∧OwS wr w.heap.size (w.heap.size+1) (n'+1) (n'+1) Lr∧Below w.heap.size w wr) (fun iv _=>(intOf iv+1).toNat)
 case atStart =>
  refine ⟨N,(N:Int) - 1,_,_,Qr,by go_num,by omega,⟨?_,?_⟩,HO.out.1,HO.out.2,((aa w).alloc Qr _).alloc (by simp) _⟩
  ·rw [val_rep,Nat.div_eq_of_lt hN1];simp
  rw [val_rep,Nat.div_eq_of_lt hN1];simp
 case round =>
  obtain ⟨k,z,Lq,Lr,hk,rfl,hz,hI,hq,hr,hbel⟩:=hrel;have HK:=Qh ((Kp.refl w).below hbel);have HI:=Qh hI;have HQ:=Qh hq;have HR:=Qh hr;have HBL:=Qh hbel;clear hI hq hr hbel HO;by_cases hk0:k=0
  ·subst hk0
   have ez:z=-1:=by omega
   subst ez;go_wp2_with fail;(with_reducible refine (fJ _ (some ⟨w.heap.size,0,none⟩) n n Lq ?_ (by omega)).mono ?_);(exact HQ.out.toWd);rintro e w1 ⟨A1,n1,c1,rfl,h1,hb1⟩;have HR2:=Qh (HR.out.belw hb1);have HBL2:=Qh (HBL.out.trans (hb1.mono HBL.out.size));clear hb1;go_wp2_with fail;(with_reducible refine (fJ _ (some ⟨w.heap.size+1,0,none⟩) (n'+1) (n'+1) Lr ?_ (by omega)).mono ?_);(exact HR2.out.toWd);rintro e w2 ⟨A2,n2,c2,rfl,h2,hb2⟩;have h1':=h1.keep ((Kp.refl w1).below hb2);have HBL3:=HBL2.out.trans (hb2.mono HBL2.out.size);rw [HI.out.1] at h1';rw [HI.out.2] at h2;simp only [Nat.pow_zero,Nat.div_one,Nat.mul_one] at h1' h2;have HF:=Qh (And.intro h1' (And.intro h2 HBL3));clear h1 h1' h2 HBL3 hb2;go_wp2;refine bodyPost_ret (v:=.tuple #[.slice A1 n1 c1,.slice A2 n2 c2]) (by simp [results,Tryz.results162,go_sem]) rfl ?_;exact ⟨A1,n1,c1,A2,n2,c2,rfl,HF.out.1,HF.out.2.1,HF.out.2.2⟩
  obtain ⟨m,rfl⟩:∃ m,k=m+1:=⟨k - 1,by omega⟩;have ez:z=(m:Int):=by omega
  subst ez;have hm32:m / 32 < n:=by omega
  obtain ⟨ga,oa,rfl,hgl,hca⟩:=(wa.keep HK.out).at2 (by omega);have hcx:=hca (m / 32) hm32;obtain ⟨x,hx⟩:∃ x,wd l (m / 32)=x:=⟨_,rfl⟩;have hx1:x < 4294967296:=by rw [← hx];exact wa.lt _
  rw [hx] at hcx;have HX:=Qh hx;obtain ⟨br,hbr⟩:∃ d,bits .and .u32 ((x:Int) / 2 ^ (m % 32)) 1=d:=⟨_,rfl⟩;obtain ⟨b,hb⟩:∃ b,va / 2 ^ m % 2=b:=⟨_,rfl⟩
  have hbb:br=(b:Int):=by
   rw [← hbr,← hb,← HA.out,← yI wa.1 m,hx];have e:(x:Int) / 2 ^ (m % 32)=((x / 2 ^ (m % 32):Nat):Int):=by simp
   rw [e,mB _ (Nat.lt_of_le_of_lt (Nat.div_le_self _ _) hx1)]
  have HB1:=Qh hb;have hb1:b≤1:=by omega
  clear hca hx hz hk0 hb;go_wp2_with fail
  try rw [hbb]
  clear hbr hbb;go_loopw [9,36] (fun cv kv w2=>∃ (k cr:Nat) (L2:List Nat),k≤n'+1∧kv=.int .i64 (k:Nat)∧cv=.int .u32 (cr:Nat)∧cr≤1∧ly Lr L2 b k cr∧OwS w2 w.heap.size w.heap.size n n Lq∧OwS w2 w.heap.size (w.heap.size+1) (n'+1) (n'+1) L2∧Below w.heap.size w w2) (fun _ kv _=>n'+1 - (intOf kv).toNat)
  case atStart=>exact ⟨0,b,Lr,Nat.zero_le _,rfl,rfl,hb1,ly.start _ _,HQ.out,HR.out,HBL.out⟩
  case round =>
   obtain ⟨k,cr,L2,hk2,rfl,rfl,hcr,hI2,hq2,hr2,hbel2⟩:=hrel;have HI2:=Qh hI2;have HQ2:=Qh hq2;have HR2:=Qh hr2;have HBL2:=Qh hbel2;clear hI2 hq2 hr2 hbel2;by_cases hkk:k < n'+1
   ·obtain ⟨y,hy⟩:∃ y,wd Lr k=y:=⟨_,rfl⟩
    have hy1:y < 4294967296:=by rw [← hy];exact bF HR.out.2 _
    have hck:=HR2.out.cell k hkk;rw [HI2.out.1 k Qr,hy] at hck;have hfk:=HR2.out.frozen k;have HY:=Qh hy;obtain ⟨s,hs⟩:∃ s,bits .or .u32 ((y:Int) * 2 % 4294967296) (cr:Int)=s:=⟨_,rfl⟩
    have he:s=((y * 2 % 4294967296+cr:Nat):Int):=by
     rw [← hs,← (og hcr hy1).1];exact u32_or_nat (y * 2 % 4294967296) cr (Nat.mod_lt _ (by decide)) (by omega)
    have HE:=Qh he;have HS:=Qh (og hcr hy1).2;clear hy he;go_wp2;go_region;clear hs;go_wp2;go_roundw
    case rel =>
     have hst:=HI2.out.step HY.out hy1 (by rw [← HR2.out.len];exact hkk);refine ⟨k+1,y / 2147483648,L2.set k (y * 2 % 4294967296+cr),by omega,by go_num,by go_num,HS.out.2,hst,?_,?_,?_⟩
     ·exact OwS.far (w:=wr) HQ2.out (p:=⟨w.heap.size+1,k,none⟩) (by simp) _
     ·exact OwS.set (w:=wr) HR2.out k HS.out.1 HE.out
     exact (Below.setCell HBL2.out (p:=⟨w.heap.size+1,k,none⟩) (by simp) _).drew
    case measure=>simp [intOf];omega
   have hkn:k=n'+1:=by omega
   subst hkn
   have hv2:val L2=2 * val Lr+b:=by
    have h3:=HR2.out.len;have h4:=HR.out.len;refine ly.fin HI2.out (by omega) (by omega) ?_;refine uk (v:=vb) ?_ ?_ hb1
    ·rw [HI.out.2];exact Nat.mod_lt _ H0.out
    rw [← HB.out,HL'.out];exact cF wb.1
   rw [HI.out.2,← HB1.out] at hv2;obtain ⟨r2,hr2⟩:∃ r,val L2=r:=⟨_,rfl⟩;rw [hr2] at hv2;have HV:=Qh hv2;have HR2v:=Qh hr2;clear hv2 hr2;by_cases hge:vb≤r2
   ·have hc0:0≤bq r2 vb:=by unfold bq;(repeat' split) <;> omega
    obtain ⟨cv,hcv⟩:∃ cv,bq r2 vb=cv:=⟨_,rfl⟩;rw [hcv] at hc0;have HC:=Qh hcv;clear hcv;go_wp2_with fail;(with_reducible refine (eu _ (some ⟨w.heap.size+1,0,none⟩) (n'+1) (n'+1) L2 ?_ ?_ (some ⟨gb,ob,none⟩) n' c' l' ?_ ?_).mono ?_);(exact HR2.out.toWd);(omega);(exact wb.keep ((Kp.refl w).below HBL2.out));(omega);rintro e w1 ⟨rfl,hbl1⟩;rw [HR2v.out,HB.out,HC.out];have HQ3:=Qh (HQ2.out.belw hbl1);have HR3:=Qh (HR2.out.belw hbl1);have HBL3:=Qh (HBL2.out.trans (hbl1.mono HBL2.out.size));clear hbl1 HQ2 HR2 HBL2;go_wp2_with fail;(with_reducible refine (fK _ w.heap.size (w.heap.size+1) (n'+1) (n'+1) L2 ?_ ?_ (some ⟨gb,ob,none⟩) n' c' l' ?_ ?_ ?_ ?_).mono ?_)
    ·exact HR3.out
    ·omega
    ·exact wb.keep ((Kp.refl w).below HBL3.out)
    ·intro ad e;injection e with e;subst e;show gb≠_;omega
    ·omega
    ·rw [HR2v.out,HB.out];exact hge
    rintro e w2 ⟨L3,rfl,hr3,hv3,hon⟩;rw [HR2v.out,HB.out] at hv3;have hq3:=hon.own HQ3.out (by omega);have HBL4:=Qh (HBL3.out.trans (hon.1.mono (by omega)));have HR4:=Qh hr3;have HV3:=Qh hv3;obtain ⟨u,hu⟩:∃ u,wd Lq (m / 32)=u:=⟨_,rfl⟩;have hcq:=hq3.cell (m / 32) hm32;have hfq:=hq3.frozen (m / 32);rw [hu] at hcq;have hob:=yJ HQ.out.2 m (by rw [← HQ.out.len];exact hm32) HI.out.1;rw [hu] at hob;obtain ⟨p,hp⟩:∃ p,2 ^ (m % 32)=p:=⟨_,rfl⟩;rw [hp] at hob;have HQ4:=Qh hq3;have HOB:=Qh hob;have HU:=Qh hu;have HP:=Qh hp;clear hr3 hv3 hon hq3 HQ3 HR3 HBL3 hu hob hp;go_wp2;go_region;go_wp2;go_roundw
    case rel =>
     have hbi:=yK (a:=va) (k:=m) HV.out hge H0.out;have he:=xi HOB.out.2.1 HOB.out.1 HP.out;refine ⟨m,(m:Int) - 1,Lq.set (m / 32) (u+p),L3,by omega,by go_num,by omega,⟨?_,?_⟩,?_,?_,?_⟩
     ·rw [HOB.out.2.2,HI.out.1,hbi.1,Bt]
     ·rw [HV3.out,hbi.2]
     ·exact OwS.set (w:=w2) HQ4.out (m / 32) HOB.out.2.1 he
     ·exact OwS.far (w:=w2) HR4.out (p:=⟨w.heap.size,m / 32,none⟩) (by simp) _
     exact (Below.setCell HBL4.out (p:=⟨w.heap.size,m / 32,none⟩) (by simp) _).drew
    case measure=>simp [intOf] <;> omega
   have hc0:bq r2 vb < 0:=by unfold bq;(repeat' split) <;> omega
   obtain ⟨cv,hcv⟩:∃ cv,bq r2 vb=cv:=⟨_,rfl⟩;rw [hcv] at hc0;have HC:=Qh hcv;clear hcv;go_wp2_with fail;(with_reducible refine (eu _ (some ⟨w.heap.size+1,0,none⟩) (n'+1) (n'+1) L2 ?_ ?_ (some ⟨gb,ob,none⟩) n' c' l' ?_ ?_).mono ?_);(exact HR2.out.toWd);(omega);(exact wb.keep ((Kp.refl w).below HBL2.out));(omega);rintro e w1 ⟨rfl,hbl1⟩;rw [HR2v.out,HB.out,HC.out];have HQ3:=Qh (HQ2.out.belw hbl1);have HR3:=Qh (HR2.out.belw hbl1);have HBL3:=Qh (HBL2.out.trans (hbl1.mono HBL2.out.size));clear hbl1 HQ2 HR2 HBL2;go_wp2;go_roundw
   case rel =>
    have hbi:=xe (a:=va) (k:=m) HV.out (by omega);refine ⟨m,(m:Int) - 1,Lq,L2,by omega,by go_num,by omega,⟨?_,?_⟩,HQ3.out,HR3.out,HBL3.out⟩
    ·rw [HI.out.1,hbi.1,Al]
    rw [HR2v.out,hbi.2]
   case measure=>simp [intOf] <;> omega
theorem gw (w:World) (b:Bool) (A:Option Addr) (n c:Nat) (l:List Nat) (s:Bool) (wa:Wd w A n c l) (hn:n≤1099511627776) (hs:WD.s ⟨b,l⟩=s) :
 Calls Tryz.prog 160 #[.agg #[.bool b,.slice A n c]] w (aB w (.bool s)):=by subst hs;exact mA w b A n c l wa hn
theorem uJ (w:World) (b:Bool) (A:Option Addr) (n c:Nat) (l:List Nat) (s:Int) (wa:Wd w A n c l) (hn:n≤1099511627000) (hs:(WD.z ⟨b,l⟩).sign=s) :
 Calls Tryz.prog 125 #[.agg #[.bool b,.slice A n c]] w (aB w (.int .i64 s)):=by subst hs;exact nT w b A n c l wa hn
theorem pU (w:World) (A n c l) (wa:Wd w A n c l) (hn:n≤1000000000000) (A' n' c' l') (wb:Wd w A' n' c' l') (hn':n'≤1000000000000) (x y:Nat) (hx:val l=x) (hy:val l'=y) (h0:y≠0) :
 Calls Tryz.prog 162 #[.slice A n c,.slice A' n' c'] w (pE w x y):=by subst hx hy;exact pT w A n c l wa hn A' n' c' l' wb hn' h0
def xj (w:World) (q r:Int) (e:Ending) (w':World):Prop:=∃ A1 n1 c1 A2 n2 c2,e=.returned (.tuple #[.agg #[.bool (wh q).neg,.slice A1 n1 c1],.agg #[.bool (wh r).neg,.slice A2 n2 c2],.int .i64 0])∧Wd w' A1 n1 c1 (wh q).mag∧Wd w' A2 n2 c2 (wh r).mag∧Below w.heap.size w w'
theorem xk (w:World) (b:Bool) (A n c l) (wa:Wd w A n c l) (hn:n≤1000000000000) (b':Bool) (A' n' c' l') (wb:Wd w A' n' c' l') (hn':n'≤1000000000000) (h0:WD.z ⟨b',l'⟩≠0) (hr0:WD.z ⟨b,l⟩ % WD.z ⟨b',l'⟩=0) :
 Calls Tryz.prog 128 #[.agg #[.bool b,.slice A n c],.agg #[.bool b',.slice A' n' c']] w (xj w (WD.z ⟨b,l⟩ / WD.z ⟨b',l'⟩) (WD.z ⟨b,l⟩ % WD.z ⟨b',l'⟩)):=by
 have HL:=Qh wa.2.1;have HL':=Qh wb.2.1;obtain ⟨s0,hs0'⟩:∃ s,(WD.z ⟨b',l'⟩).sign=s:=⟨_,rfl⟩;have es0:((s0:Int) == 0)=false:=by simp;rintro rfl;exact h0 (Int.sign_eq_zero_iff_zero.1 hs0')
 have HSG:=Qh hs0';clear hs0'
 have hd0:val (WD.m ⟨b',l'⟩) ∣ val (WD.m ⟨b,l⟩):=by
  rw [← kx ⟨b,l⟩,← kx ⟨b',l'⟩];exact Int.natAbs_dvd_natAbs.2 (Int.dvd_of_emod_eq_zero hr0)
 rw [WD.z_eq] at h0 ⊢;rw [WD.z_eq ⟨b',l'⟩];have hv2:val (WD.m ⟨b',l'⟩)≠0:=by intro e;rw [e] at h0;exact h0 (by cases (WD.s ⟨b',l'⟩) <;> rfl)
 obtain ⟨sa,hsa⟩:∃ s,WD.s ⟨b,l⟩=s:=⟨_,rfl⟩;obtain ⟨sb,hsb⟩:∃ s,WD.s ⟨b',l'⟩=s:=⟨_,rfl⟩;rw [hsa,hsb];obtain ⟨x,hx⟩:∃ x,val (WD.m ⟨b,l⟩)=x:=⟨_,rfl⟩;obtain ⟨y,hy⟩:∃ y,val (WD.m ⟨b',l'⟩)=y:=⟨_,rfl⟩;rw [hx,hy];rw [hx,hy] at hd0;have HS:=Qh (And.intro hsa hsb);have HX:=Qh (And.intro hx hy);have HY:=Qh (show y≠0 from hy ▸ hv2);have HR0:=Qh (Nat.mod_eq_zero_of_dvd hd0);clear hsa hsb hx hy hv2 h0 hr0 hd0;go_in;go_wp2_with fail;have b0:Below w.heap.size w ((((w.alloc (.cells #[.bool b,.slice A n c] 134)).alloc (.cells #[.bool b',.slice A' n' c'] 134)).alloc (.cells #[.bool false,.slice none 0 0] 134)).alloc (.cells #[.bool false,.slice none 0 0] 134)):=(((((Below.refl _ _).alloc Qr _).alloc (by simp) _).alloc (by simp;omega) _).alloc (by simp;omega) _);generalize hW0:((((w.alloc (.cells #[.bool b,.slice A n c] 134)).alloc (.cells #[.bool b',.slice A' n' c'] 134)).alloc (.cells #[.bool false,.slice none 0 0] 134)).alloc (.cells #[.bool false,.slice none 0 0] 134))=W0 at b0 ⊢;have c00:W0.cell? ⟨w.heap.size,0,none⟩=some (.bool b):=by subst hW0;simp [go_sem]
 have f00:W0.frozen? ⟨w.heap.size,0,none⟩=false:=by subst hW0;simp [go_sem]
 have c01:W0.cell? ⟨w.heap.size,1,none⟩=some (.slice A n c):=by subst hW0;simp [go_sem]
 have f01:W0.frozen? ⟨w.heap.size,1,none⟩=false:=by subst hW0;simp [go_sem]
 have c10:W0.cell? ⟨w.heap.size+1,0,none⟩=some (.bool b'):=by subst hW0;simp [go_sem]
 have f10:W0.frozen? ⟨w.heap.size+1,0,none⟩=false:=by subst hW0;simp [go_sem]
 have c11:W0.cell? ⟨w.heap.size+1,1,none⟩=some (.slice A' n' c'):=by subst hW0;simp [go_sem]
 have f11:W0.frozen? ⟨w.heap.size+1,1,none⟩=false:=by subst hW0;simp [go_sem]
 have c20:W0.cell? ⟨w.heap.size+1+1,0,none⟩=some (.bool false):=by subst hW0;simp [go_sem]
 have f20:W0.frozen? ⟨w.heap.size+1+1,0,none⟩=false:=by subst hW0;simp [go_sem]
 have c21:W0.cell? ⟨w.heap.size+1+1,1,none⟩=some (.slice none 0 0):=by subst hW0;simp [go_sem]
 have f21:W0.frozen? ⟨w.heap.size+1+1,1,none⟩=false:=by subst hW0;simp [go_sem]
 have c30:W0.cell? ⟨w.heap.size+1+1+1,0,none⟩=some (.bool false):=by subst hW0;simp [go_sem]
 have f30:W0.frozen? ⟨w.heap.size+1+1+1,0,none⟩=false:=by subst hW0;simp [go_sem]
 have c31:W0.cell? ⟨w.heap.size+1+1+1,1,none⟩=some (.slice none 0 0):=by subst hW0;simp [go_sem]
 have f31:W0.frozen? ⟨w.heap.size+1+1+1,1,none⟩=false:=by subst hW0;simp [go_sem]
 have x0:Box W0 w.heap.size 134:=by subst hW0;exact (((bG _ _ _ (by simp)).alloc _).alloc _).alloc _
 have x1:Box W0 (w.heap.size+1) 134:=by subst hW0;exact ((bG _ _ _ (by simp)).alloc _).alloc _
 have x2:Box W0 (w.heap.size+1+1) 134:=by subst hW0;exact (bG _ _ _ (by simp)).alloc _
 have x3:Box W0 (w.heap.size+1+1+1) 134:=by subst hW0;exact bG _ _ _ (by simp)
 have hm0:ix (w.heap.size+1+1) (w.heap.size+1+1+1+1) 2 W0:=by subst hW0;exact xR (by simp) rfl
 have hs0:w.heap.size+1+1+1+1≤W0.heap.size:=by subst hW0;simp
 clear hW0;have wa:=wa.belw b0;have wb:=wb.belw b0;have r0:Below W0.heap.size W0 W0:=aa _
 go_wp2_with (first
  | (go_at_call 125;(with_reducible refine (uJ _ b' A' n' c' l' s0 ?_ ?_ ?_).mono ?_);(exact wb);(omega);(exact HSG.out);rintro e w1 ⟨rfl,hb1⟩;have r1:=ah r0 hb1;replace wa:=wa.belw hb1;replace wb:=wb.belw hb1;(try clear sc sf sr sz);obtain ⟨⟨sc,sf⟩,sr,sz⟩:=bj.of (by omega) hs0 hm0 r1))
 (try clear sc sf sr sz);have hRB:w.heap.size+1+1≤w.heap.size+1+1+1+1:=by omega
 go_region_held3 (fun w'=>Sees (w.heap.size+1+1) W0 w') (first | exact Sees.of (Nat.le_trans hRB hs0) (by assumption) | exact Sees.of (Nat.le_trans hRB hs0) (af (by assumption) _))
  (first
   | (go_at_call 159;(with_reducible refine (fo _ b A n c l ?_ ?_).mono ?_);(exact wa);(omega);rintro e w2 ⟨A2,n2,c2,rfl,h2,hb2⟩;replace hb2:=ah (af (aa _) 1) hb2;have r2:=ah r1 hb2;replace wa:=wa.belw hb2;replace wb:=wb.belw hb2)
   | (go_at_call 159;(with_reducible refine (fo _ b' A' n' c' l' ?_ ?_).mono ?_);(exact wb);(omega);rintro e w3 ⟨A3,n3,c3,rfl,h3,hb3⟩;have r3:=ah r2 hb3;replace wa:=wa.belw hb3;replace wb:=wb.belw hb3;replace h2:=h2.belw hb3)
   | (go_at_call 162;(with_reducible refine (pU _ A2 n2 c2 (WD.m ⟨b,l⟩) ?_ ?_ A3 n3 c3 (WD.m ⟨b',l'⟩) ?_ ?_ x y ?_ ?_ ?_).mono ?_);(exact h2);(exact h2.m_len (by rw [← HL.out];exact hn));(exact h3);(exact h3.m_len (by rw [← HL'.out];exact hn'));(exact HX.out.1);(exact HX.out.2);(exact HY.out);rintro e w4 ⟨A4,n4,c4,A5,n5,c5,rfl,h4,h5,hb4⟩;have r4:=ah r3 hb4;replace wa:=wa.belw hb4;replace wb:=wb.belw hb4;replace h2:=h2.belw hb4;replace h3:=h3.belw hb4))
 obtain ⟨⟨sc,sf⟩,sr,sz⟩:=bj.of (by omega) hs0 hm0 r4;clear hRB
 have hn4:n4≤1000000000000:=by
  rw [h4.2.1];exact pt (Nat.lt_of_le_of_lt (Nat.div_le_self _ _) (HX.out.1 ▸ h2.vlt Qr)) (h2.m_len (by rw [← HL.out];exact hn))
 have hn5:n5=0:=by rw [h5.2.1,HR0.out,av];rfl
 subst hn5;cases sa
 ·go_wp2_with (first
   | (go_at_call 160;(with_reducible refine (gw _ b A n c l false ?_ ?_ ?_).mono ?_);(exact wa);(omega);(exact HS.out.1);rintro e w5 ⟨rfl,hb5⟩;have r5:=ah r4 hb5;replace wa:=wa.belw hb5;replace wb:=wb.belw hb5;replace h2:=h2.belw hb5;replace h3:=h3.belw hb5;replace h4:=h4.belw hb5;replace h5:=h5.belw hb5;(try clear sc sf sr sz);obtain ⟨⟨sc,sf⟩,sr,sz⟩:=bj.of (by omega) hs0 hm0 r5))
  have HZ:=Qh (gc (sa:=false) (sb:=sb) (x:=x) HY.out (.inr HR0.out));(try clear sc sf sr sz);have hRB:w.heap.size+1+1≤w.heap.size+1+1+1+1:=by omega
  go_region_held3 (fun w'=>Sees (w.heap.size+1+1) W0 w') (first | exact Sees.of (Nat.le_trans hRB hs0) (by assumption) | exact Sees.of (Nat.le_trans hRB hs0) (af (by assumption) _) | exact (Sees.set (Sees.of (Nat.le_trans hRB hs0) (by assumption)) (by simp)) | exact (Sees.set (Sees.set (Sees.of (Nat.le_trans hRB hs0) (by assumption)) (by simp)) (by simp)) | exact (Sees.set (Sees.set (Sees.set (Sees.of (Nat.le_trans hRB hs0) (by assumption)) (by simp)) (by simp)) (by simp)) | exact (Sees.set (Sees.set (Sees.set (Sees.set (Sees.of (Nat.le_trans hRB hs0) (by assumption)) (by simp)) (by simp)) (by simp)) (by simp)))
   (first
    | (go_at_call 160;(with_reducible refine (gw _ b A n c l false ?_ ?_ ?_).mono ?_);(exact wa);(omega);(exact HS.out.1);rintro e w6 ⟨rfl,hb6⟩;replace hb6:=ah (af (aa _) 1) hb6;have r6:=ah r5 hb6;replace wa:=wa.belw hb6;replace wb:=wb.belw hb6;replace h2:=h2.belw hb6;replace h3:=h3.belw hb6;replace h4:=h4.belw hb6;replace h5:=h5.belw hb6)
    | (go_at_call 160;(with_reducible refine (gw _ b' A' n' c' l' sb ?_ ?_ ?_).mono ?_);(exact wb);(omega);(exact HS.out.2);rintro e w7 ⟨rfl,hb7⟩;have r7:=ah r6 hb7;replace wa:=wa.belw hb7;replace wb:=wb.belw hb7;replace h2:=h2.belw hb7;replace h3:=h3.belw hb7;replace h4:=h4.belw hb7;replace h5:=h5.belw hb7)
    | (go_at_call 129;(with_reducible refine (dw _ sb A4 n4 c4 (am (x / y)) (sgn false x / sgn sb y) ?_ ?_ ?_).mono ?_);(exact h4);(omega);(rw [HZ.out.1,ag];cases sb <;> rfl);rintro e w8 ⟨A8,n8,c8,rfl,h8,hb8⟩;have r8:=ah r7 hb8;replace wa:=wa.belw hb8;replace wb:=wb.belw hb8;replace h2:=h2.belw hb8;replace h3:=h3.belw hb8;replace h4:=h4.belw hb8;replace h5:=h5.belw hb8)
    | (go_at_call 129;(with_reducible refine (dw _ false A5 0 c5 (am (x % y)) (sgn false x % sgn sb y) ?_ ?_ ?_).mono ?_);(exact h5);(omega);(rw [HZ.out.2,ag];rfl);rintro e w9 ⟨A9,n9,c9,rfl,h9,hb9⟩;have r9:=ah r8 hb9;replace wa:=wa.belw hb9;replace wb:=wb.belw hb9;replace h2:=h2.belw hb9;replace h3:=h3.belw hb9;replace h4:=h4.belw hb9;replace h5:=h5.belw hb9;replace h8:=h8.belw hb9;obtain ⟨⟨sc,sf⟩,sr,sz⟩:=bj.of (by omega) hs0 hm0 r9))
  clear hRB;go_wp2_with fail;refine bodyPost_ret (v:=.tuple #[.agg #[.bool _,.slice A8 n8 c8],.agg #[.bool _,.slice A9 n9 c9],.int .i64 0]) (by simp [results,Tryz.results128,go_sem,sr];first | rfl | exact ⟨rfl,rfl⟩) rfl ?_;have y2:=x2.below r9;have y3:=x3.below r9;refine ⟨A8,n8,c8,A9,n9,c9,rfl,?_,?_,?_⟩
  ·exact h8.keep (kp4 y2 y3 (by decide) (by decide) _ _ _ _ _ _ _ _)
  ·exact h9.keep (kp4 y2 y3 (by decide) (by decide) _ _ _ _ _ _ _ _)
  exact ((((b0.trans (r9.mono b0.size)).setCell (by dsimp only;omega) _).setCell (by dsimp only;omega) _).setCell (by dsimp only;omega) _).setCell (by dsimp only;omega) _
 ·go_wp2_with (first
   | (go_at_call 160;(with_reducible refine (gw _ b A n c l true ?_ ?_ ?_).mono ?_);(exact wa);(omega);(exact HS.out.1);rintro e w5 ⟨rfl,hb5⟩;have r5:=ah r4 hb5;replace wa:=wa.belw hb5;replace wb:=wb.belw hb5;replace h2:=h2.belw hb5;replace h3:=h3.belw hb5;replace h4:=h4.belw hb5;replace h5:=h5.belw hb5;(try clear sc sf sr sz);obtain ⟨⟨sc,sf⟩,sr,sz⟩:=bj.of (by omega) hs0 hm0 r5))
  have HZ:=Qh (gc (sa:=true) (sb:=sb) (x:=x) HY.out (.inr HR0.out));(try clear sc sf sr sz);have hRB:w.heap.size+1+1≤w.heap.size+1+1+1+1:=by omega
  go_region_held3 (fun w'=>Sees (w.heap.size+1+1) W0 w') (first | exact Sees.of (Nat.le_trans hRB hs0) (by assumption) | exact Sees.of (Nat.le_trans hRB hs0) (af (by assumption) _) | exact (Sees.set (Sees.of (Nat.le_trans hRB hs0) (by assumption)) (by simp)) | exact (Sees.set (Sees.set (Sees.of (Nat.le_trans hRB hs0) (by assumption)) (by simp)) (by simp)) | exact (Sees.set (Sees.set (Sees.set (Sees.of (Nat.le_trans hRB hs0) (by assumption)) (by simp)) (by simp)) (by simp)) | exact (Sees.set (Sees.set (Sees.set (Sees.set (Sees.of (Nat.le_trans hRB hs0) (by assumption)) (by simp)) (by simp)) (by simp)) (by simp)))
   (first
    | (go_at_call 160;(with_reducible refine (gw _ b A n c l true ?_ ?_ ?_).mono ?_);(exact wa);(omega);(exact HS.out.1);rintro e w6 ⟨rfl,hb6⟩;replace hb6:=ah (af (aa _) 1) hb6;have r6:=ah r5 hb6;replace wa:=wa.belw hb6;replace wb:=wb.belw hb6;replace h2:=h2.belw hb6;replace h3:=h3.belw hb6;replace h4:=h4.belw hb6;replace h5:=h5.belw hb6)
    | (go_at_call 160;(with_reducible refine (gw _ b' A' n' c' l' sb ?_ ?_ ?_).mono ?_);(exact wb);(omega);(exact HS.out.2);rintro e w7 ⟨rfl,hb7⟩;have r7:=ah r6 hb7;replace wa:=wa.belw hb7;replace wb:=wb.belw hb7;replace h2:=h2.belw hb7;replace h3:=h3.belw hb7;replace h4:=h4.belw hb7;replace h5:=h5.belw hb7)
    | (go_at_call 129;(with_reducible refine (dw _ (!sb) A4 n4 c4 (am (x / y)) (sgn true x / sgn sb y) ?_ ?_ ?_).mono ?_);(exact h4);(omega);(rw [HZ.out.1,ag];cases sb <;> rfl);rintro e w8 ⟨A8,n8,c8,rfl,h8,hb8⟩;have r8:=ah r7 hb8;replace wa:=wa.belw hb8;replace wb:=wb.belw hb8;replace h2:=h2.belw hb8;replace h3:=h3.belw hb8;replace h4:=h4.belw hb8;replace h5:=h5.belw hb8)
    | (go_at_call 129;(with_reducible refine (dw _ false A5 0 c5 (am (x % y)) (sgn true x % sgn sb y) ?_ ?_ ?_).mono ?_);(exact h5);(omega);(rw [HZ.out.2,ag];rfl);rintro e w9 ⟨A9,n9,c9,rfl,h9,hb9⟩;have r9:=ah r8 hb9;replace wa:=wa.belw hb9;replace wb:=wb.belw hb9;replace h2:=h2.belw hb9;replace h3:=h3.belw hb9;replace h4:=h4.belw hb9;replace h5:=h5.belw hb9;replace h8:=h8.belw hb9;obtain ⟨⟨sc,sf⟩,sr,sz⟩:=bj.of (by omega) hs0 hm0 r9))
  clear hRB;go_wp2_with fail;refine bodyPost_ret (v:=.tuple #[.agg #[.bool _,.slice A8 n8 c8],.agg #[.bool _,.slice A9 n9 c9],.int .i64 0]) (by simp [results,Tryz.results128,go_sem,sr];first | rfl | exact ⟨rfl,rfl⟩) rfl ?_;have y2:=x2.below r9;have y3:=x3.below r9;refine ⟨A8,n8,c8,A9,n9,c9,rfl,?_,?_,?_⟩
  ·exact h8.keep (kp4 y2 y3 (by decide) (by decide) _ _ _ _ _ _ _ _)
  ·exact h9.keep (kp4 y2 y3 (by decide) (by decide) _ _ _ _ _ _ _ _)
  exact ((((b0.trans (r9.mono b0.size)).setCell (by dsimp only;omega) _).setCell (by dsimp only;omega) _).setCell (by dsimp only;omega) _).setCell (by dsimp only;omega) _
theorem qX (w:World) (b A n c z k) (h:IZ w b A n c z k) (b' A' n' c' z' k') (h':IZ w b' A' n' c' z' k') (hk:k+k'≤1000000000) (h0:z'≠0) (hr:z % z'=0):Calls Tryz.prog 128 #[.agg #[.bool b,.slice A n c],.agg #[.bool b',.slice A' n' c']] w (xU w (.int .i64 0) (z / z') (z % z') (k+k')):=by
 have hz:=h.mono (Nat.le_add_right k k') |>.lt
 have hz':=h'.mono (Nat.le_add_left k' k) |>.lt
 obtain ⟨l,h1,rfl,h3⟩:=h;obtain ⟨l',h1',rfl,h3'⟩:=h';refine (xk w b A n c l h1 (by omega) b' A' n' c' l' h1' (by omega) h0 hr).mono fun _ _ r=>?_
 obtain ⟨A1,n1,c1,A2,n2,c2,rfl,r1,r2,r3⟩:=r;refine ⟨_,A1,n1,c1,_,A2,n2,c2,rfl,IV.mk_ r1 rfl ?_,IV.mk_ r2 rfl ?_,r3⟩
 ·exact Nat.lt_of_le_of_lt (Int.natAbs_ediv_le_natAbs _ _) hz
 have e1:=Int.emod_nonneg (WD.z ⟨b,l⟩) h0;have e2:=Int.emod_lt (WD.z ⟨b,l⟩) h0;omega
theorem kH (w:World) (b A n c z k) (h:IZ w b A n c z k) (s:Int) (hs:z.sign=s) (hk:k≤1000000000):Calls Tryz.prog 125 #[.agg #[.bool b,.slice A n c]] w (aB w (.int .i64 s)):=by
 subst hs;exact t7 w b A n c z k h hk
theorem uK {z d:Int}{q:Rat}(hz:z≠0) (hd:0 < d) (hq:Rat.divInt z d=q) :
 (rd q).num=(wh (z / ((Nat.gcd z.natAbs d.natAbs:Nat):Int))).mag∧(rd q).den=(wh (d / ((Nat.gcd z.natAbs d.natAbs:Nat):Int))).mag∧(rd q).neg=(wh (z / ((Nat.gcd z.natAbs d.natAbs:Nat):Int))).neg:=by
 rw [← hq,jy hz hd,ky _ hd];have hg:0 < Nat.gcd z.natAbs d.natAbs:=Nat.gcd_pos_of_pos_right _ (by omega);have hdv:((Nat.gcd z.natAbs d.natAbs:Nat):Int) ∣ z:=Int.ofNat_dvd_left.2 (Nat.gcd_dvd_left _ _);generalize Nat.gcd z.natAbs d.natAbs=g at *;obtain ⟨m,rfl⟩:=hdv;have e:(g:Int) * m / (g:Int)=m:=Int.mul_ediv_cancel_left _ (by omega);have e2:((g:Int) * m).natAbs / g=m.natAbs:=by rw [Int.natAbs_mul,Int.natAbs_natCast];exact Nat.mul_div_cancel_left _ hg
 rw [e,e2];refine ⟨rfl,rfl,?_⟩;unfold wh;simp only [decide_eq_decide];constructor
 ·intro h;rcases (show m < 0∨0≤m by omega) with h1 | h1;exact h1;exact absurd (Int.mul_nonneg (Int.natCast_nonneg g) h1) (by omega)
 intro h;exact Int.mul_neg_of_pos_of_neg (by omega) h
theorem yO (w:World) (b A n c z k) (h:IZ w b A n c z k) (b' A' n' c' z' k') (h':IZ w b' A' n' c' z' k') (q:Rat) (K:Nat) (hd:z'≠0) (hq:Rat.divInt z z'=q) (hs:Sz q K) (hk:k+k'≤300000000) :
 Calls Tryz.prog 86 #[.agg #[.bool b,.slice A n c],.agg #[.bool b',.slice A' n' c']] w (wH w q K):=by
 have HD:=Qh hd;have HQ:=Qh hq;have HS:=Qh hs;obtain ⟨s,hs1⟩:∃ s,z.sign=s:=⟨_,rfl⟩;obtain ⟨s',hs2⟩:∃ s,z'.sign=s:=⟨_,rfl⟩;have H1:=Qh hs1;have H2:=Qh hs2;clear hd hq hs hs1 hs2;go_in;go_upto_region 1 with fail;refine jF ?_;intro w1 hw1;have k1:B3 w w.heap.size 134 #[.bool b,.slice A n c] 134 #[.bool b',.slice A' n' c'] 54 #[.bool false,.slice none 0 0,.slice none 0 0] w1:=by rw [hw1];exact ⟨((Blk.new w _ _).alloc _).alloc _,(ak _ _ _ (by simp)).alloc _,ak _ _ _ (by simp),(((aa w).alloc Qr _).alloc (by simp) _).alloc (by simp <;> omega) _⟩
 replace h:=h.belw k1.q;replace h':=h'.belw k1.q;clear hw1;have y:=k1.s.v2;go_wp2_with fail;(refine (kH _ b A n c z k h s H1.out (by omega)).mono ?_);rintro e w2 ⟨rfl,hb2⟩;replace k1:=k1.call hb2;replace h:=h.belw hb2;replace h':=h'.belw hb2;clear hb2 y;by_cases hz:z=0
 ·obtain rfl:s=0:=by rw [← H1.out,hz];rfl
  have hq0:q=0:=by rw [← HQ.out,hz,Rat.zero_divInt]
  subst hq0;have y:=k1.r.v3;go_wp2_with fail;refine bodyPost_ret (v:=.agg #[.bool false,.slice none 0 0,.slice none 0 0]) (by simp [results,Tryz.results86,go_sem, *] <;> trivial) rfl ?_;exact ⟨false,none,0,0,none,0,0,rfl,QV.zero _ _,((k1.q.setCell (p:=⟨w.heap.size+1+1,0,none⟩) (by show w.heap.size≤w.heap.size+1+1;omega) (.bool false)).setCell (p:=⟨w.heap.size+1+1,1,none⟩) (by show w.heap.size≤w.heap.size+1+1;omega) (.slice none 0 0)).setCell (p:=⟨w.heap.size+1+1,2,none⟩) (by show w.heap.size≤w.heap.size+1+1;omega) (.slice none 0 0)⟩
 obtain ⟨hp,hqq,hsg⟩:=nQ hz HD.out HQ.out;have HP:=Qh hp;have HQQ:=Qh hqq;have HSG:=Qh hsg;have u1:(s == 0)=false:=beq_eq_false_iff_ne.2 (by rw [← H1.out];exact fun e=>hz (Int.sign_eq_zero_iff_zero.1 e));have u2:(s=0)=False:=by simpa using u1
 clear hz hp hqq hsg HQ;have y:=k1.t.v2;go_wp2_with fail;(refine (kH _ b' A' n' c' z' k' h' s' H2.out (by omega)).mono ?_);rintro e w3 ⟨rfl,hb3⟩;replace k1:=k1.call hb3;replace h:=h.belw hb3;replace h':=h'.belw hb3;clear hb3 y;obtain ⟨y1,hy1⟩:∃ y,sgz z z'=y:=⟨_,rfl⟩;obtain ⟨y2,hy2⟩:∃ y,sgz z' z'=y:=⟨_,rfl⟩;rw [hy1] at HQQ HSG;rw [hy2] at HP HQQ;have HY1:=Qh hy1;have HY2:=Qh hy2;clear hy1 hy2;go_upto_if 18 with fail;go_cut [] (fun wx=>∃ b8 A8 n8 c8 b9 A9 n9 c9,B3 w w.heap.size 134 #[.bool b8,.slice A8 n8 c8] 134 #[.bool b9,.slice A9 n9 c9] 54 #[.bool false,.slice none 0 0,.slice none 0 0] wx∧IZ wx b8 A8 n8 c8 y1 k∧IZ wx b9 A9 n9 c9 y2 k')
 case first =>
  have y:=k1.s.v2;have y9:=k1.t.v2;by_cases hn:z' < 0
  ·obtain rfl:s'=-1:=by rw [← H2.out];exact Int.sign_eq_neg_one_iff_neg.2 hn
   obtain rfl:-z=y1:=by rw [← HY1.out];exact (if_pos hn).symm
   obtain rfl:-z'=y2:=by rw [← HY2.out];exact (if_pos hn).symm
   clear hn;go_wp2_with fail
   go_region_with (first
    | (go_at_call 126;(with_reducible refine (qP _ b A n c z k ?_ ?_).mono ?_);(first | exact h | exact h.belw (af (aa _) _) | fail);(omega);rintro e w5 ⟨b5,A5,n5,c5,rfl,h5,hb5⟩;replace hb5:=ah (af (aa _) 1) hb5;replace h':=h'.belw hb5;replace k1:=k1.call hb5;have y:=k1.s.v2;have y9:=k1.t.v2)
    | (go_at_call 126;(with_reducible refine (qP _ b' A' n' c' z' k' ?_ ?_).mono ?_);(exact h');(omega);rintro e w6 ⟨b6,A6,n6,c6,rfl,h6,hb6⟩;replace h5:=h5.belw hb6;replace k1:=k1.call hb6;have y:=k1.s.v2;have y9:=k1.t.v2))
   all_goals
    go_wp2_with fail;go_meet;exact ⟨_,_,_,_,_,_,_,_,(k1.p0 _ _).p1 _ _,h5.iz.keep ((k1.s.k2 (by decide) _ _).trans ((k1.p0 _ _).t.k2 (by decide) _ _)),h6.iz.keep ((k1.s.k2 (by decide) _ _).trans ((k1.p0 _ _).t.k2 (by decide) _ _))⟩
  have hp:0 < z':=by have:=HD.out;omega
  obtain rfl:s'=1:=by rw [← H2.out];exact Int.sign_eq_one_iff_pos.2 hp
  obtain rfl:z=y1:=by rw [← HY1.out];exact (if_neg hn).symm
  obtain rfl:z'=y2:=by rw [← HY2.out];exact (if_neg hn).symm
  clear hn hp;go_wp2_with fail;go_meet;exact ⟨_,_,_,_,_,_,_,_,k1,h,h'⟩
 case rest =>
  clear k1 h h' HY1 HY2;obtain ⟨b8,A8,n8,c8,b9,A9,n9,c9,k1,h8,h9⟩:=hcut;rename World=>w7;have y:=And.intro k1.s.v2 k1.t.v2;go_wp2_with fail;(refine (wU _ b8 A8 n8 c8 y1 k h8 b9 A9 n9 c9 y2 k' h9 (by omega)).mono ?_);rintro e w8 ⟨b3,A3,n3,c3,rfl,h3,hb8⟩;replace k1:=k1.call hb8;replace h8:=h8.belw hb8;replace h9:=h9.belw hb8;obtain ⟨g,hg⟩:∃ g:Int,((Nat.gcd y1.natAbs y2.natAbs:Nat):Int)=g:=⟨_,rfl⟩;have HG:=Qh hg;rw [hg] at h3;clear hb8 y hg;go_upto_region 6 with fail;refine jF ?_;intro w9 hw9;have q9:Below w8.heap.size w8 w9:=by rw [hw9];exact (aa w8).alloc Qr _
  have x9:Blk w9 w8.heap.size 134 #[.bool b3,.slice A3 n3 c3]:=by rw [hw9];exact Blk.new w8 _ _
  replace h8:=h8.belw q9;replace h9:=h9.belw q9;replace h3:=h3.belw q9;replace k1:=k1.call q9;clear hw9 q9;have g0:g≠0:=by rw [← HG.out];exact tS HP.out
  have m1:y1 % g=0:=by rw [← HG.out];exact Int.emod_eq_zero_of_dvd (Int.ofNat_dvd_left.2 (Nat.gcd_dvd_left _ _))
  have m2:y2 % g=0:=by rw [← HG.out];exact Int.emod_eq_zero_of_dvd (Int.ofNat_dvd_left.2 (Nat.gcd_dvd_right _ _))
  have M1:=Qh m1;have M2:=Qh m2;clear m1 m2;have y:=And.intro k1.s.v2 x9.v2;go_wp2_with fail;(refine (qX _ b8 A8 n8 c8 y1 k h8 b3 A3 n3 c3 g (k+k') h3.iz (by omega) g0 M1.out).mono ?_);rintro e w10 ⟨b4,A4,n4,c4,bx,Ax,nx,cx,rfl,h4,_,hb10⟩;replace k1:=k1.call hb10;replace x9:=x9.b hb10;replace h9:=h9.belw hb10;replace h3:=h3.belw hb10;clear hb10 y;go_upto_region 7 with fail;refine jF ?_;intro w11 hw11;have q11:Below w10.heap.size w10 w11:=by rw [hw11];exact ((aa w10).alloc Qr _).alloc (by simp) _
  have x11:Blk w11 w10.heap.size 134 #[.bool b4,.slice A4 n4 c4]:=by rw [hw11];exact (Blk.new w10 _ _).alloc _
  replace k1:=k1.call q11;replace x9:=x9.b q11;replace h9:=h9.belw q11;replace h3:=h3.belw q11;replace h4:=h4.belw q11;clear hw11 q11;have y:=And.intro k1.t.v2 x9.v2;go_wp2_with fail;(refine (qX _ b9 A9 n9 c9 y2 k' h9 b3 A3 n3 c3 g (k+k') h3.iz (by omega) g0 M2.out).mono ?_);rintro e w12 ⟨b5,A5,n5,c5,bz,Az,nz,cz,rfl,h5,_,hb12⟩;replace k1:=k1.call hb12;replace x11:=x11.b hb12;replace h4:=h4.belw hb12;clear hb12 y;go_upto_region 8 with fail;refine jF ?_;intro w13 hw13;have q13:Below w12.heap.size w12 w13:=by rw [hw13];exact ((aa w12).alloc Qr _).alloc (by simp) _
  have x13:Blk w13 w12.heap.size 134 #[.bool b5,.slice A5 n5 c5]:=by rw [hw13];exact (Blk.new w12 _ _).alloc _
  replace k1:=k1.call q13;replace x11:=x11.b q13;replace h4:=h4.belw q13;replace h5:=h5.belw q13;clear hw13 q13;have y:=And.intro x11.v2 (And.intro x13.v2 k1.r.v3);go_wp2_with fail;refine bodyPost_ret (v:=.agg #[.bool b4,.slice A4 n4 c4,.slice A5 n5 c5]) (by simp [results,Tryz.results86,go_sem, *] <;> trivial) rfl ?_;clear y;have kp:=k1.r.k3 (by decide) (.bool b4) (.slice A4 n4 c4) (.slice A5 n5 c5);obtain ⟨e1,e2,e3⟩:=uK (fun e=>by rw [e] at HSG;rcases HSG.out with h | h <;> cases h) HP.out HQQ.out
  rw [HG.out] at e1 e2 e3;exact ⟨_,_,_,_,_,_,_,rfl,QV.mk_ (by rw [e1];exact h4.2.1.keep kp) (by rw [e2];exact h5.2.1.keep kp) (by rw [e3];exact h4.1.symm) HS.out,((k1.q.setCell (p:=⟨w.heap.size+1+1,0,none⟩) (by show w.heap.size≤w.heap.size+1+1;omega) _).setCell (p:=⟨w.heap.size+1+1,1,none⟩) (by show w.heap.size≤w.heap.size+1+1;omega) _).setCell (p:=⟨w.heap.size+1+1,2,none⟩) (by show w.heap.size≤w.heap.size+1+1;omega) _⟩
theorem Bx (w:World) (i:Int) (hi:-4294967296 < i) (hi2:i < 4294967296) :
 Calls Tryz.prog 49 #[.int .i64 i] w (wH w (i:Rat) 1):=by
 go_in;go_wp2_with fail;(with_reducible refine (qQ _ (i) ?_ ?_).mono ?_);(omega);(omega);rintro e w1 ⟨b1,A1,n1,c1,rfl,h1,hb1⟩;have q1:=hb1.q1;have x1a:Blk w1 w.heap.size 54 #[.bool false,.slice none 0 0,.slice none 0 0]:=(ak _ _ _ (by simp)).below hb1 (by simp);have bw1:=(aa w).trans (q1.mono (aa w).size);have lw1:=hb1.l1;clear q1;go_wp2_with fail;(with_reducible refine (Af _).mono ?_);rintro e w2 ⟨b2,A2,n2,c2,rfl,h2,q2⟩;replace h1:=h1.belw q2;replace x1a:=x1a.b q2;have bw2:=bw1.trans (q2.mono bw1.size);have lw2:=q2.size;clear q2 bw1;go_wp2_with fail;(with_reducible refine (yO _ b1 A1 n1 c1 (i) (1) ?_ b2 A2 n2 c2 (1) (1) ?_ ((i:Rat)) (1) ?_ ?_ ?_ ?_).mono ?_);(exact h1.iz);(exact h2.iz);(decide);(exact xX i);(exact yk (by omega) (by decide));(decide);rintro e w3 ⟨b3,A3,n3,c3,A'3,n'3,c'3,rfl,h3,q3⟩;replace h1:=h1.belw q3;replace h2:=h2.belw q3;replace x1a:=x1a.b q3;have bw3:=bw2.trans (q3.mono bw2.size);have lw3:=q3.size;clear q3 bw2;have cx1a:=x1a.c3;have fx1a:=x1a.f3;have lx1a:=eG x1a.lt;go_wp2_with fail;refine bodyPost_ret (v:=.agg #[.bool b3,.slice A3 n3 c3,.slice A'3 n'3 c'3]) (by simp [results,Tryz.results49,go_sem, *] <;> trivial) rfl ?_;exact ⟨b3,A3,n3,c3,A'3,n'3,c'3,rfl,h3.keep ((((Kp.refl w3).sb w.heap.size 0 x1a.box (by decide) (.bool b3)).sb w.heap.size 1 (x1a.box.set ⟨w.heap.size,0,none⟩ (.bool b3)) (by decide) (.slice A3 n3 c3)).sb w.heap.size 2 ((x1a.box.set ⟨w.heap.size,0,none⟩ (.bool b3)).set ⟨w.heap.size,1,none⟩ (.slice A3 n3 c3)) (by decide) (.slice A'3 n'3 c'3)),(((bw3.sc w.heap.size 0 (by omega) (.bool b3)).sc w.heap.size 1 (by omega) (.slice A3 n3 c3)).sc w.heap.size 2 (by omega) (.slice A'3 n'3 c'3))⟩
theorem Four.b {w w':World}{g1 g2 g3 g4 t:Nat}{c1 c2 c3 c4:Array Value}(X:Blk w g1 t c1∧Blk w g2 t c2∧Blk w g3 t c3∧Blk w g4 t c4) (hb:Below w.heap.size w w'):Blk w' g1 t c1∧Blk w' g2 t c2∧Blk w' g3 t c3∧Blk w' g4 t c4:=⟨X.1.below hb X.1.lt,X.2.1.below hb X.2.1.lt,X.2.2.1.below hb X.2.2.1.lt,X.2.2.2.below hb X.2.2.2.lt⟩
theorem FourV.b {w w':World}{b1 b2 b3 b4:Bool}{A1 A2 A3 A4:Option Addr}{n1 n2 n3 n4 c1 c2 c3 c4 k1 k2 k3 k4:Nat}{z1 z2 z3 z4:Int}(H:IV w b1 A1 n1 c1 z1 k1∧IV w b2 A2 n2 c2 z2 k2∧IV w b3 A3 n3 c3 z3 k3∧IV w b4 A4 n4 c4 z4 k4) (hb:Below w.heap.size w w'):IV w' b1 A1 n1 c1 z1 k1∧IV w' b2 A2 n2 c2 z2 k2∧IV w' b3 A3 n3 c3 z3 k3∧IV w' b4 A4 n4 c4 z4 k4:=⟨H.1.belw hb,H.2.1.belw hb,H.2.2.1.belw hb,H.2.2.2.belw hb⟩
end Go.Proofs.YtndhgcfajlalhaaGreatDoor
namespace Bn
open Go.Lib
theorem oB {c:UInt8}:∀ {a b x y:List UInt8},c ∉ a→c ∉ x→a ++ c :: b=x ++ c :: y→a=x∧b=y:=by
 intro a
 induction a with
 | nil =>
  intro b x y _ hx h
  cases x with
  | nil=>simp at h;exact ⟨rfl,h⟩
  | cons z r=>simp at h;exact absurd h.1 (fun e=>hx (by rw [e];simp))
 | cons w r ih =>
  intro b x y ha hx h
  cases x with
  | nil=>simp at h;exact absurd h.1 (fun e=>ha (by rw [e];simp))
  | cons z s =>
   simp at h ha hx;obtain ⟨e1,e2⟩:=ih ha.2 hx.2 h.2;exact ⟨by rw [h.1,e1],e2⟩
def aG (q:Rat):List UInt8:=if q.den=1 then itoa q.num else itoa q.num ++ 47 :: itoa (q.den:Int)
theorem uL {c:UInt8}:∀ {a b:List UInt8},c ∉ a→index (a ++ c :: b) [c]=(a.length:Int):=by
 intro a
 induction a with
 | nil=>intro b _;rw [List.nil_append,index,if_pos (by simp [List.isPrefixOf])];rfl
 | cons x r ih =>
  intro b h;simp at h;have hp:List.isPrefixOf [c] (x :: (r ++ c :: b))=false:=by simp [List.isPrefixOf];exact h.1
  rw [List.cons_append,index,hp,ih (b:=b) h.2];have:((r.length:Int) == -1)=false:=by rw [beq_eq_false_iff_ne];omega
  simp [this]
theorem uM {c:UInt8}:∀ {a:List UInt8},c ∉ a→index a [c]=-1:=by
 intro a
 induction a with
 | nil=>intro _;rfl
 | cons x r ih =>
  intro h;simp at h;have hp:List.isPrefixOf [c] (x :: r)=false:=by simp [List.isPrefixOf];exact h.1
  rw [index,hp,ih h.2];rfl
theorem pV {c:UInt8}{a b:List UInt8}(h:c ∉ a):cut (a ++ c :: b) [c]=(a,b,true):=by
 unfold cut;rw [uL h,if_pos (by omega)];simp
theorem kI {c:UInt8}{a:List UInt8}(h:c ∉ a):cut a [c]=(a,[],false):=by
 unfold cut;rw [uM h,if_neg (by omega)]
end Bn

/- Walks: what the integer laws lean on: short, Same; roots and texts as values. -/
namespace Go.Proofs.YtndhgcfajlalhaaGreatDoor
open Go Go.RowKit Bn
attribute [local go_sem ↓] Go.wp_at_zero Go.wp_at_succ
def Ws (w:World) (g N:Nat) (ns:Nat→Nat):Prop:=g < w.heap.size∧∀ i,i < N→∃ b A c,w.cell? ⟨g,i * 2,none⟩=some (.bool b)∧w.cell? ⟨g,i * 2+1,none⟩=some (.slice A (ns i) c)
theorem Ws.belw {w w':World}{g N:Nat}{ns:Nat→Nat}(h:Ws w g N ns) (hb:Below w.heap.size w w'):Ws w' g N ns:=by
 obtain ⟨hg,h⟩:=h;have hc:=(bS hb).1;refine ⟨Nat.lt_of_lt_of_le hg hb.size,fun i hi=>?_⟩;obtain ⟨b,A,c,h1,h2⟩:=h i hi;exact ⟨b,A,c,(hc _ _ hg).trans h1,(hc _ _ hg).trans h2⟩
theorem IZ.short {w:World}{b:Bool}{A:Option Addr}{n c k:Nat}{z:Int}(h:IZ w b A n c z k) (hs:n≤30):IZ w b A n c z 30:=by
 obtain ⟨l,h1,h2,_⟩:=h;exact ⟨l,h1,h2,hs⟩
theorem xl (a b:Rat):eI (a.num * b.den) (b.num * a.den)=pJ a b:=by
 unfold eI pJ;have h:=zG a b;by_cases h1:a < b
 ·rw [if_pos h1,if_pos (h.1.2 h1)]
 rw [if_neg h1,if_neg (fun x=>h1 (h.1.1 x))];by_cases h2:a=b
 ·rw [if_pos h2,if_pos (h.2.2 h2)]
 rw [if_neg h2,if_neg (fun x=>h2 (h.2.1 x))]
theorem kd (w:World) (b A n c D m e q k) (h:QZ w b A n c D m e q k) (b' A' n' c' D' m' e' q' k') (h':QZ w b' A' n' c' D' m' e' q' k') (s:Int) (hs:pJ q q'=s) (h0:0 < k) (hk:k≤40000000) (h0':0 < k') (hk':k'≤40000000):Calls Tryz.prog 138 #[.agg #[.bool b,.slice A n c,.slice D m e],.agg #[.bool b',.slice A' n' c',.slice D' m' e']] w (aB w (.int .i64 s)):=by
 subst hs;rw [← xl];exact Ai w b A n c D m e q k h b' A' n' c' D' m' e' q' k' h' h0 hk h0' hk'
theorem uN (w:World) (b A n c z k) (h:IZ w b A n c z k) (b' A' n' c' z' k') (h':IZ w b' A' n' c' z' k') (hd:z'=0) (hk:k+k'≤300000000) :
 Calls Tryz.prog 116 #[.agg #[.bool b,.slice A n c],.agg #[.bool b',.slice A' n' c']] w (iC w (.iface 58 (.int .i64 8)) 0 1):=by
 have HS:=Qh (show z'.sign=0 by rw [hd];rfl);clear hd;go_in;go_wp2_with fail;(with_reducible refine (fI _ b' A' n' c' (z') (k') ?_ 0 ?_ ?_).mono ?_);(exact (h'.belw ((((Below.refl _ _).alloc Qr _).alloc (by simp) _).alloc (by simp <;> omega) _)));(exact HS.out);(omega);rintro e w1 ⟨rfl,hb1⟩;have q1:=hb1.q3;replace h:=h.belw q1;replace h':=h'.belw q1;have x1a:Blk w1 w.heap.size 134 #[.bool b,.slice A n c]:=(((ak _ _ _ (by simp)).alloc _).alloc _).below hb1 (by simp <;> omega);have x1b:=((ak _ _ _ (g:=w.heap.size+1) (by simp)).alloc _).below hb1 (by simp <;> omega);have x1c:=(ak _ _ _ (g:=w.heap.size+1+1) (by simp)).below hb1 (by simp);have bw1:=(aa w).trans (q1.mono (aa w).size);have lw1:=hb1.l3;clear q1;have cx1c:=x1c.c3;have fx1c:=x1c.f3;have lx1c:=tq x1c.lt;go_wp2_with fail;refine bodyPost_ret (v:=.tuple #[.agg #[.bool false,.slice none 0 0,.slice none 0 0],.iface 58 (.int .i64 8)]) (by simp [results,Tryz.results116,go_sem, *] <;> trivial) rfl ?_;exact ⟨_,_,_,_,_,_,_,rfl,QV.zero _ _,(((bw1.sc (w.heap.size+1+1) 0 (by omega) (.bool false)).sc (w.heap.size+1+1) 1 (by omega) (.slice none 0 0)).sc (w.heap.size+1+1) 2 (by omega) (.slice none 0 0))⟩

theorem pW (x:Int) (w:World):(Instr.typeAssert (.iface 58 (.int .i64 x)) 34 58 true).run Tryz.prog w=.ok (.tuple #[.int .i64 x,.bool true]) w:=by
 simp [Instr.typeAssert,run_underlying Tryz.underlying58]
theorem ss (w:World) (x:Int):Calls Tryz.prog 46 #[.iface 58 (.int .i64 x)] w (aB w (.int .i64 x)):=by
 go_in;have hr:=pW x;go_wp2;go_ret;exact ⟨rfl,aa w⟩
theorem kJ (w:World) (b A n c z k) (h:IZ w b A n c z k) (T:List UInt8) (hk:k≤1000000000) (ht:Tab w) (hT:Lib.itoa z=T):Calls Tryz.prog 85 #[.agg #[.bool b,.slice A n c]] w (aB w (ae T)):=by
 subst hT;obtain ⟨l,h1,rfl,h3⟩:=h;exact yN w b A n c l h1 (by omega) ht
theorem qY (w:World) (b A n c z k) (h:IZ w b A n c z k) (b' A' n' c' z' k') (h':IZ w b' A' n' c' z' k') (v:Int) (hv:eI z z'=v) (hk:k+k'≤1000000000):Calls Tryz.prog 83 #[.agg #[.bool b,.slice A n c],.agg #[.bool b',.slice A' n' c']] w (aB w (.int .i64 v)):=by
 subst hv;exact tR w b A n c z k h b' A' n' c' z' k' h' hk

theorem yP (w:World) (x:Int):Calls Tryz.prog 18 #[.iface 58 (.int .i64 x),.int .i64 x] w (aB w (.bool true)):=by
 go_in;go_wp2_with (go_at_call 46;(with_reducible refine (ss _ x).mono ?_);rintro e w1 ⟨rfl,hb1⟩);go_ret;exact ⟨rfl,hb1⟩
end Go.Proofs.YtndhgcfajlalhaaGreatDoor
namespace Bn
open Go.Lib
def x8 (F B:List UInt8):Bool:=okZ (bI F) && decide (0≤dT (bI F)) && decide (B≠[]) && B.all aM
def Am (F B:List UInt8):Int:=dT (bI F) * 10 ^ B.length+ap B
def BA (F B:List UInt8):Rat:=Rat.divInt (if bX F then -(Am F B) else Am F B) (10 ^ B.length)
def ya (F B:List UInt8):Bool:=okZ F && okZ B && decide (0 < dT B) && decide (dT B≠1) && decide (Nat.gcd (dT F).natAbs (dT B).natAbs=1)
inductive Bc (s:List UInt8) (x:Int) (q:Rat):Prop
  | big (h:65536 < s.length) (hx:x=4) (hq:q=0)
  | dot (F B:List UInt8) (hl:s.length≤65536) (hs:s=F ++ 46 :: B) (hF:46 ∉ F) (h64:s.length≤64) (h:x8 F B=true) (hx:x=0) (hq:q=BA F B)
  | dotNo (F B:List UInt8) (hl:s.length≤65536) (hs:s=F ++ 46 :: B) (hF:46 ∉ F) (h:64 < s.length∨x8 F B=false) (hx:x=2) (hq:q=0)
  | quo (F B:List UInt8) (hl:s.length≤65536) (hd:46 ∉ s) (hs:s=F ++ 47 :: B) (hF:47 ∉ F) (h:ya F B=true) (hx:x=0) (hq:q=Rat.divInt (dT F) (dT B))
  | quoNo (F B:List UInt8) (hl:s.length≤65536) (hd:46 ∉ s) (hs:s=F ++ 47 :: B) (hF:47 ∉ F) (h:ya F B=false) (hx:x=2) (hq:q=0)
  | whole (hl:s.length≤65536) (hd:46 ∉ s) (hs:47 ∉ s) (h:okZ s=true) (hx:x=0) (hq:q=((dT s:Int):Rat))
  | wholeNo (hl:s.length≤65536) (hd:46 ∉ s) (hs:47 ∉ s) (h:okZ s=false) (hx:x=2) (hq:q=0)
end Bn

/- Walks: linkworkref01.Parse. -/
namespace Go.Proofs.YtndhgcfajlalhaaGreatDoor
open Go Go.RowKit Bn
attribute [local go_sem ↓] Go.wp_at_zero Go.wp_at_succ

def su (w:World) (T:List UInt8) (m:Bool) (k:Nat) (e:Ending) (w':World):Prop :=
  if T.all aM=true then iP w (.int .i64 0) (if m then -(ap T:Int) else ap T) k e w' else iP w (.int .i64 2) 0 0 e w'
theorem su.bad {w w':World}{T:List UInt8}{m:Bool}{k:Nat}{e:Ending}(h:¬ T.all aM=true) (hr:iP w (.int .i64 2) 0 0 e w'):su w T m k e w':=by
 unfold su;rw [if_neg h];exact hr
theorem su.good {w w':World}{T:List UInt8}{m:Bool}{k:Nat}{e:Ending}(h:T.all aM=true) (hr:iP w (.int .i64 0) (if m then -(ap T:Int) else ap T) k e w'):su w T m k e w':=by
 unfold su;rw [if_pos h];exact hr
def be (x:Int):Value:=if x=0 then .nilIface else .iface 58 (.int .i64 x)
theorem bo:be 0=.nilIface:=if_pos rfl
theorem iP.mono {w w':World}{v:Value}{z:Int}{k j:Nat}{e:Ending}(h:iP w v z k e w') (hk:k≤j):iP w v z j e w':=by
 obtain ⟨b,A,n,c,h1,h2,h3⟩:=h;exact ⟨b,A,n,c,h1,h2.mono hk,h3⟩
theorem xn (s:List UInt8) (i:Nat):cj (s.drop i)=if atB s i=45 then 1 else 0:=by
 rcases Nat.lt_or_ge i s.length with h | h
 ·rw [bt h]
  unfold cj;split
  ·rename_i e;injection e with e1 e2;rw [if_pos e1]
  rename_i e;rw [if_neg (fun e1=>e _ (by rw [e1]))]
 rw [List.drop_eq_nil_of_le h,fq h];rfl
theorem uO (s:List UInt8) (i:Nat):dx (s.drop i)=if (atB s i == 46 || atB s i == 47) && decide (0 < ci (s.drop (i+1))) then 1+ci (s.drop (i+1)) else 0:=by
 rcases Nat.lt_or_ge i s.length with h | h
 ·rw [bt h];rfl
 rw [List.drop_eq_nil_of_le h,fq h];rfl
theorem jL {s:List UInt8}{i v:Nat}(hv:bH (s.drop i)=v):∃ m k,((m=1∧atB s i=45)∨(m=0∧atB s i≠45))∧ci (s.drop (i+m))=k ∧
 ((k=0∧v=0)∨(0 < k∧∃ d,atB s (i+m+k)=d∧((d≠46∧d≠47∧v=m+k)∨((d=46∨d=47)∧∃ t,ci (s.drop (i+m+k+1))=t∧((t=0∧v=m+k)∨(0 < t∧v=m+k+(1+t))))))):=by
 unfold bH at hv;rw [xn,List.drop_drop] at hv;obtain ⟨m,hm⟩:∃ m,(if atB s i=45 then 1 else 0)=m:=⟨_,rfl⟩;rw [hm] at hv
 have hm2:(m=1∧atB s i=45)∨(m=0∧atB s i≠45):=by
  by_cases h:atB s i=45
  ·rw [if_pos h] at hm;exact .inl ⟨hm.symm,h⟩
  rw [if_neg h] at hm;exact .inr ⟨hm.symm,h⟩
 obtain ⟨k,hk⟩:∃ k,ci (s.drop (i+m))=k:=⟨_,rfl⟩;rw [hk,List.drop_drop,uO,← Nat.add_assoc] at hv;refine ⟨m,k,hm2,hk,?_⟩;by_cases h0:k=0
 ·rw [if_pos h0] at hv;exact .inl ⟨h0,hv.symm⟩
 rw [if_neg h0] at hv;refine .inr ⟨by omega,_,rfl,?_⟩;by_cases h1:atB s (i+m+k)=46∨atB s (i+m+k)=47
 ·have e:(atB s (i+m+k) == 46 || atB s (i+m+k) == 47)=true:=by rcases h1 with h | h <;> rw [h] <;> rfl
  rw [e,Bool.true_and] at hv;refine .inr ⟨h1,_,rfl,?_⟩;by_cases h2:0 < ci (s.drop (i+m+k+1))
  ·rw [if_pos (decide_eq_true h2)] at hv;exact .inr ⟨h2,hv.symm⟩
  rw [if_neg (by rw [decide_eq_false h2];decide)] at hv;exact .inl ⟨by omega,by omega⟩
 have a1:atB s (i+m+k)≠46:=fun h=>h1 (.inl h)
 have a2:atB s (i+m+k)≠47:=fun h=>h1 (.inr h)
 rw [beq_eq_false_iff_ne.2 a1,beq_eq_false_iff_ne.2 a2,Bool.or_self,Bool.false_and,if_neg (by decide)] at hv;exact .inl ⟨a1,a2,by omega⟩
theorem dd {s:List UInt8}{i k:Nat}(h:ci (s.drop i)=k) (hk:0 < k):i+k≤s.length:=by
 have:=mJ (s.drop i);rw [h,List.length_drop] at this;omega
theorem oC (s:List UInt8):bX s=(atB s 0 == 45):=by
 cases s with
 | nil=>rfl
 | cons c t =>
  by_cases h:c=45
  ·subst h;rfl
  have e:(c == 45)=false:=beq_eq_false_iff_ne.2 h;show bX (c :: t)=(c == 45);rw [e];unfold bX;split
  ·rename_i h1;injection h1 with h2;exact absurd h2 h
  rfl
theorem mN {s:List UInt8}{i:Nat}{d:UInt8}(h:atB s i=d) (hd:d≠0):i < s.length:=by
 rcases Nat.lt_or_ge i s.length with x | x
 ·exact x
 rw [fq x] at h;exact absurd h.symm hd
theorem cA (w:World) (s:List UInt8) (hs:s.length < 4611686018427387904) (v:Nat) (hv:bH s=v):Calls Tryz.prog 109 #[ae s] w (aB w (.int .i64 (v:Nat))):=by
 have hszs:=aE s;obtain ⟨m,k,hm,hk,hc⟩:=jL (s:=s) (i:=0) hv;rw [Nat.zero_add] at hk;simp only [Nat.zero_add] at hc;clear hv;rcases hm with ⟨rfl,ham⟩ | ⟨rfl,ham⟩
 ·have h0d:0 < s.length:=mN ham (by decide)
  have hM:bX s=true:=by rw [oC];simp [ham]
  clear ham;rcases hc with ⟨hk0,hv0⟩ | ⟨hkp,d,hd,hc⟩
  ·subst hv0
   subst hk0;go_in;go_wp2_with fail;(with_reducible refine (bA _ (s) true hM).mono ?_);rintro e w1 ⟨rfl,q1⟩;have bw1:=(aa w).trans (q1.mono (aa w).size);have lw1:=q1.size;clear q1;go_wp2_with fail;(with_reducible refine (aF _ (s) (1) (1) (by omega) (by omega) hs (0) (by have h9:=hk;omega)).mono ?_);rintro e w2 ⟨rfl,q2⟩;have bw2:=bw1.trans (q2.mono bw1.size);have lw2:=q2.size;clear q2 bw1;go_wp2;go_ret;exact cJ (by omega) bw2
  have hle:1+k≤s.length:=by have:=dd hk hkp;omega
  have hk9:((k:Int) == 0)=false:=by simp;omega
  have hk8:((k:Int)=0)=False:=by simp;omega
  rcases hc with ⟨hd1,hd2,hv9⟩ | ⟨hdd,t,ht,hc⟩
  ·have e46:(((d.toNat:Nat):Int) == 46)=false:=(aD d 46).trans (by simp [hd1])
   have e47:(((d.toNat:Nat):Int) == 47)=false:=(aD d 47).trans (by simp [hd2]);clear hd1 hd2;replace hv9:=hv9.symm;subst hv9;have hwe:IntKind.i64.wrap (1+(k:Int))=1+(k:Int):=IntWalk.i64_in _ ⟨by omega,by omega⟩;rcases Nat.lt_or_ge (1+k) s.length with hl | hl
   ·have hget:∀ h,(⟨s.toArray⟩:ByteArray)[1+k]'h=d:=fun h=>by rw [← hd];exact (dC hl).symm
    have et:(1+(k:Int)).toNat=1+k:=by omega
    have hei:1+(k:Int) < (s.length:Int):=by omega
    have he0:(0:Int)≤1+(k:Int):=by omega
    go_in;go_wp2_with fail;(with_reducible refine (bA _ (s) true hM).mono ?_);rintro e w1 ⟨rfl,q1⟩;have bw1:=(aa w).trans (q1.mono (aa w).size);have lw1:=q1.size;clear q1;go_wp2_with fail;(with_reducible refine (aF _ (s) (1) (1) (by omega) (by omega) hs ((k:Int)) (by have h9:=hk;omega)).mono ?_);rintro e w2 ⟨rfl,q2⟩;have bw2:=bw1.trans (q2.mono bw1.size);have lw2:=q2.size;clear q2 bw1;go_wp2;go_ret;exact cJ (by omega) bw2
   have hei:(1+(k:Int) < (s.length:Int))=False:=by simp;omega
   go_in;go_wp2_with fail;(with_reducible refine (bA _ (s) true hM).mono ?_);rintro e w1 ⟨rfl,q1⟩;have bw1:=(aa w).trans (q1.mono (aa w).size);have lw1:=q1.size;clear q1;go_wp2_with fail;(with_reducible refine (aF _ (s) (1) (1) (by omega) (by omega) hs ((k:Int)) (by have h9:=hk;omega)).mono ?_);rintro e w2 ⟨rfl,q2⟩;have bw2:=bw1.trans (q2.mono bw1.size);have lw2:=q2.size;clear q2 bw1;go_wp2;go_ret;exact cJ (by omega) bw2
  have hl:1+k < s.length:=by rcases hdd with e | e <;> exact mN hd (by rw [e];decide)
  have hwe:IntKind.i64.wrap (1+(k:Int))=1+(k:Int):=IntWalk.i64_in _ ⟨by omega,by omega⟩;have hwe1:IntKind.i64.wrap (1+(k:Int)+1)=1+(k:Int)+1:=IntWalk.i64_in _ ⟨by omega,by omega⟩;have hget:∀ h,(⟨s.toArray⟩:ByteArray)[1+k]'h=d:=fun h=>by rw [← hd];exact (dC hl).symm
  have et:(1+(k:Int)).toNat=1+k:=by omega
  have hei:1+(k:Int) < (s.length:Int):=by omega
  have he0:(0:Int)≤1+(k:Int):=by omega
  rcases hdd with hd46 | hd47
  ·have e46:(((d.toNat:Nat):Int) == 46)=true:=(aD d 46).trans (by simp [hd46])
   clear hd46;rcases hc with ⟨ht0,hv9⟩ | ⟨htp,hv9⟩
   ·replace hv9:=hv9.symm
    subst hv9;subst ht0;go_in;go_wp2_with fail;(with_reducible refine (bA _ (s) true hM).mono ?_);rintro e w1 ⟨rfl,q1⟩;have bw1:=(aa w).trans (q1.mono (aa w).size);have lw1:=q1.size;clear q1;go_wp2_with fail;(with_reducible refine (aF _ (s) (1) (1) (by omega) (by omega) hs ((k:Int)) (by have h9:=hk;omega)).mono ?_);rintro e w2 ⟨rfl,q2⟩;have bw2:=bw1.trans (q2.mono bw1.size);have lw2:=q2.size;clear q2 bw1;go_wp2_with fail;(with_reducible refine (aF _ (s) ((1+(k:Int)+1)) (1+k+1) (by omega) (by omega) hs (0) (by have h9:=ht;omega)).mono ?_);rintro e w3 ⟨rfl,q3⟩;have bw3:=bw2.trans (q3.mono bw2.size);have lw3:=q3.size;clear q3 bw2;go_wp2;go_ret;exact cJ (by omega) bw3
   replace hv9:=hv9.symm;subst hv9;have ht9:((0:Int) < (t:Int))=True:=by simp;omega
   have htl:1+k+1+t≤s.length:=by have:=dd ht htp;omega
   have hwt:IntKind.i64.wrap (1+(t:Int))=1+(t:Int):=IntWalk.i64_in _ ⟨by omega,by omega⟩;have hwt2:IntKind.i64.wrap (1+(k:Int)+(1+(t:Int)))=1+(k:Int)+(1+(t:Int)):=IntWalk.i64_in _ ⟨by omega,by omega⟩;go_in;go_wp2_with fail;(with_reducible refine (bA _ (s) true hM).mono ?_);rintro e w1 ⟨rfl,q1⟩;have bw1:=(aa w).trans (q1.mono (aa w).size);have lw1:=q1.size;clear q1;go_wp2_with fail;(with_reducible refine (aF _ (s) (1) (1) (by omega) (by omega) hs ((k:Int)) (by have h9:=hk;omega)).mono ?_);rintro e w2 ⟨rfl,q2⟩;have bw2:=bw1.trans (q2.mono bw1.size);have lw2:=q2.size;clear q2 bw1;go_wp2_with fail;(with_reducible refine (aF _ (s) ((1+(k:Int)+1)) (1+k+1) (by omega) (by omega) hs ((t:Int)) (by have h9:=ht;omega)).mono ?_);rintro e w3 ⟨rfl,q3⟩;have bw3:=bw2.trans (q3.mono bw2.size);have lw3:=q3.size;clear q3 bw2;go_wp2;go_ret;exact cJ (by omega) bw3
  have e46:(((d.toNat:Nat):Int) == 46)=false:=(aD d 46).trans (by simp [hd47]);have e47:(((d.toNat:Nat):Int) == 47)=true:=(aD d 47).trans (by simp [hd47]);clear hd47;rcases hc with ⟨ht0,hv9⟩ | ⟨htp,hv9⟩
  ·replace hv9:=hv9.symm
   subst hv9;subst ht0;go_in;go_wp2_with fail;(with_reducible refine (bA _ (s) true hM).mono ?_);rintro e w1 ⟨rfl,q1⟩;have bw1:=(aa w).trans (q1.mono (aa w).size);have lw1:=q1.size;clear q1;go_wp2_with fail;(with_reducible refine (aF _ (s) (1) (1) (by omega) (by omega) hs ((k:Int)) (by have h9:=hk;omega)).mono ?_);rintro e w2 ⟨rfl,q2⟩;have bw2:=bw1.trans (q2.mono bw1.size);have lw2:=q2.size;clear q2 bw1;go_wp2_with fail;(with_reducible refine (aF _ (s) ((1+(k:Int)+1)) (1+k+1) (by omega) (by omega) hs (0) (by have h9:=ht;omega)).mono ?_);rintro e w3 ⟨rfl,q3⟩;have bw3:=bw2.trans (q3.mono bw2.size);have lw3:=q3.size;clear q3 bw2;go_wp2;go_ret;exact cJ (by omega) bw3
  replace hv9:=hv9.symm;subst hv9;have ht9:((0:Int) < (t:Int))=True:=by simp;omega
  have htl:1+k+1+t≤s.length:=by have:=dd ht htp;omega
  have hwt:IntKind.i64.wrap (1+(t:Int))=1+(t:Int):=IntWalk.i64_in _ ⟨by omega,by omega⟩;have hwt2:IntKind.i64.wrap (1+(k:Int)+(1+(t:Int)))=1+(k:Int)+(1+(t:Int)):=IntWalk.i64_in _ ⟨by omega,by omega⟩;go_in;go_wp2_with fail;(with_reducible refine (bA _ (s) true hM).mono ?_);rintro e w1 ⟨rfl,q1⟩;have bw1:=(aa w).trans (q1.mono (aa w).size);have lw1:=q1.size;clear q1;go_wp2_with fail;(with_reducible refine (aF _ (s) (1) (1) (by omega) (by omega) hs ((k:Int)) (by have h9:=hk;omega)).mono ?_);rintro e w2 ⟨rfl,q2⟩;have bw2:=bw1.trans (q2.mono bw1.size);have lw2:=q2.size;clear q2 bw1;go_wp2_with fail;(with_reducible refine (aF _ (s) ((1+(k:Int)+1)) (1+k+1) (by omega) (by omega) hs ((t:Int)) (by have h9:=ht;omega)).mono ?_);rintro e w3 ⟨rfl,q3⟩;have bw3:=bw2.trans (q3.mono bw2.size);have lw3:=q3.size;clear q3 bw2;go_wp2;go_ret;exact cJ (by omega) bw3
 simp only [Nat.zero_add] at hk hc;have hM:bX s=false:=by rw [oC];simp [ham]
 clear ham;rcases hc with ⟨hk0,hv0⟩ | ⟨hkp,d,hd,hc⟩
 ·subst hv0
  subst hk0;go_in;go_wp2_with fail;(with_reducible refine (bA _ (s) false hM).mono ?_);rintro e w1 ⟨rfl,q1⟩;have bw1:=(aa w).trans (q1.mono (aa w).size);have lw1:=q1.size;clear q1;go_wp2_with fail;(with_reducible refine (aF _ (s) (0) (0) (by omega) (by omega) hs (0) (by have h9:=hk;omega)).mono ?_);rintro e w2 ⟨rfl,q2⟩;have bw2:=bw1.trans (q2.mono bw1.size);have lw2:=q2.size;clear q2 bw1;go_wp2;go_ret;exact cJ (by omega) bw2
 have hle:k≤s.length:=by have:=dd hk hkp;omega
 have hk9:((k:Int) == 0)=false:=by simp;omega
 have hk8:((k:Int)=0)=False:=by simp;omega
 rcases hc with ⟨hd1,hd2,hv9⟩ | ⟨hdd,t,ht,hc⟩
 ·have e46:(((d.toNat:Nat):Int) == 46)=false:=(aD d 46).trans (by simp [hd1])
  have e47:(((d.toNat:Nat):Int) == 47)=false:=(aD d 47).trans (by simp [hd2]);clear hd1 hd2;replace hv9:=hv9.symm;subst hv9;rcases Nat.lt_or_ge (k) s.length with hl | hl
  ·have hget:∀ h,(⟨s.toArray⟩:ByteArray)[k]'h=d:=fun h=>by rw [← hd];exact (dC hl).symm
   have et:((k:Int)).toNat=k:=by omega
   have hei:(k:Int) < (s.length:Int):=by omega
   have he0:(0:Int)≤(k:Int):=by omega
   go_in;go_wp2_with fail;(with_reducible refine (bA _ (s) false hM).mono ?_);rintro e w1 ⟨rfl,q1⟩;have bw1:=(aa w).trans (q1.mono (aa w).size);have lw1:=q1.size;clear q1;go_wp2_with fail;(with_reducible refine (aF _ (s) (0) (0) (by omega) (by omega) hs ((k:Int)) (by have h9:=hk;omega)).mono ?_);rintro e w2 ⟨rfl,q2⟩;have bw2:=bw1.trans (q2.mono bw1.size);have lw2:=q2.size;clear q2 bw1;go_wp2;go_ret;exact cJ (by omega) bw2
  have hei:((k:Int) < (s.length:Int))=False:=by simp;omega
  go_in;go_wp2_with fail;(with_reducible refine (bA _ (s) false hM).mono ?_);rintro e w1 ⟨rfl,q1⟩;have bw1:=(aa w).trans (q1.mono (aa w).size);have lw1:=q1.size;clear q1;go_wp2_with fail;(with_reducible refine (aF _ (s) (0) (0) (by omega) (by omega) hs ((k:Int)) (by have h9:=hk;omega)).mono ?_);rintro e w2 ⟨rfl,q2⟩;have bw2:=bw1.trans (q2.mono bw1.size);have lw2:=q2.size;clear q2 bw1;go_wp2;go_ret;exact cJ (by omega) bw2
 have hl:k < s.length:=by rcases hdd with e | e <;> exact mN hd (by rw [e];decide)
 have hwe1:IntKind.i64.wrap ((k:Int)+1)=(k:Int)+1:=IntWalk.i64_in _ ⟨by omega,by omega⟩;have hget:∀ h,(⟨s.toArray⟩:ByteArray)[k]'h=d:=fun h=>by rw [← hd];exact (dC hl).symm
 have et:((k:Int)).toNat=k:=by omega
 have hei:(k:Int) < (s.length:Int):=by omega
 have he0:(0:Int)≤(k:Int):=by omega
 rcases hdd with hd46 | hd47
 ·have e46:(((d.toNat:Nat):Int) == 46)=true:=(aD d 46).trans (by simp [hd46])
  clear hd46;rcases hc with ⟨ht0,hv9⟩ | ⟨htp,hv9⟩
  ·replace hv9:=hv9.symm
   subst hv9;subst ht0;go_in;go_wp2_with fail;(with_reducible refine (bA _ (s) false hM).mono ?_);rintro e w1 ⟨rfl,q1⟩;have bw1:=(aa w).trans (q1.mono (aa w).size);have lw1:=q1.size;clear q1;go_wp2_with fail;(with_reducible refine (aF _ (s) (0) (0) (by omega) (by omega) hs ((k:Int)) (by have h9:=hk;omega)).mono ?_);rintro e w2 ⟨rfl,q2⟩;have bw2:=bw1.trans (q2.mono bw1.size);have lw2:=q2.size;clear q2 bw1;go_wp2_with fail;(with_reducible refine (aF _ (s) (((k:Int)+1)) (k+1) (by omega) (by omega) hs (0) (by have h9:=ht;omega)).mono ?_);rintro e w3 ⟨rfl,q3⟩;have bw3:=bw2.trans (q3.mono bw2.size);have lw3:=q3.size;clear q3 bw2;go_wp2;go_ret;exact cJ (by omega) bw3
  replace hv9:=hv9.symm;subst hv9;have ht9:((0:Int) < (t:Int))=True:=by simp;omega
  have htl:k+1+t≤s.length:=by have:=dd ht htp;omega
  have hwt:IntKind.i64.wrap (1+(t:Int))=1+(t:Int):=IntWalk.i64_in _ ⟨by omega,by omega⟩;have hwt2:IntKind.i64.wrap ((k:Int)+(1+(t:Int)))=(k:Int)+(1+(t:Int)):=IntWalk.i64_in _ ⟨by omega,by omega⟩;go_in;go_wp2_with fail;(with_reducible refine (bA _ (s) false hM).mono ?_);rintro e w1 ⟨rfl,q1⟩;have bw1:=(aa w).trans (q1.mono (aa w).size);have lw1:=q1.size;clear q1;go_wp2_with fail;(with_reducible refine (aF _ (s) (0) (0) (by omega) (by omega) hs ((k:Int)) (by have h9:=hk;omega)).mono ?_);rintro e w2 ⟨rfl,q2⟩;have bw2:=bw1.trans (q2.mono bw1.size);have lw2:=q2.size;clear q2 bw1;go_wp2_with fail;(with_reducible refine (aF _ (s) (((k:Int)+1)) (k+1) (by omega) (by omega) hs ((t:Int)) (by have h9:=ht;omega)).mono ?_);rintro e w3 ⟨rfl,q3⟩;have bw3:=bw2.trans (q3.mono bw2.size);have lw3:=q3.size;clear q3 bw2;go_wp2;go_ret;exact cJ (by omega) bw3
 have e46:(((d.toNat:Nat):Int) == 46)=false:=(aD d 46).trans (by simp [hd47]);have e47:(((d.toNat:Nat):Int) == 47)=true:=(aD d 47).trans (by simp [hd47]);clear hd47;rcases hc with ⟨ht0,hv9⟩ | ⟨htp,hv9⟩
 ·replace hv9:=hv9.symm
  subst hv9;subst ht0;go_in;go_wp2_with fail;(with_reducible refine (bA _ (s) false hM).mono ?_);rintro e w1 ⟨rfl,q1⟩;have bw1:=(aa w).trans (q1.mono (aa w).size);have lw1:=q1.size;clear q1;go_wp2_with fail;(with_reducible refine (aF _ (s) (0) (0) (by omega) (by omega) hs ((k:Int)) (by have h9:=hk;omega)).mono ?_);rintro e w2 ⟨rfl,q2⟩;have bw2:=bw1.trans (q2.mono bw1.size);have lw2:=q2.size;clear q2 bw1;go_wp2_with fail;(with_reducible refine (aF _ (s) (((k:Int)+1)) (k+1) (by omega) (by omega) hs (0) (by have h9:=ht;omega)).mono ?_);rintro e w3 ⟨rfl,q3⟩;have bw3:=bw2.trans (q3.mono bw2.size);have lw3:=q3.size;clear q3 bw2;go_wp2;go_ret;exact cJ (by omega) bw3
 replace hv9:=hv9.symm;subst hv9;have ht9:((0:Int) < (t:Int))=True:=by simp;omega
 have htl:k+1+t≤s.length:=by have:=dd ht htp;omega
 have hwt:IntKind.i64.wrap (1+(t:Int))=1+(t:Int):=IntWalk.i64_in _ ⟨by omega,by omega⟩;have hwt2:IntKind.i64.wrap ((k:Int)+(1+(t:Int)))=(k:Int)+(1+(t:Int)):=IntWalk.i64_in _ ⟨by omega,by omega⟩;go_in;go_wp2_with fail;(with_reducible refine (bA _ (s) false hM).mono ?_);rintro e w1 ⟨rfl,q1⟩;have bw1:=(aa w).trans (q1.mono (aa w).size);have lw1:=q1.size;clear q1;go_wp2_with fail;(with_reducible refine (aF _ (s) (0) (0) (by omega) (by omega) hs ((k:Int)) (by have h9:=hk;omega)).mono ?_);rintro e w2 ⟨rfl,q2⟩;have bw2:=bw1.trans (q2.mono bw1.size);have lw2:=q2.size;clear q2 bw1;go_wp2_with fail;(with_reducible refine (aF _ (s) (((k:Int)+1)) (k+1) (by omega) (by omega) hs ((t:Int)) (by have h9:=ht;omega)).mono ?_);rintro e w3 ⟨rfl,q3⟩;have bw3:=bw2.trans (q3.mono bw2.size);have lw3:=q3.size;clear q3 bw2;go_wp2;go_ret;exact cJ (by omega) bw3
theorem sw (s:List UInt8) (i:Nat):mI (s.drop i)=(ch (atB s i) || atB s i == 95 || atB s i == 46 || atB s i == 47):=by
 rcases Nat.lt_or_ge i s.length with h | h
 ·rw [bt h];rfl
 rw [List.drop_eq_nil_of_le h,fq h];rfl
def yQ:qU→Value
  | .ok k n=>.tuple #[.int .i64 (k:Nat),.int .i64 (n:Nat),.nilIface]
  | .err x=>.tuple #[.int .i64 0,.int .i64 0,.iface 58 (.int .i64 (x:Nat))]
theorem oE {s:List UInt8}{i:Nat}{f:qU}(hi:i < s.length) (hf:bc (s.drop i)=f):∃ c,atB s i=c∧∃ n,bp (s.drop i)=n∧∃ m,bH (s.drop i)=m∧n≤s.length - i∧m≤s.length - i ∧
 ((cH c=true∧n=0∧m=0∧f=.ok 2 1)∨(cH c=false∧24 < n∧f=.err 5)∨(cH c=false∧0 < n∧n≤24∧f=.ok 0 n) ∨
  (cH c=false∧n=0∧m=0∧f=.err 2)∨(cH c=false∧n=0∧60 < m∧f=.err 4) ∨
  (cH c=false∧n=0∧0 < m∧m≤60∧∃ d,atB s (i+m)=d∧((ch d=true∧f=.err 2)∨(ch d=false∧d=95∧f=.err 2)∨(ch d=false∧d=46∧f=.err 2)∨(ch d=false∧d=47∧f=.err 2) ∨
   (ch d=false∧d≠95∧d≠46∧d≠47∧f=.ok 1 m)))):=by
 have h1:=kD (s.drop i);have h2:=mK (s.drop i);rw [List.length_drop] at h1 h2;refine ⟨_,rfl,_,rfl,_,rfl,h1,h2,?_⟩;subst hf;by_cases hs:cH (atB s i)=true
 ·left
  have e0:bp (s.drop i)=0:=ox (by
   rw [l8] at hs
   rw [lZ];simp at hs ⊢;omega)
  have e1:bH (s.drop i)=0:=by
   obtain ⟨m,k,hm,hk,hc⟩:=jL (s:=s) (i:=i) rfl;rw [l8] at hs;rcases hm with ⟨_,h⟩ | ⟨rfl,h⟩
   ·rw [h] at hs;exact absurd hs (by decide)
   rcases hc with ⟨_,h⟩ | ⟨h,_⟩
   ·exact h
   exfalso;rw [Nat.add_zero,bt hi] at hk;unfold ci at hk;rw [List.takeWhile_cons,if_neg (by rw [ot];simp at hs ⊢;omega)] at hk;simp at hk;omega
  refine ⟨hs,e0,e1,?_⟩;rw [bt hi,bc,if_pos hs]
 have hs:cH (atB s i)=false:=by simpa using hs
 right
 have e:bc (s.drop i)=(if 0 < bp (s.drop i) then (if 24 < bp (s.drop i) then .err 5 else .ok 0 (bp (s.drop i)))
  else if bH (s.drop i)=0 then .err 2 else if 60 < bH (s.drop i) then .err 4 else if mI ((s.drop i).drop (bH (s.drop i))) then .err 2 else .ok 1 (bH (s.drop i))):=by
  conv=>lhs;rw [bt hi]
  rw [bc,if_neg (by rw [hs];decide),← bt hi]
 rw [e,List.drop_drop];by_cases a:0 < bp (s.drop i)
 ·rw [if_pos a]
  by_cases b:24 < bp (s.drop i)
  ·rw [if_pos b];exact .inl ⟨hs,b,rfl⟩
  rw [if_neg b];exact .inr (.inl ⟨hs,a,by omega,rfl⟩)
 rw [if_neg a];have a:bp (s.drop i)=0:=by omega
 right;right;by_cases b:bH (s.drop i)=0
 ·rw [if_pos b];exact .inl ⟨hs,a,b,rfl⟩
 rw [if_neg b];by_cases b2:60 < bH (s.drop i)
 ·rw [if_pos b2];exact .inr (.inl ⟨hs,a,b2,rfl⟩)
 rw [if_neg b2];refine .inr (.inr ⟨hs,a,by omega,by omega,_,rfl,?_⟩);rw [sw];generalize atB s (i+bH (s.drop i))=d;cases hl:ch d
 ·by_cases c1:d=95
  ·subst c1;exact .inr (.inl ⟨rfl,rfl,rfl⟩)
  by_cases c2:d=46
  ·subst c2;exact .inr (.inr (.inl ⟨rfl,rfl,rfl⟩))
  by_cases c3:d=47
  ·subst c3;exact .inr (.inr (.inr (.inl ⟨rfl,rfl,rfl⟩)))
  refine .inr (.inr (.inr (.inr ⟨rfl,c1,c2,c3,?_⟩)));rw [beq_eq_false_iff_ne.2 c1,beq_eq_false_iff_ne.2 c2,beq_eq_false_iff_ne.2 c3];rfl
 exact .inl ⟨rfl,rfl⟩
theorem fP (w:World) (c:UInt8) (v:Bool) (hv:cH c=v):Calls Tryz.prog 146 #[.string ⟨#[123,125,59,46]⟩,.int .u8 (c.toNat:Nat)] w (fun e w'=>∃ x:Int,decide (0≤x)=v∧e=.returned (.int .i64 x)∧Below w.heap.size w w'):=by
 refine (Tryz.strings_IndexByte ⟨#[123,125,59,46]⟩ (c.toNat:Nat) w).mono fun e w' ⟨he,hw⟩=>⟨_,?_,he,hw ▸ aa _⟩
 have ec:((c.toNat:Nat):Int).toNat.toUInt8=c:=by simp
 rw [ec,← hv];unfold cH;show decide (0≤Lib.indexByte [123,125,59,46] c)=_;unfold Lib.indexByte Lib.indexByte Lib.indexByte Lib.indexByte Lib.indexByte;by_cases h1:c=123
 ·subst h1;rfl
 by_cases h2:c=125
 ·subst h2;rfl
 by_cases h3:c=59
 ·subst h3;rfl
 by_cases h4:c=46
 ·subst h4;rfl
 have g:∀ {a:UInt8},c≠a→(a == c)=false:=fun h=>beq_eq_false_iff_ne.2 (fun e=>h e.symm)
 rw [beq_eq_false_iff_ne.2 h1,beq_eq_false_iff_ne.2 h2,beq_eq_false_iff_ne.2 h3,beq_eq_false_iff_ne.2 h4];simp [g h1,g h2,g h3,g h4]
theorem qZ (w:World) (s:List UInt8) (hp:0 < s.length) (hs:s.length < 4611686018427387904) (f:qU) (hf:bc s=f):Calls Tryz.prog 103 #[ae s] w (aB w (yQ f)):=by
 have hszs:=aE s;obtain ⟨c,hc0,n,hwn,m,hnm,hnl,hml,hcs⟩:=oE (s:=s) (i:=0) hp hf;clear hf;have hwn:bp s=n:=hwn;have hnm:bH s=m:=hnm;have hget0:∀ h,(⟨s.toArray⟩:ByteArray)[0]'h=c:=fun h=>by rw [← hc0];exact (dC hp).symm
 have hp1:(0:Int) < (s.length:Int):=by omega
 clear hc0;rcases hcs with ⟨hsg,hn0,hm0,rfl⟩ | ⟨hsg,hn1,rfl⟩ | ⟨hsg,hn1,hn2,rfl⟩ | ⟨hsg,hn0,hm0,rfl⟩ | ⟨hsg,hn0,hm1,rfl⟩ | ⟨hsg,hn0,hm1,hm2,d,hd,hc⟩
 ·go_in
  go_wp2_with fail;(with_reducible refine (fP _ c _ hsg).mono ?_);rintro e w1 ⟨x,hx,rfl,hb1⟩;have hx9:(0≤x)=True:=by simpa using hx
  clear hx;have bw1:=hb1;go_wp2_with fail;refine bodyPost_ret (v:=.tuple #[.int .i64 2,.int .i64 1,.nilIface]) (by simp [results,Tryz.results103,go_sem, *] <;> trivial) rfl ?_;exact ⟨rfl,bw1⟩
 ·have hgt:((0:Int) < (n:Int))=True:=by simp;omega
  have hgt2:((24:Int) < (n:Int))=True:=by simp;omega
  go_in;go_wp2_with fail;(with_reducible refine (fP _ c _ hsg).mono ?_);rintro e w1 ⟨x,hx,rfl,hb1⟩;have hx9:(0≤x)=False:=by simpa using hx
  clear hx;have bw1:=hb1;go_wp2_with fail;(with_reducible refine (cT _ (s) hs (n) hwn).mono ?_);rintro e w2 ⟨rfl,q2⟩;have bw2:=bw1.trans (q2.mono bw1.size);have lw2:=q2.size;clear q2;go_wp2_with fail;refine bodyPost_ret (v:=.tuple #[.int .i64 0,.int .i64 0,.iface 58 (.int .i64 5)]) (by simp [results,Tryz.results103,go_sem, *] <;> trivial) rfl ?_;exact ⟨rfl,bw2⟩
 ·have hgt:((0:Int) < (n:Int))=True:=by simp;omega
  have hgt2:((24:Int) < (n:Int))=False:=by simp;omega
  go_in;go_wp2_with fail;(with_reducible refine (fP _ c _ hsg).mono ?_);rintro e w1 ⟨x,hx,rfl,hb1⟩;have hx9:(0≤x)=False:=by simpa using hx
  clear hx;have bw1:=hb1;go_wp2_with fail;(with_reducible refine (cT _ (s) hs (n) hwn).mono ?_);rintro e w2 ⟨rfl,q2⟩;have bw2:=bw1.trans (q2.mono bw1.size);have lw2:=q2.size;clear q2;go_wp2_with fail;refine bodyPost_ret (v:=.tuple #[.int .i64 0,.int .i64 n,.nilIface]) (by simp [results,Tryz.results103,go_sem, *] <;> trivial) rfl ?_;exact ⟨rfl,bw2⟩
 ·subst hn0
  subst hm0;go_in;go_wp2_with fail;(with_reducible refine (fP _ c _ hsg).mono ?_);rintro e w1 ⟨x,hx,rfl,hb1⟩;have hx9:(0≤x)=False:=by simpa using hx
  clear hx;have bw1:=hb1;go_wp2_with fail;(with_reducible refine (cT _ (s) hs (0) hwn).mono ?_);rintro e w2 ⟨rfl,q2⟩;have bw2:=bw1.trans (q2.mono bw1.size);have lw2:=q2.size;clear q2;go_wp2_with fail;(with_reducible refine (cA _ (s) hs (0) hnm).mono ?_);rintro e w3 ⟨rfl,q3⟩;have bw3:=bw2.trans (q3.mono bw2.size);have lw3:=q3.size;clear q3 bw2;go_wp2_with fail;refine bodyPost_ret (v:=.tuple #[.int .i64 0,.int .i64 0,.iface 58 (.int .i64 2)]) (by simp [results,Tryz.results103,go_sem, *] <;> trivial) rfl ?_;exact ⟨rfl,bw3⟩
 ·subst hn0
  have hm9:((m:Int) == 0)=false:=by simp;omega
  have hg2:((60:Int) < (m:Int))=True:=by simp;omega
  go_in;go_wp2_with fail;(with_reducible refine (fP _ c _ hsg).mono ?_);rintro e w1 ⟨x,hx,rfl,hb1⟩;have hx9:(0≤x)=False:=by simpa using hx
  clear hx;have bw1:=hb1;go_wp2_with fail;(with_reducible refine (cT _ (s) hs (0) hwn).mono ?_);rintro e w2 ⟨rfl,q2⟩;have bw2:=bw1.trans (q2.mono bw1.size);have lw2:=q2.size;clear q2;go_wp2_with fail;(with_reducible refine (cA _ (s) hs (m) hnm).mono ?_);rintro e w3 ⟨rfl,q3⟩;have bw3:=bw2.trans (q3.mono bw2.size);have lw3:=q3.size;clear q3 bw2;go_wp2_with fail;refine bodyPost_ret (v:=.tuple #[.int .i64 0,.int .i64 0,.iface 58 (.int .i64 4)]) (by simp [results,Tryz.results103,go_sem, *] <;> trivial) rfl ?_;exact ⟨rfl,bw3⟩
 subst hn0;have hm9:((m:Int) == 0)=false:=by simp;omega
 have hg2:((60:Int) < (m:Int))=False:=by simp;omega
 rw [Nat.zero_add] at hd;rcases Nat.lt_or_ge m s.length with hl9 | hl9
 ·have hget:∀ h,(⟨s.toArray⟩:ByteArray)[m]'h=d:=fun h=>by rw [← hd];exact (dC hl9).symm
  have hml1:((m:Int) < (s.length:Int))=True:=by simp;omega
  have hml2:m < s.length:=hl9;clear hd;rcases hc with ⟨hl,rfl⟩ | ⟨hl,h95,rfl⟩ | ⟨hl,h46,rfl⟩ | ⟨hl,h47,rfl⟩ | ⟨hl,h95,h46,h47,rfl⟩
  ·skip
   go_in;go_wp2_with fail;(with_reducible refine (fP _ c _ hsg).mono ?_);rintro e w1 ⟨x,hx,rfl,hb1⟩;have hx9:(0≤x)=False:=by simpa using hx
   clear hx;have bw1:=hb1;go_wp2_with fail;(with_reducible refine (cT _ (s) hs (0) hwn).mono ?_);rintro e w2 ⟨rfl,q2⟩;have bw2:=bw1.trans (q2.mono bw1.size);have lw2:=q2.size;clear q2;go_wp2_with fail;(with_reducible refine (cA _ (s) hs (m) hnm).mono ?_);rintro e w3 ⟨rfl,q3⟩;have bw3:=bw2.trans (q3.mono bw2.size);have lw3:=q3.size;clear q3 bw2;go_wp2_with fail;(with_reducible refine (cw _ d true hl).mono ?_);rintro e w4 ⟨rfl,q4⟩;have bw4:=bw3.trans (q4.mono bw3.size);have lw4:=q4.size;clear q4 bw3;go_wp2_with fail;refine bodyPost_ret (v:=.tuple #[.int .i64 0,.int .i64 0,.iface 58 (.int .i64 2)]) (by simp [results,Tryz.results103,go_sem, *] <;> trivial) rfl ?_;exact ⟨rfl,bw4⟩
  ·have e95:(((d.toNat:Nat):Int) == 95)=true:=(aD d 95).trans (by simp [h95])
   clear h95;go_in;go_wp2_with fail;(with_reducible refine (fP _ c _ hsg).mono ?_);rintro e w1 ⟨x,hx,rfl,hb1⟩;have hx9:(0≤x)=False:=by simpa using hx
   clear hx;have bw1:=hb1;go_wp2_with fail;(with_reducible refine (cT _ (s) hs (0) hwn).mono ?_);rintro e w2 ⟨rfl,q2⟩;have bw2:=bw1.trans (q2.mono bw1.size);have lw2:=q2.size;clear q2;go_wp2_with fail;(with_reducible refine (cA _ (s) hs (m) hnm).mono ?_);rintro e w3 ⟨rfl,q3⟩;have bw3:=bw2.trans (q3.mono bw2.size);have lw3:=q3.size;clear q3 bw2;go_wp2_with fail;(with_reducible refine (cw _ d false hl).mono ?_);rintro e w4 ⟨rfl,q4⟩;have bw4:=bw3.trans (q4.mono bw3.size);have lw4:=q4.size;clear q4 bw3;go_wp2_with fail;refine bodyPost_ret (v:=.tuple #[.int .i64 0,.int .i64 0,.iface 58 (.int .i64 2)]) (by simp [results,Tryz.results103,go_sem, *] <;> trivial) rfl ?_;exact ⟨rfl,bw4⟩
  ·have e95:(((d.toNat:Nat):Int) == 95)=false:=(aD d 95).trans (by simp [h46])
   have e46:(((d.toNat:Nat):Int) == 46)=true:=(aD d 46).trans (by simp [h46]);clear h46;go_in;go_wp2_with fail;(with_reducible refine (fP _ c _ hsg).mono ?_);rintro e w1 ⟨x,hx,rfl,hb1⟩;have hx9:(0≤x)=False:=by simpa using hx
   clear hx;have bw1:=hb1;go_wp2_with fail;(with_reducible refine (cT _ (s) hs (0) hwn).mono ?_);rintro e w2 ⟨rfl,q2⟩;have bw2:=bw1.trans (q2.mono bw1.size);have lw2:=q2.size;clear q2;go_wp2_with fail;(with_reducible refine (cA _ (s) hs (m) hnm).mono ?_);rintro e w3 ⟨rfl,q3⟩;have bw3:=bw2.trans (q3.mono bw2.size);have lw3:=q3.size;clear q3 bw2;go_wp2_with fail;(with_reducible refine (cw _ d false hl).mono ?_);rintro e w4 ⟨rfl,q4⟩;have bw4:=bw3.trans (q4.mono bw3.size);have lw4:=q4.size;clear q4 bw3;go_wp2_with fail;refine bodyPost_ret (v:=.tuple #[.int .i64 0,.int .i64 0,.iface 58 (.int .i64 2)]) (by simp [results,Tryz.results103,go_sem, *] <;> trivial) rfl ?_;exact ⟨rfl,bw4⟩
  ·have e95:(((d.toNat:Nat):Int) == 95)=false:=(aD d 95).trans (by simp [h47])
   have e46:(((d.toNat:Nat):Int) == 46)=false:=(aD d 46).trans (by simp [h47]);have e47:(((d.toNat:Nat):Int) == 47)=true:=(aD d 47).trans (by simp [h47]);clear h47;go_in;go_wp2_with fail;(with_reducible refine (fP _ c _ hsg).mono ?_);rintro e w1 ⟨x,hx,rfl,hb1⟩;have hx9:(0≤x)=False:=by simpa using hx
   clear hx;have bw1:=hb1;go_wp2_with fail;(with_reducible refine (cT _ (s) hs (0) hwn).mono ?_);rintro e w2 ⟨rfl,q2⟩;have bw2:=bw1.trans (q2.mono bw1.size);have lw2:=q2.size;clear q2;go_wp2_with fail;(with_reducible refine (cA _ (s) hs (m) hnm).mono ?_);rintro e w3 ⟨rfl,q3⟩;have bw3:=bw2.trans (q3.mono bw2.size);have lw3:=q3.size;clear q3 bw2;go_wp2_with fail;(with_reducible refine (cw _ d false hl).mono ?_);rintro e w4 ⟨rfl,q4⟩;have bw4:=bw3.trans (q4.mono bw3.size);have lw4:=q4.size;clear q4 bw3;go_wp2_with fail;refine bodyPost_ret (v:=.tuple #[.int .i64 0,.int .i64 0,.iface 58 (.int .i64 2)]) (by simp [results,Tryz.results103,go_sem, *] <;> trivial) rfl ?_;exact ⟨rfl,bw4⟩
  have e95:(((d.toNat:Nat):Int) == 95)=false:=(aD d 95).trans (by simp [h95]);have e46:(((d.toNat:Nat):Int) == 46)=false:=(aD d 46).trans (by simp [h46]);have e47:(((d.toNat:Nat):Int) == 47)=false:=(aD d 47).trans (by simp [h47]);clear h95 h46 h47;go_in;go_wp2_with fail;(with_reducible refine (fP _ c _ hsg).mono ?_);rintro e w1 ⟨x,hx,rfl,hb1⟩;have hx9:(0≤x)=False:=by simpa using hx
  clear hx;have bw1:=hb1;go_wp2_with fail;(with_reducible refine (cT _ (s) hs (0) hwn).mono ?_);rintro e w2 ⟨rfl,q2⟩;have bw2:=bw1.trans (q2.mono bw1.size);have lw2:=q2.size;clear q2;go_wp2_with fail;(with_reducible refine (cA _ (s) hs (m) hnm).mono ?_);rintro e w3 ⟨rfl,q3⟩;have bw3:=bw2.trans (q3.mono bw2.size);have lw3:=q3.size;clear q3 bw2;go_wp2_with fail;(with_reducible refine (cw _ d false hl).mono ?_);rintro e w4 ⟨rfl,q4⟩;have bw4:=bw3.trans (q4.mono bw3.size);have lw4:=q4.size;clear q4 bw3;go_wp2_with fail;refine bodyPost_ret (v:=.tuple #[.int .i64 1,.int .i64 m,.nilIface]) (by simp [results,Tryz.results103,go_sem, *] <;> trivial) rfl ?_;exact ⟨rfl,bw4⟩
 have hml1:((m:Int) < (s.length:Int))=False:=by simp;omega
 have hd0:d=0:=by rw [← hd];exact fq hl9
 subst hd0;clear hd;rcases hc with ⟨hl,rfl⟩ | ⟨hl,h95,rfl⟩ | ⟨hl,h46,rfl⟩ | ⟨hl,h47,rfl⟩ | ⟨hl,h95,h46,h47,rfl⟩
 ·exact absurd hl (by decide)
 ·exact absurd h95 (by decide)
 ·exact absurd h46 (by decide)
 ·exact absurd h47 (by decide)
 clear h95 h46 h47 hl;go_in;go_wp2_with fail;(with_reducible refine (fP _ c _ hsg).mono ?_);rintro e w1 ⟨x,hx,rfl,hb1⟩;have hx9:(0≤x)=False:=by simpa using hx
 clear hx;have bw1:=hb1;go_wp2_with fail;(with_reducible refine (cT _ (s) hs (0) hwn).mono ?_);rintro e w2 ⟨rfl,q2⟩;have bw2:=bw1.trans (q2.mono bw1.size);have lw2:=q2.size;clear q2;go_wp2_with fail;(with_reducible refine (cA _ (s) hs (m) hnm).mono ?_);rintro e w3 ⟨rfl,q3⟩;have bw3:=bw2.trans (q3.mono bw2.size);have lw3:=q3.size;clear q3 bw2;go_wp2_with fail;refine bodyPost_ret (v:=.tuple #[.int .i64 1,.int .i64 m,.nilIface]) (by simp [results,Tryz.results103,go_sem, *] <;> trivial) rfl ?_;exact ⟨rfl,bw3⟩
def oG (t:Tkn):List Value:=[.int .i64 (t.kind:Nat),ae t.text,.int .i64 (t.line:Nat),.int .i64 (t.col:Nat)]
def cB (l:List Tkn):List Value:=l.flatMap oG
theorem pX (l:List Tkn) (t:Tkn):cB (l ++ [t])=cB l ++ oG t:=by simp [cB]
theorem sx (l:List Tkn):(cB l).length=l.length * 4:=by
 induction l with
 | nil=>rfl
 | cons t l ih =>
  have:cB (t :: l)=oG t ++ cB l:=rfl;rw [this,List.length_append,ih,List.length_cons];show 4+_=_;omega
def TkS (w:World) (A:Option Addr) (n c:Nat) (l:List Tkn):Prop:=l.length=n∧((n=0∧A=none∧c=0)∨∃ g,A=some ⟨g,0,none⟩∧n≤c∧∀ i v,(cB l)[i]?=some v→w.cell? ⟨g,i,none⟩=some v)
theorem TkS.belw {w w':World}{A:Option Addr}{n c:Nat}{l:List Tkn}(h:TkS w A n c l) (hb:Below w.heap.size w w'):TkS w' A n c l:=by
 refine ⟨h.1,?_⟩;rcases h.2 with h | ⟨g,e,hc,h⟩
 ·exact .inl h
 exact .inr ⟨g,e,hc,fun i v hv=>(hb.cell (p:=⟨g,i,none⟩) (World.block_lt_of_cell? w _ (h i v hv))).trans (h i v hv)⟩
theorem TkS.nil (w:World):TkS w none 0 0 []:=⟨rfl,.inl ⟨rfl,rfl,rfl⟩⟩
theorem TkS.of_own {w:World}{base:Nat}{e:TypeId}{v:Value}{l:List Tkn}(h:w.ownsRow base e 4 v l.length (cB l)):∃ A c,v=.slice A l.length c∧TkS w A l.length c l:=by
 rcases h.2 with ⟨rfl,h0⟩ | ⟨g,cap,cur,rfl,hb,hg,hn,hc,hs,ht⟩
 ·exact ⟨none,0,by rw [h0],rfl,.inl ⟨h0,rfl,rfl⟩⟩
 refine ⟨_,_,rfl,rfl,.inr ⟨g,rfl,hn,fun i v hv=>?_⟩⟩;rw [cell_of_row w g i cur e (0,0) hg];rw [← ht,List.getElem?_take] at hv;split at hv
 ·simpa using hv
 cases hv
theorem sy {w w':World}{base:Nat}{e:TypeId}{size:Nat}{v:Value}{n:Nat}{xs:List Value}(h:w.ownsRow base e size v n xs) (hb:Below w.heap.size w w'):w'.ownsRow base e size v n xs:=by
 refine ⟨h.1,?_⟩;rcases h.2 with h | ⟨g,cap,cur,hv,hb1,hg,rest⟩
 ·exact .inl h
 exact .inr ⟨g,cap,cur,hv,hb1,(hb.block g (lt_of_block hg)).trans hg,rest⟩
def pre (d:List Tkn):iR→iR
  | .ok l=>.ok (d ++ l)
  | .err x=>.err x
theorem xo (x:iR):pre [] x=x:=by cases x <;> rfl
theorem uP (d:List Tkn) (t:Tkn) (x:iR):pre d (iR.push t x)=pre (d ++ [t]) x:=by cases x <;> simp [pre,iR.push]
inductive bh (s:List UInt8) (x:Int) (l:List Tkn):Prop
  | big (h:65536 < s.length) (hx:x=4) (hl:l=[])
  | ok (h:s.length≤65536) (ht:dV s=.ok l) (hx:x=0)
  | err (n:Nat) (h:s.length≤65536) (ht:dV s=.err n) (hx:x=(n:Int)) (hl:l=[])
theorem bh.uniq {s:List UInt8}{x y:Int}{l m:List Tkn}(h:bh s x l) (h':bh s y m):x=y∧l=m:=by
 rcases h with ⟨a,b,c⟩ | ⟨a,b,c⟩ | ⟨n,a,b,c,d⟩ <;> rcases h' with ⟨a',b',c'⟩ | ⟨a',b',c'⟩ | ⟨n',a',b',c',d'⟩ <;> first
  | omega
  | exact ⟨by rw [b,b'],by rw [c,c']⟩
  | (rw [b] at b';injection b' with e;exact ⟨by rw [c,c'],e⟩)
  | (rw [b] at b';cases b';done)
  | (rw [b] at b';injection b' with e;exact ⟨by rw [c,c',e],by rw [d,d']⟩)
def uQ (w:World) (ev:Value) (l:List Tkn) (e:Ending) (w':World):Prop:=∃ A n c,e=.returned (.tuple #[.slice A n c,ev])∧TkS w' A n c l∧Below w.heap.size w w'
def An (ev:Int→Value) (w:World) (s:List UInt8) (e:Ending) (w':World):Prop:=∃ x l,bh s x l∧uQ w (ev x) l e w'
theorem uR:(Tryz.prog.info? 126).map (fun i=>(i.zero,i.size,i.bytes))=some (some (.agg #[.int .i64 0,.string ⟨#[]⟩,.int .i64 0,.int .i64 0]),4,40):=by kernel_rfl
theorem sA {s:List UInt8}{j:Nat}(hl:j < s.length) (h:atB s j≠10):dG (s.drop j)=1+dG (s.drop (j+1)):=by
 rw [bt hl];unfold dG;rw [List.takeWhile_cons,if_pos (by simpa using h),List.length_cons];omega
theorem ma {s:List UInt8}{j:Nat}(h:s.length≤j∨atB s j=10):dG (s.drop j)=0:=by
 rcases Nat.lt_or_ge j s.length with hl | hl
 ·rw [bt hl]
  unfold dG;rcases h with h | h
  ·omega
  rw [List.takeWhile_cons,if_neg (by simp [h])];rfl
 rw [List.drop_eq_nil_of_le hl];rfl
theorem sB {s:List UInt8}{i:Nat}(hl:i < s.length) (h:atB s i=37) (line col:Nat):0 < dG (s.drop i)∧tk (s.drop i) line col=tk (s.drop (i+dG (s.drop i))) line (col+dG (s.drop i)):=by
 have e:=bt hl;rw [h] at e;refine ⟨by rw [e];exact iT,?_⟩
 conv=>lhs;rw [e]
 rw [uA,← e,List.drop_drop]
theorem pY {s:List UInt8}{i:Nat}(hl:i < s.length) (h:atB s i=10) (line col:Nat):tk (s.drop i) line col=tk (s.drop (i+1)) (line+1) 1:=by rw [bt hl,h,j9]
theorem oH {s:List UInt8}{i:Nat}(hl:i < s.length) (h:dU (atB s i)=true) (line col:Nat):tk (s.drop i) line col=tk (s.drop (i+1)) line (col+1):=by rw [bt hl,iU h]
theorem sC {s:List UInt8}{i k n:Nat}(hl:i < s.length) (h:bc (s.drop i)=.ok k n) (line col:Nat):tk (s.drop i) line col=(tk (s.drop (i+n)) line (col+n)).push ⟨k,(s.drop i).take n,line,col⟩:=by
 have e:=bt hl;rw [e] at h ⊢;rw [pR h,← e,List.drop_drop]
theorem sD {s:List UInt8}{i x:Nat}(hl:i < s.length) (h:bc (s.drop i)=.err x) (h1:atB s i≠10) (h2:dU (atB s i)=false) (h3:atB s i≠37) (line col:Nat):tk (s.drop i) line col=.err x:=by
 rw [bt hl] at h ⊢;exact uB h h1 h2 h3 line col
theorem pZ (w:World) (s:List UInt8) (hp:0 < s.length) (hs:s.length < 4611686018427387904) (k n:Nat) (hf:bc s=.ok k n):Calls Tryz.prog 103 #[ae s] w (aB w (.tuple #[.int .i64 (k:Nat),.int .i64 (n:Nat),.nilIface])):=qZ w s hp hs _ hf
theorem oI (w:World) (s:List UInt8) (hp:0 < s.length) (hs:s.length < 4611686018427387904) (x:Nat) (hf:bc s=.err x):Calls Tryz.prog 103 #[ae s] w (aB w (.tuple #[.int .i64 0,.int .i64 0,.iface 58 (.int .i64 (x:Nat))])):=qZ w s hp hs _ hf
theorem oJ {r:List UInt8}{x:Nat}(h:bc r=.err x):0 < x:=by
 unfold bc at h;split at h
 ·injection h with h;omega
 split at h
 ·cases h
 split at h
 ·split at h
  ·injection h with h;omega
  cases h
 split at h
 ·injection h with h;omega
 split at h
 ·injection h with h;omega
 split at h
 ·injection h with h;omega
 cases h
theorem isBlk_3 {c:UInt8}(h:dU c=true):c=32∨c=9∨c=13:=by
 unfold dU at h;simpa [or_assoc] using h
theorem xq (w:World) (s:List UInt8):Calls Tryz.prog 68 #[ae s] w (An (fun x=>be x) w s):=by
 have hszs:=aE s;obtain ⟨i0,hi0,hz0,hz1,hz2⟩:=info_parts uR;rcases Nat.lt_or_ge 65536 s.length with hbig | hsm
 ·have hlen:((65536:Int) < (s.length:Int))=True:=by simp;omega
  clear hi0 hz0 hz1 hz2;go_in;go_wp2_with fail;refine bodyPost_ret (v:=.tuple #[.slice none 0 0,.iface 58 (.int .i64 4)]) (by simp [results,Tryz.results68,go_sem, *] <;> trivial) rfl ?_;exact ⟨4,[],.big hbig rfl rfl,none,0,0,rfl,TkS.nil _,aa w⟩
 have hlen:((65536:Int) < (s.length:Int))=False:=by simp;omega
 have hs:s.length < 4611686018427387904:=by omega
 have HI:=Qh (And.intro hi0 (And.intro hz0 (And.intro hz1 hz2)));clear hi0 hz0 hz1 hz2;go_in;go_wp2_with fail;go_loopw [4,5,6,7] (fun ov lv sv iv wr=>∃ (done:List Tkn) (i line st:Nat),lv=.int .i64 (line:Nat)∧sv=.int .i64 (st:Nat)∧iv=.int .i64 (i:Nat)∧i≤s.length∧st≤i∧line≤i+1∧done.length≤i∧Hid (dV s=pre done (tk (s.drop i) line (i - st+1)))∧wr.ownsRow w.heap.size 126 4 ov done.length (cB done)∧Below w.heap.size w wr) (fun _ _ _ iv _=>s.length - (intOf iv).toNat)
 case atStart=>exact ⟨[],0,1,0,rfl,rfl,rfl,Nat.zero_le _,Qr,by omega,Qr,Qh (by rw [xo];rfl),⟨rfl,.inl ⟨rfl,rfl⟩⟩,aa w⟩
 case round =>
  obtain ⟨done,i,line,st,rfl,rfl,rfl,hi,hst,hln,hdn,hT,hown,hbel⟩:=hrel;have HO:=Qh hown;clear hown;rcases Nat.lt_or_ge i s.length with hl | hl
  ·have hi1:((i:Int) < (s.length:Int))=True:=by simp;omega
   have hlts:i < s.length:=hl;obtain ⟨c,hc⟩:∃ c,atB s i=c:=⟨_,rfl⟩;have hget:∀ h,(⟨s.toArray⟩:ByteArray)[i]'h=c:=fun h=>by rw [← hc];exact (dC hl).symm
   by_cases h10:c=10
   ·have q10:(((c.toNat:Nat):Int) == 10)=true:=(aD c 10).trans (by simp [h10])
    have hT2:=pY hl (by rw [hc];exact h10) line (i - st+1);have h10b:c≠37:=by rw [h10];decide
    go_wp2_with fail;go_roundw
    case rel=>exact ⟨done,i+1,line+1,i+1,by go_num,by go_num,by go_num,by omega,by omega,by omega,by omega,Qh (by rw [hT.out,hT2];congr 2;omega),HO.out,hbel⟩
    case measure=>simp [intOf];omega
   have q10:(((c.toNat:Nat):Int) == 10)=false:=(aD c 10).trans (by simp [h10]);by_cases hbk:dU c=true
   ·have hT2:=oH hl (by rw [hc];exact hbk) line (i - st+1)
    rcases isBlk_3 hbk with h3 | h3 | h3
    ·have q32:(((c.toNat:Nat):Int) == 32)=true:=(aD c 32).trans (by simp [h3])
     clear h3;go_wp2_with fail;go_roundw
     case rel=>exact ⟨done,i+1,line,st,rfl,rfl,by go_num,by omega,by omega,by omega,by omega,Qh (by rw [hT.out,hT2];congr 2;omega),HO.out,hbel⟩
     case measure=>simp [intOf];omega
    ·have q32:(((c.toNat:Nat):Int) == 32)=false:=(aD c 32).trans (by simp [h3])
     have q9:(((c.toNat:Nat):Int) == 9)=true:=(aD c 9).trans (by simp [h3]);clear h3;go_wp2_with fail;go_roundw
     case rel=>exact ⟨done,i+1,line,st,rfl,rfl,by go_num,by omega,by omega,by omega,by omega,Qh (by rw [hT.out,hT2];congr 2;omega),HO.out,hbel⟩
     case measure=>simp [intOf];omega
    have q32:(((c.toNat:Nat):Int) == 32)=false:=(aD c 32).trans (by simp [h3]);have q9:(((c.toNat:Nat):Int) == 9)=false:=(aD c 9).trans (by simp [h3]);have q13:(((c.toNat:Nat):Int) == 13)=true:=(aD c 13).trans (by simp [h3]);clear h3;go_wp2_with fail;go_roundw
    case rel=>exact ⟨done,i+1,line,st,rfl,rfl,by go_num,by omega,by omega,by omega,by omega,Qh (by rw [hT.out,hT2];congr 2;omega),HO.out,hbel⟩
    case measure=>simp [intOf];omega
   have hbk:dU c=false:=by simpa using hbk
   have q32:(((c.toNat:Nat):Int) == 32)=false:=(aD c 32).trans (beq_eq_false_iff_ne.2 (by rintro rfl;exact absurd hbk (by decide)));have q9:(((c.toNat:Nat):Int) == 9)=false:=(aD c 9).trans (beq_eq_false_iff_ne.2 (by rintro rfl;exact absurd hbk (by decide)));have q13:(((c.toNat:Nat):Int) == 13)=false:=(aD c 13).trans (beq_eq_false_iff_ne.2 (by rintro rfl;exact absurd hbk (by decide)));by_cases h37:c=37
   ·have q37:(((c.toNat:Nat):Int) == 37)=true:=(aD c 37).trans (by simp [h37])
    obtain ⟨hcp,hT2⟩:=sB hl (by rw [hc];exact h37) line (i - st+1);go_wp2_with fail;clear q10 q32 q9 q13 q37 hget h10 hbk h37 hc;go_loopw [7] (fun jv w2=>∃ (j:Nat),jv=.int .i64 (j:Nat)∧i≤j∧j≤s.length∧Hid (j+dG (s.drop j)=i+dG (s.drop i))∧wr=w2) (fun jv _=>s.length - (intOf jv).toNat)
    case atStart=>exact ⟨i,rfl,Qr,hi,Qh rfl,by first | rfl | trivial⟩
    case round =>
     obtain ⟨j,rfl,hij,hj,hcj,hw2⟩:=hrel;subst hw2;rcases Nat.lt_or_ge j s.length with hjl | hjl
     ·have hlj:j < s.length:=hjl
      have hj1:((j:Int) < (s.length:Int))=True:=by simp;omega
      obtain ⟨d,hd⟩:∃ d,atB s j=d:=⟨_,rfl⟩;have hget:∀ h,(⟨s.toArray⟩:ByteArray)[j]'h=d:=fun h=>by rw [← hd];exact (dC hjl).symm
      by_cases hd10:d=10
      ·have e10:(((d.toNat:Nat):Int) == 10)=true:=(aD d 10).trans (by simp [hd10])
       have hst0:=ma (s:=s) (j:=j) (.inr (by rw [hd];exact hd10));have hjn:i+dG (s.drop i)=j:=by have:=hcj.out;omega
       clear hd hd10;go_wp2_with fail;go_roundw
       case rel=>exact ⟨done,j,line,st,rfl,rfl,rfl,hj,by omega,by omega,by omega,Qh (by rw [hT.out,hT2,hjn,show i - st+1+dG (s.drop i)=j - st+1 by have:=hcj.out;omega]),HO.out,hbel⟩
       case measure=>simp [intOf];omega
      have e10:(((d.toNat:Nat):Int) == 10)=false:=(aD d 10).trans (by simp [hd10]);have hst9:=sA hjl (by rw [hd];exact hd10);clear hd hd10;go_wp2_with fail;go_roundw
      case rel=>exact ⟨j+1,by go_num,by omega,by omega,Qh (by have h9:=hcj.out;rw [hst9] at h9;omega),by first | rfl | trivial⟩
      case measure=>simp [intOf];omega
     have hj1:((j:Int) < (s.length:Int))=False:=by simp;omega
     have hst0:=ma (s:=s) (j:=j) (.inl hjl);have hjn:i+dG (s.drop i)=j:=by have:=hcj.out;omega
     go_wp2_with fail;go_roundw
     case rel=>exact ⟨done,j,line,st,rfl,rfl,rfl,hj,by omega,by omega,by omega,Qh (by rw [hT.out,hT2,hjn,show i - st+1+dG (s.drop i)=j - st+1 by have:=hcj.out;omega]),HO.out,hbel⟩
     case measure=>simp [intOf];omega
   have q37:(((c.toNat:Nat):Int) == 37)=false:=(aD c 37).trans (by simp [h37]);obtain ⟨r,hr⟩:∃ r,s.drop i=r:=⟨_,rfl⟩;have hrl:r.length=s.length - i:=by rw [← hr,List.length_drop]
   have e2:(⟨s.toArray⟩:ByteArray).extract i s.length=⟨r.toArray⟩:=by
    rw [lV,hr,List.take_of_length_le (by omega)]
   have hi0:(0:Int)≤(i:Int):=by omega
   have hiL:(i:Int)≤(s.length:Int):=by omega
   cases hf:bc (s.drop i) with
   | err x =>
    have hT2:=sD hl hf (by rw [hc];exact h10) (by rw [hc];exact hbk) (by rw [hc];exact h37) line (i - st+1);have hx0:=oJ hf;have hx1:((x:Int) == 0)=false:=by simp;omega
    go_wp2_with fail;(with_reducible refine (oI _ r (by omega) (by omega) x (hr ▸ hf)).mono ?_);rintro e w1 ⟨rfl,hb9⟩;go_wp2_with fail;refine bodyPost_ret (v:=.tuple #[.slice none 0 0,.iface 58 (.int .i64 (x:Nat))]) (by simp [results,Tryz.results68,go_sem, *] <;> trivial) rfl ?_;refine ⟨(x:Int),[],.err x hsm (by rw [hT.out,hT2];rfl) rfl rfl,none,0,0,by show _=Ending.returned (.tuple #[_,be (x:Int)]);rw [show be (x:Int)=_ from if_neg (by omega)],TkS.nil _,hbel.trans (hb9.mono hbel.size)⟩
   | ok k n =>
    have hfk:=eY hf;rw [List.length_drop] at hfk;have hT2:=sC hl hf line (i - st+1);obtain ⟨x,hx⟩:∃ x,(s.drop i).take n=x:=⟨_,rfl⟩;rw [hx] at hT2;have hwin:IntKind.i64.wrap ((i:Int)+(n:Int))=(i:Int)+(n:Int):=IntWalk.i64_in _ ⟨by omega,by omega⟩;have htn:((i:Int)+(n:Int)).toNat=i+n:=by omega
    have e3:(⟨s.toArray⟩:ByteArray).extract i (i+n)=⟨x.toArray⟩:=by
     rw [lV,← hx,show i+n - i=n by omega]
    have hn0:(0:Int)≤(i:Int)+(n:Int):=by omega
    have hn1:(i:Int)+(n:Int)≤(s.length:Int):=by omega
    have hn2:(i:Int)≤(i:Int)+(n:Int):=by omega
    have hwc1:IntKind.i64.wrap ((i:Int) - (st:Int))=(i:Int) - (st:Int):=IntWalk.i64_in _ ⟨by omega,by omega⟩;have hwc2:IntKind.i64.wrap ((i:Int) - (st:Int)+1)=(i:Int) - (st:Int)+1:=IntWalk.i64_in _ ⟨by omega,by omega⟩;go_wp2_with fail;(with_reducible refine (pZ _ r (by omega) (by omega) k n (hr ▸ hf)).mono ?_);rintro e w1 ⟨rfl,hb9⟩;have HO3:=Qh (sy HO.out hb9);have hbel3:=hbel.trans (hb9.mono hbel.size);clear hb9;go_wp2_with (at_builtin;refine wpList_append_lies _ rfl _ _ _ rfl w.heap.size 126 i0 (.agg #[.int .i64 0,.string ⟨#[]⟩,.int .i64 0,.int .i64 0]) 4 40 Tryz.underlying113 HI.out.1 HI.out.2.1 HI.out.2.2.1 HI.out.2.2.2 rfl (by omega) _ done.length (cB done) rfl (HO3.out.alloc _) ⟨w1.heap.size,0,none⟩ 1 1 [_,_,_,_] rfl rfl (World.news_of_block (heap_alloc_new w1 _)) (by simp [Value.oneCell']) (by omega) (by unfold maxLen;omega) (by omega) (by have:=hbel3.size;simp;omega) (w1.heap.size+1) (by simp) ?_;intro gx cap w9 hown1 hgrow hat hlt1);go_roundw
    case rel =>
     refine ⟨done ++ [⟨k,x,line,(i - st+1)⟩],i+n,line,st,rfl,rfl,by go_num,by omega,by omega,by omega,by rw [List.length_append,List.length_singleton];omega,Qh ?_,?_,(hbel3.alloc hbel3.size _).grown hgrow (by have:=hbel3.size;simp;omega) (du HO3.out)⟩
     ·rw [hT.out,hT2,uP];congr 2;omega
     rw [pX,List.length_append,List.length_singleton];have e:([.int .i64 (k:Nat),ae x,.int .i64 (line:Nat),.int .i64 ((i:Int) - (st:Int)+1)]:List Value)=oG ⟨k,x,line,(i - st+1)⟩:=by unfold oG;simp;try omega
     rw [← e];exact hown1
    case measure=>simp [intOf];omega
  have hi1:((i:Int) < (s.length:Int))=False:=by simp;omega
  obtain rfl:i=s.length:=by omega
  obtain ⟨A,cc,hv,hS⟩:=TkS.of_own HO.out;subst hv;go_wp2_with fail;refine bodyPost_ret (v:=.tuple #[.slice A done.length cc,.nilIface]) (by simp [results,Tryz.results68,go_sem, *] <;> trivial) rfl ?_;exact ⟨0,done,.ok hsm (by rw [hT.out,List.drop_length,uz];simp [pre]) rfl,A,done.length,cc,rfl,hS,hbel⟩
theorem uS {l:List Tkn}{i:Nat}(h:i < l.length):(cB l)[i * 4]?=some (.int .i64 (l[i].kind:Nat))∧(cB l)[i * 4+1]?=some (ae l[i].text)∧(cB l)[i * 4+2]?=some (.int .i64 (l[i].line:Nat))∧(cB l)[i * 4+3]?=some (.int .i64 (l[i].col:Nat)):=by
 induction l generalizing i with
 | nil=>simp at h
 | cons t l ih =>
  have e:cB (t :: l)=[.int .i64 (t.kind:Nat),ae t.text,.int .i64 (t.line:Nat),.int .i64 (t.col:Nat)] ++ cB l:=rfl;rw [e]
  cases i with
  | zero=>simp
  | succ i =>
   have h1:=ih (i:=i) (by simpa using h);have s:(i+1) * 4=i * 4+4:=by omega
   rw [s];simp only [List.getElem_cons_succ];refine ⟨?_,?_,?_,?_⟩
   ·rw [List.getElem?_append_right (by simp)];exact h1.1
   ·rw [List.getElem?_append_right (by simp)];exact h1.2.1
   ·rw [List.getElem?_append_right (by simp)];exact h1.2.2.1
   rw [List.getElem?_append_right (by simp)];exact h1.2.2.2
theorem TkS.cells {w:World}{A:Option Addr}{n c:Nat}{l:List Tkn}(h:TkS w A n c l) {i:Nat}(hi:i < n):∃ g t,A=some ⟨g,0,none⟩∧n≤c∧l[i]?=some t∧w.cell? ⟨g,i * 4,none⟩=some (.int .i64 (t.kind:Nat))∧w.cell? ⟨g,i * 4+1,none⟩=some (ae t.text)∧w.cell? ⟨g,i * 4+2,none⟩=some (.int .i64 (t.line:Nat))∧w.cell? ⟨g,i * 4+3,none⟩=some (.int .i64 (t.col:Nat)):=by
 have hl:=h.1;rcases h.2 with ⟨h0,_⟩ | ⟨g,e,hc,h2⟩
 ·omega
 have h3:=uS (l:=l) (i:=i) (by omega);exact ⟨g,_,e,hc,List.getElem?_eq_getElem (by omega),h2 _ _ h3.1,h2 _ _ h3.2.1,h2 _ _ h3.2.2.1,h2 _ _ h3.2.2.2⟩
def aZ (s:List UInt8):Bool:=decide (0 < bp s) && decide (bp s=s.length) && decide (bp s≤24)
def fC:List (List UInt8)→List UInt8
  | []=>[]
  | [x]=>x
  | x :: y :: r=>x ++ 32 :: fC (y :: r)
theorem oL (xs:List (List UInt8)):Lib.join xs [32]=fC xs:=by
 induction xs with
 | nil=>rfl
 | cons x r ih =>
  cases r with
  | nil=>rw [Lib.join_one];rfl
  | cons y r =>
   rw [fC,← ih];rw [Lib.join_cons,Lib.join_cons];simp [Lib.joinTail]
theorem cI (a b:List UInt8):(⟨a.toArray⟩:ByteArray) ++ (⟨b.toArray⟩:ByteArray)=⟨(a ++ b).toArray⟩:=by
 apply ByteArray.ext;simp
theorem kK (w:World) (s:List UInt8) (hs:s.length < 4611686018427387904) (v:Bool) (hv:aZ s=v):Calls Tryz.prog 54 #[ae s] w (aB w (.bool v)):=by
 have hszs:=aE s;obtain ⟨n,hwn⟩:∃ n,bp s=n:=⟨_,rfl⟩;have hnl:n≤s.length:=by rw [← hwn];exact kD s
 unfold aZ at hv;rw [hwn] at hv;rcases (show n=0∨(0 < n∧n≠s.length)∨(0 < n∧n=s.length∧24 < n)∨(0 < n∧n=s.length∧n≤24) by omega) with h1 | ⟨h1,h2⟩ | ⟨h1,h2,h3⟩ | ⟨h1,h2,h3⟩
 ·have g0:((0:Int) < (n:Int))=False:=eq_false (by omega)
  obtain rfl:v=false:=by rw [← hv];simp;omega
  have g8:(n == 0)=true:=by simp;omega
  clear hv;go_in;go_wp2_with fail;(with_reducible refine (cT _ (s) hs n hwn).mono ?_);rintro e w1 ⟨rfl,q1⟩;have bw1:=(aa w).trans (q1.mono (aa w).size);have lw1:=q1.size;clear q1;go_wp2;go_ret;exact cQ rfl bw1
 ·have g0:((0:Int) < (n:Int))=True:=eq_true (by omega)
  have g1:((n:Int) == (s.length:Int))=false:=by simp;omega
  obtain rfl:v=false:=by rw [← hv];simp;omega
  clear hv h2;go_in;go_wp2_with fail;(with_reducible refine (cT _ (s) hs n hwn).mono ?_);rintro e w1 ⟨rfl,q1⟩;have bw1:=(aa w).trans (q1.mono (aa w).size);have lw1:=q1.size;clear q1;go_wp2;go_ret;exact cQ rfl bw1
 ·have g0:((0:Int) < (n:Int))=True:=eq_true (by omega)
  have g1:((n:Int) == (s.length:Int))=true:=by simp;omega
  have g2:((n:Int)≤24)=False:=eq_false (by omega);obtain rfl:v=false:=by rw [← hv];simp;omega
  clear hv h2;go_in;go_wp2_with fail;(with_reducible refine (cT _ (s) hs n hwn).mono ?_);rintro e w1 ⟨rfl,q1⟩;have bw1:=(aa w).trans (q1.mono (aa w).size);have lw1:=q1.size;clear q1;go_wp2;go_ret;exact cQ rfl bw1
 have g0:((0:Int) < (n:Int))=True:=eq_true (by omega);have g1:((n:Int) == (s.length:Int))=true:=by simp;omega
 have g2:((n:Int)≤24)=True:=eq_true (by omega);obtain rfl:v=true:=by rw [← hv,decide_eq_true (show 0 < n by omega),decide_eq_true (show n=s.length by omega),decide_eq_true (show n≤24 by omega)];rfl
 clear hv h2;go_in;go_wp2_with fail;(with_reducible refine (cT _ (s) hs n hwn).mono ?_);rintro e w1 ⟨rfl,q1⟩;have bw1:=(aa w).trans (q1.mono (aa w).size);have lw1:=q1.size;clear q1;go_wp2;go_ret;exact cQ rfl bw1
structure au where
  name:List UInt8
  x:RD
  y:RD
structure aj where
  name:List UInt8
  pts:List au
structure aK where
  name:List UInt8
  kind:Int
  a:Int
  point:Int
  b:Int
  on:Int
  to_:Int
structure aQ where
  name:List UInt8
  body:Int
structure ai where
  name:List UInt8
  bodies:List aj
  joints:List aK
  drivers:List aQ
def co {α:Type}(f:List α→α→Int):List α→List α→Int
  | _,[]=>0
  | prev,a :: r=>if f prev a=0 then co f (prev ++ [a]) r else f prev a
theorem gy {α:Type}{f:List α→α→Int}{l:List α}{i:Nat}{x:Int}(h:co f (l.take i) (l.drop i)=x) {a:α}(ha:l[i]?=some a) :
 (f (l.take i) a=0∧co f (l.take (i+1)) (l.drop (i+1))=x)∨(f (l.take i) a≠0∧f (l.take i) a=x):=by
 obtain ⟨hl,he⟩:=List.getElem?_eq_some_iff.1 ha;have hd:l.drop i=a :: l.drop (i+1):=by rw [List.drop_eq_getElem_cons hl,he]
 have ht:l.take (i+1)=l.take i ++ [a]:=by rw [List.take_add_one,ha];rfl
 rw [hd] at h;unfold co at h;rw [ht];split at h
 ·left;rename_i h0;exact ⟨h0,h⟩
 right;rename_i h0;exact ⟨h0,h⟩
theorem iW {α:Type}{f:List α→α→Int}{l:List α}{i:Nat}{x:Int}(h:co f (l.take i) (l.drop i)=x) (hi:l.length≤i):x=0:=by
 rw [List.drop_eq_nil_of_le hi] at h;exact h.symm
theorem fu {α:Type}{f:List α→α→Int}{l:List α}{x:Int}(h:co f [] l=x):co f (l.take 0) (l.drop 0)=x:=h
def twN (l:List (List UInt8)) (n:List UInt8):Bool:=l.any fun m=>m == n
theorem iX {α:Type}{f:α→List UInt8}{l:List α}{j:Nat}{a:α}{nm:List UInt8}(ha:l[j]?=some a) (h:twN ((l.take j).map f) nm=false) (hne:f a≠nm):twN ((l.take (j+1)).map f) nm=false:=by
 have ht:l.take (j+1)=l.take j ++ [a]:=by rw [List.take_add_one,ha];rfl
 unfold twN at h ⊢;rw [ht,List.map_append,List.any_append,h];simpa using hne
theorem gB {α:Type}{f:α→List UInt8}{l:List α}{j i:Nat}{a:α}{nm:List UInt8}(ha:l[j]?=some a) (hji:j < i) (he:f a=nm):twN ((l.take i).map f) nm=true:=by
 unfold twN;rw [List.any_eq_true];refine ⟨f a,?_,by simpa using he⟩;have h1:(l.take i)[j]?=some a:=by rw [List.getElem?_take,if_pos hji];exact ha
 exact List.mem_map_of_mem (List.mem_of_getElem? h1)
def inI (i:Int) (n:Nat):Bool:=decide (0≤i) && decide (i < (n:Int))
def cq (prev:List au) (m:au):Int :=
  if aZ m.name=false then 5 else if twN (prev.map au.name) m.name=true then 6 else if m.x.ok=false then 3 else if m.y.ok=false then 3 else 0
def bE (prev:List aj) (b:aj):Int :=
  if aZ b.name=false then 5 else if twN (prev.map aj.name) b.name=true then 6 else if 8 < b.pts.length then 4 else co cq [] b.pts
def dy (L:ai) (i:Int):List au:=match L.bodies[i.toNat]? with | some b=>b.pts | none=>[]
def iY (l:List au) (i j:Int):Bool:=match l[i.toNat]?,l[j.toNat]? with | some p,some q=>decide (p.x.q=q.x.q) && decide (p.y.q=q.y.q) | _,_=>false
def cf (L:ai) (j:aK):Int :=
  if j.kind≠0∧j.kind≠1 then 7 else if inI j.a L.bodies.length=false then 9 else if inI j.b L.bodies.length=false then 9 else if j.a=j.b then 13
  else if inI j.point (dy L j.a).length=false then 9 else if inI j.on (dy L j.b).length=false then 9
  else if j.kind=0 then (if j.to_=0 then 0 else 2) else if inI j.to_ (dy L j.b).length=false then 9 else if iY (dy L j.b) j.on j.to_=true then 8 else 0
def bB (L:ai) (prev:List aK) (j:aK):Int :=
  if aZ j.name=false then 5 else if twN (prev.map aK.name) j.name=true then 6 else cf L j
def aN (n:Nat) (prev:List aQ) (d:aQ):Int :=
  if aZ d.name=false then 5 else if twN (prev.map aQ.name) d.name=true then 6 else if inI d.body n=false then 9 else if d.body=0 then 7
  else if (prev.any fun p=>p.body == d.body)=true then 6 else 0
def bZ (L:ai):Int :=
  if aZ L.name=false then 5 else if L.bodies.length=0 then 10 else if 8 < L.bodies.length then 4 else if co bE [] L.bodies≠0 then co bE [] L.bodies
  else if 16 < L.joints.length then 4 else if co (bB L) [] L.joints≠0 then co (bB L) [] L.joints
  else if 2 < L.drivers.length then 4 else co (aN L.bodies.length) [] L.drivers
theorem ke {z:Int}{k K:Nat}(h:z.natAbs < 4294967296 ^ k) (hk:k≤K) (h0:0 < K):(Lib.itoa z).length≤10 * K+1:=by
 have h2:Lib.nDigits z.natAbs≤10 * K:=fL hk h0 h;rw [iM,List.length_append,Lib.decDigits_length];split <;> simp <;> omega
theorem sE (X Y:List UInt8):((⟨X.toArray⟩:ByteArray) ++ ⟨#[47]⟩) ++ ⟨Y.toArray⟩=⟨(X ++ 47 :: Y).toArray⟩:=by
 rw [show (⟨#[47]⟩:ByteArray)=⟨[47].toArray⟩ from rfl,oj,oj,List.append_assoc];rfl
theorem jM {q:Rat}(h:q.den=1):aG q=Lib.itoa q.num:=if_pos h
theorem jN {q:Rat}(h:q.den≠1):aG q=Lib.itoa q.num ++ 47 :: Lib.itoa (q.den:Int):=if_neg h
theorem xt {x y:Int}(h:x≠y):eI x y≠0:=by
 unfold eI;(repeat' split) <;> omega
theorem uT:eI 1 1=0:=by decide
theorem uU (w:World) (b A n c D m e q k) (h:QZ w b A n c D m e q k) (h0:0 < k) (hk:k≤40000000) (htab:Tab w) (hd:q.den=1) :
 Calls Tryz.prog 47 #[.agg #[.bool b,.slice A n c,.slice D m e]] w (aB w (ae (aG q))):=by
 rw [jM hd];have HC:=Qh (show eI (q.den:Int) 1=0 by rw [hd];exact uT);clear hd;go_in;go_wp2_with fail;(with_reducible refine (gn _ b A n c D m e (q) (k) ?_ ?_ ?_).mono ?_);(exact (h.belw ((Below.refl _ _).alloc Qr _)));(omega);(omega);rintro e w1 ⟨b1,A1,n1,c1,b'1,A'1,n'1,c'1,rfl,h1,h'1,hb1⟩;have q1:=hb1.q1;replace h:=h.belw q1;have x1a:Blk w1 w.heap.size 54 #[.bool b,.slice A n c,.slice D m e]:=(ak _ _ _ (by simp)).below hb1 (by simp);have bw1:=(aa w).trans (q1.mono (aa w).size);have lw1:=hb1.l1;clear q1;go_wp2_with fail;have p2:=(((Kp.refl w1).alloc (.cells #[.bool b1,.slice A1 n1 c1] 134)).alloc (.cells #[.bool b'1,.slice A'1 n'1 c'1] 134));have bw2:=((bw1.alloc (by first | omega | (simp <;> omega)) (.cells #[.bool b1,.slice A1 n1 c1] 134)).alloc (by first | omega | (simp <;> omega)) (.cells #[.bool b'1,.slice A'1 n'1 c'1] 134));have x2a:Blk ((w1.alloc (.cells #[.bool b1,.slice A1 n1 c1] 134)).alloc (.cells #[.bool b'1,.slice A'1 n'1 c'1] 134)) w1.heap.size 134 #[.bool b1,.slice A1 n1 c1]:=((ak _ _ _ (by simp)).alloc (.cells #[.bool b'1,.slice A'1 n'1 c'1] 134));have x2b:Blk ((w1.alloc (.cells #[.bool b1,.slice A1 n1 c1] 134)).alloc (.cells #[.bool b'1,.slice A'1 n'1 c'1] 134)) (w1.heap.size+1) 134 #[.bool b'1,.slice A'1 n'1 c'1]:=(ak _ _ _ (by simp));replace x1a:=((x1a.alloc (.cells #[.bool b1,.slice A1 n1 c1] 134)).alloc (.cells #[.bool b'1,.slice A'1 n'1 c'1] 134));have lw2:w1.heap.size+2≤((w1.alloc (.cells #[.bool b1,.slice A1 n1 c1] 134)).alloc (.cells #[.bool b'1,.slice A'1 n'1 c'1] 134)).heap.size:=by simp
 generalize hE2:((w1.alloc (.cells #[.bool b1,.slice A1 n1 c1] 134)).alloc (.cells #[.bool b'1,.slice A'1 n'1 c'1] 134))=w2 at p2 bw2 lw2 x2a x2b x1a ⊢;clear hE2;replace h:=h.keep p2;replace h1:=h1.keep p2;replace h'1:=h'1.keep p2;clear bw1;have lx1a:=eG x1a.lt;obtain ⟨lx2aa,lx2ab,lx2ac,lx2ad⟩:=eG x2a.lt;have cx2b:=x2b.c2;have lx2b:=ir x2b.lt
 go_region_held3 (fun w'=>Sees w2.heap.size w2 w') (first | with_reducible exact Sees.of Qr (by assumption) | with_reducible exact Sees.of Qr (aa _).drew | exact Sees.of Qr (af (aa _) 1) | exact Sees.of Qr (af (by assumption) _))
  (first
   | (go_at_call 84;(with_reducible refine (qN _).mono ?_);rintro e w3 ⟨b3,A3,n3,c3,rfl,h3,hb3⟩;replace hb3:=ah (af (aa _) 1) hb3;have q3:Below w2.heap.size w2 w3:=ah (aa w2) hb3;replace h:=h.belw hb3;replace h1:=h1.belw hb3;replace h'1:=h'1.belw hb3)
   | (go_at_call 83;(with_reducible refine (qY _ b'1 A'1 n'1 c'1 (((q).den:Int)) ((k)) ?_ b3 A3 n3 c3 (1) (1) ?_ 0 HC.out ?_).mono ?_);(exact h'1.iz);(exact h3.iz);(omega);rintro e w4 ⟨rfl,hb4⟩;have q4:Below w2.heap.size w2 w4:=ah q3 hb4;replace h:=h.belw hb4;replace h1:=h1.belw hb4;replace h'1:=h'1.belw hb4;replace h3:=h3.belw hb4))
 have bw4:=bw2.trans (q4.mono bw2.size);clear lx1a lx2aa lx2ab lx2ac lx2ad cx2b lx2b;replace x1a:=x1a.b q4;replace x2a:=x2a.b q4;replace x2b:=x2b.b q4;have lw4:=q4.size;have cx2a:=x2a.c2;obtain ⟨lx2aa,lx2ab,lx2ac,lx2ad⟩:=eG x2a.lt;go_wp2_with fail;(with_reducible refine (kJ _ b1 A1 n1 c1 ((q).num) ((k)) ?_ (Lib.itoa q.num) ?_ ?_ ?_).mono ?_);(exact h1.iz);(omega);(first | exact htab.belw bw4 | exact (htab.belw bw4).belw (af (aa _) 1) | exact (htab.belw bw4).belw (aa _).drew | exact (htab.belw bw4).belw (by assumption) | fail);(exact rfl);rintro e w5 ⟨rfl,q5⟩;clear cx2a lx2aa lx2ab lx2ac lx2ad;replace h:=h.belw q5;replace h1:=h1.belw q5;replace h'1:=h'1.belw q5;replace h3:=h3.belw q5;replace x1a:=x1a.b q5;replace x2a:=x2a.b q5;replace x2b:=x2b.b q5;have bw5:=bw4.trans (q5.mono bw4.size);have lw5:=q5.size;clear q5 bw4;go_wp2;go_ret;exact ⟨rfl,bw5⟩
theorem uV (w:World) (b A n c D m e q k) (h:QZ w b A n c D m e q k) (h0:0 < k) (hk:k≤40000000) (htab:Tab w) (hd:q.den≠1) :
 Calls Tryz.prog 47 #[.agg #[.bool b,.slice A n c,.slice D m e]] w (aB w (ae (aG q))):=by
 rw [jN hd];obtain ⟨u,hu⟩:∃ u,eI (q.den:Int) 1=u:=⟨_,rfl⟩;have hu0:u≠0:=by rw [← hu];exact xt (by omega)
 have e0:((u:Int) == 0)=false:=by simp;exact hu0
 have HC:=Qh hu;obtain ⟨X,hX⟩:∃ X,Lib.itoa q.num=X:=⟨_,rfl⟩;obtain ⟨Y,hY⟩:∃ Y,Lib.itoa (q.den:Int)=Y:=⟨_,rfl⟩;have hs:=h.sz h0;have hx1:(⟨X.toArray⟩:ByteArray).size≤1000000000:=by show X.length≤_;rw [← hX];have:=ke hs.1 hk (by omega);omega
 have hy1:(⟨Y.toArray⟩:ByteArray).size≤1000000000:=by show Y.length≤_;rw [← hY];have:=ke (z:=(q.den:Int)) (by simpa using hs.2) hk (by omega);omega
 obtain ⟨N,hN⟩:∃ N,(⟨X.toArray⟩:ByteArray).size=N:=⟨_,rfl⟩;obtain ⟨M,hM⟩:∃ M,(⟨Y.toArray⟩:ByteArray).size=M:=⟨_,rfl⟩;rw [hN] at hx1;rw [hM] at hy1;have hc1:(9223372036854775807 < N+1)=False:=by simp;omega
 have hc2:(9223372036854775807≤N)=False:=by simp;omega
 have hc3:(9223372036854775807 < N+1+M)=False:=by simp;omega
 rw [hX,hY];have HX:=Qh hX;have HY:=Qh hY;clear hd hu hu0 hX hY hs;go_in;go_wp2_with fail;(with_reducible refine (gn _ b A n c D m e (q) (k) ?_ ?_ ?_).mono ?_);(exact (h.belw ((Below.refl _ _).alloc Qr _)));(omega);(omega);rintro e w1 ⟨b1,A1,n1,c1,b'1,A'1,n'1,c'1,rfl,h1,h'1,hb1⟩;have q1:=hb1.q1;replace h:=h.belw q1;have x1a:Blk w1 w.heap.size 54 #[.bool b,.slice A n c,.slice D m e]:=(ak _ _ _ (by simp)).below hb1 (by simp);have bw1:=(aa w).trans (q1.mono (aa w).size);have lw1:=hb1.l1;clear q1;go_wp2_with fail;have p2:=(((Kp.refl w1).alloc (.cells #[.bool b1,.slice A1 n1 c1] 134)).alloc (.cells #[.bool b'1,.slice A'1 n'1 c'1] 134));have bw2:=((bw1.alloc (by first | omega | (simp <;> omega)) (.cells #[.bool b1,.slice A1 n1 c1] 134)).alloc (by first | omega | (simp <;> omega)) (.cells #[.bool b'1,.slice A'1 n'1 c'1] 134));have x2a:Blk ((w1.alloc (.cells #[.bool b1,.slice A1 n1 c1] 134)).alloc (.cells #[.bool b'1,.slice A'1 n'1 c'1] 134)) w1.heap.size 134 #[.bool b1,.slice A1 n1 c1]:=((ak _ _ _ (by simp)).alloc (.cells #[.bool b'1,.slice A'1 n'1 c'1] 134));have x2b:Blk ((w1.alloc (.cells #[.bool b1,.slice A1 n1 c1] 134)).alloc (.cells #[.bool b'1,.slice A'1 n'1 c'1] 134)) (w1.heap.size+1) 134 #[.bool b'1,.slice A'1 n'1 c'1]:=(ak _ _ _ (by simp));replace x1a:=((x1a.alloc (.cells #[.bool b1,.slice A1 n1 c1] 134)).alloc (.cells #[.bool b'1,.slice A'1 n'1 c'1] 134));have lw2:w1.heap.size+2≤((w1.alloc (.cells #[.bool b1,.slice A1 n1 c1] 134)).alloc (.cells #[.bool b'1,.slice A'1 n'1 c'1] 134)).heap.size:=by simp
 generalize hE2:((w1.alloc (.cells #[.bool b1,.slice A1 n1 c1] 134)).alloc (.cells #[.bool b'1,.slice A'1 n'1 c'1] 134))=w2 at p2 bw2 lw2 x2a x2b x1a ⊢;clear hE2;replace h:=h.keep p2;replace h1:=h1.keep p2;replace h'1:=h'1.keep p2;clear bw1;obtain ⟨lx1aa,lx1ab,lx1ac,lx1ad⟩:=eG x1a.lt;obtain ⟨lx2aa,lx2ab,lx2ac,lx2ad⟩:=eG x2a.lt;obtain ⟨cx2ba,cx2bb⟩:=x2b.c2;obtain ⟨lx2ba,lx2bb,lx2bc,lx2bd⟩:=ir x2b.lt
 go_region_held3 (fun w'=>Sees w2.heap.size w2 w') (first | with_reducible exact Sees.of Qr (by assumption) | with_reducible exact Sees.of Qr (aa _).drew | exact Sees.of Qr (af (aa _) 1) | exact Sees.of Qr (af (by assumption) _))
  (first
   | (go_at_call 84;(with_reducible refine (qN _).mono ?_);rintro e w3 ⟨b3,A3,n3,c3,rfl,h3,hb3⟩;replace hb3:=ah (af (aa _) 1) hb3;have q3:Below w2.heap.size w2 w3:=ah (aa w2) hb3;replace h:=h.belw hb3;replace h1:=h1.belw hb3;replace h'1:=h'1.belw hb3)
   | (go_at_call 83;(with_reducible refine (qY _ b'1 A'1 n'1 c'1 (((q).den:Int)) ((k)) ?_ b3 A3 n3 c3 (1) (1) ?_ u HC.out ?_).mono ?_);(exact h'1.iz);(exact h3.iz);(omega);rintro e w4 ⟨rfl,hb4⟩;have q4:Below w2.heap.size w2 w4:=ah q3 hb4;replace h:=h.belw hb4;replace h1:=h1.belw hb4;replace h'1:=h'1.belw hb4;replace h3:=h3.belw hb4))
 have bw4:=bw2.trans (q4.mono bw2.size);clear lx1aa lx1ab lx1ac lx1ad lx2aa lx2ab lx2ac lx2ad cx2ba cx2bb lx2ba lx2bb lx2bc lx2bd;replace x1a:=x1a.b q4;replace x2a:=x2a.b q4;replace x2b:=x2b.b q4;have lw4:=q4.size;obtain ⟨lx1aa,lx1ab,lx1ac,lx1ad⟩:=eG x1a.lt;have cx2a:=x2a.c2;obtain ⟨lx2aa,lx2ab,lx2ac,lx2ad⟩:=eG x2a.lt;obtain ⟨cx2ba,cx2bb⟩:=x2b.c2;obtain ⟨lx2ba,lx2bb,lx2bc,lx2bd⟩:=ir x2b.lt;go_wp2_with fail
 go_region_held3 (fun w'=>Sees w4.heap.size w4 w') (first | with_reducible exact Sees.of Qr (by assumption) | with_reducible exact Sees.of Qr (aa _).drew | exact Sees.of Qr (af (aa _) 1) | exact Sees.of Qr (af (by assumption) _))
  (first
   | (go_at_call 85;(with_reducible refine (kJ _ b1 A1 n1 c1 ((q).num) ((k)) ?_ X ?_ ?_ ?_).mono ?_);(exact h1.iz);(omega);(first | exact htab.belw bw4 | exact (htab.belw bw4).belw (af (aa _) 1) | exact (htab.belw bw4).belw (aa _).drew | exact (htab.belw bw4).belw (by assumption) | fail);(exact HX.out);rintro e w5 ⟨rfl,hb5⟩;replace hb5:=ah (af (aa _) 1) hb5;have q5:Below w4.heap.size w4 w5:=ah (aa w4) hb5;replace h:=h.belw hb5;replace h1:=h1.belw hb5;replace h'1:=h'1.belw hb5;replace h3:=h3.belw hb5)
   | (go_at_call 85;(with_reducible refine (kJ _ b'1 A'1 n'1 c'1 (((q).den:Int)) ((k)) ?_ Y ?_ ?_ ?_).mono ?_);(exact h'1.iz);(omega);(first | exact htab.belw bw4 | exact (htab.belw bw4).belw (af (aa _) 1) | exact (htab.belw bw4).belw (aa _).drew | exact (htab.belw bw4).belw (by assumption) | fail);(exact HY.out);rintro e w6 ⟨rfl,hb6⟩;have q6:Below w4.heap.size w4 w6:=ah q5 hb6;replace h:=h.belw hb6;replace h1:=h1.belw hb6;replace h'1:=h'1.belw hb6;replace h3:=h3.belw hb6))
 have bw6:=bw4.trans (q6.mono bw4.size);clear lx1aa lx1ab lx1ac lx1ad cx2a lx2aa lx2ab lx2ac lx2ad cx2ba cx2bb lx2ba lx2bb lx2bc lx2bd;replace x1a:=x1a.b q6;replace x2a:=x2a.b q6;replace x2b:=x2b.b q6;have lw6:=q6.size;go_wp2;go_ret;refine ⟨?_,bw6⟩;exact congrArg (fun x=>Ending.returned (.string x)) (sE X Y)
theorem yR (w:World) (b A n c D m e q k) (h:QZ w b A n c D m e q k) (h0:0 < k) (hk:k≤40000000) (htab:Tab w) (T:List UInt8) (hT:aG q=T):Calls Tryz.prog 47 #[.agg #[.bool b,.slice A n c,.slice D m e]] w (aB w (ae T)):=by
 subst hT;by_cases hd:q.den=1
 ·exact uU w b A n c D m e q k h h0 hk htab hd
 exact uV w b A n c D m e q k h h0 hk htab hd
def ba (m:au):List UInt8:=32 :: (m.name ++ 32 :: (aG m.x.q ++ 32 :: (aG m.y.q ++ [59])))
def fc (b:aj):List UInt8:=[98,111,100,121,32] ++ b.name ++ [32,123] ++ b.pts.flatMap ba ++ [32,125]
theorem fv {q:Rat}{k:Nat}(hs:Sz q k) (hk:k≤500):(aG q).length≤10100:=by
 have h1:=ke (z:=q.num) (k:=k) (K:=500) hs.1 hk (by decide);have h2:=ke (z:=(q.den:Int)) (k:=k) (K:=500) (by simpa using hs.2) hk (by decide);by_cases h:q.den=1
 ·rw [jM h];omega
 rw [jN h,List.length_append,List.length_cons];omega
def gC (m:au):Prop:=m.name.length≤1000∧Sz m.x.q 500∧Sz m.y.q 500
theorem mO {m:au}(h:gC m):(ba m).length≤22000:=by
 have h1:=fv h.2.1 Qr;have h2:=fv h.2.2 Qr;have h3:=h.1;unfold ba;simp only [List.length_cons,List.length_append,List.length_nil];omega
theorem jO:∀ {l:List au},(∀ m∈l,gC m)→(l.flatMap ba).length≤22000 * l.length
 | [],_=>by simp
 | m :: l,h=>by
  have h1:=mO (h m (by simp));have h2:=jO (l:=l) (fun x hx=>h x (by simp [hx]));simp only [List.flatMap_cons,List.length_append,List.length_cons];omega
theorem gF {α:Type}(f:α→List UInt8) {l:List α}{i:Nat}{a:α}(h:l[i]?=some a):(l.take (i+1)).flatMap f=(l.take i).flatMap f ++ f a:=by
 rw [List.take_add_one,h];simp
theorem fd {α:Type}(f:α→List UInt8):∀ (l:List α) (i:Nat),((l.take i).flatMap f).length≤(l.flatMap f).length
 | [],i=>by simp
 | a :: l,0=>by simp
 | a :: l,i+1=>by
  have:=fd f l i;simp only [List.take_succ_cons,List.flatMap_cons,List.length_append];omega
abbrev NmL (s:List UInt8):Prop:=s.length < 4611686018427387904
def cP (w:World) (g o:Nat) (r:RD) (k:Nat):Prop:=∃ b A n c D m e,w.cell? ⟨g,o,none⟩=some (.bool b)∧w.cell? ⟨g,o+1,none⟩=some (.slice A n c)∧w.cell? ⟨g,o+2,none⟩=some (.slice D m e)∧QD w b A n c D m e r k
def dz (k:Nat) (w:World) (g o:Nat) (m:au):Prop:=w.cell? ⟨g,o,none⟩=some (ae m.name)∧cP w g (o+1) m.x k∧cP w g (o+4) m.y k∧NmL m.name
def SlS {α:Type}(P:World→Nat→Nat→α→Prop) (s:Nat) (w:World) (A:Option Addr) (n c:Nat) (l:List α):Prop :=
  l.length=n∧n≤c∧(0 < n→∃ g o,A=some ⟨g,o,none⟩∧g < w.heap.size∧∀ i a,l[i]?=some a→P w g (o+i * s) a)
def eM (k:Nat) (w:World) (g o:Nat) (b:aj):Prop:=∃ A n c,w.cell? ⟨g,o,none⟩=some (ae b.name)∧w.cell? ⟨g,o+1,none⟩=some (.slice A n c)∧SlS (dz k) 7 w A n c b.pts∧NmL b.name
def iZ (w:World) (g o:Nat) (j:aK):Prop:=w.cell? ⟨g,o,none⟩=some (ae j.name)∧w.cell? ⟨g,o+1,none⟩=some (.int .i64 j.kind)∧w.cell? ⟨g,o+2,none⟩=some (.int .i64 j.a)∧w.cell? ⟨g,o+3,none⟩=some (.int .i64 j.point)∧w.cell? ⟨g,o+4,none⟩=some (.int .i64 j.b)∧w.cell? ⟨g,o+5,none⟩=some (.int .i64 j.on)∧w.cell? ⟨g,o+6,none⟩=some (.int .i64 j.to_)∧NmL j.name
def jc (w:World) (g o:Nat) (d:aQ):Prop:=w.cell? ⟨g,o,none⟩=some (ae d.name)∧w.cell? ⟨g,o+1,none⟩=some (.int .i64 d.body)∧NmL d.name
structure LkS (k:Nat) (w:World) (A:Option Addr) (n c:Nat) (B:Option Addr) (p d:Nat) (C:Option Addr) (q e:Nat) (L:ai):Prop where
  name:NmL L.name
  bodies:SlS (eM k) 2 w A n c L.bodies
  joints:SlS iZ 7 w B p d L.joints
  drivers:SlS jc 2 w C q e L.drivers
theorem aq {w w':World}{g o:Nat}{v:Value}(h:w.cell? ⟨g,o,none⟩=some v) (hb:Below w.heap.size w w'):w'.cell? ⟨g,o,none⟩=some v:=(hb.cell (p:=⟨g,o,none⟩) (World.block_lt_of_cell? w _ h)).trans h
theorem cP.belw {w w':World}{g o:Nat}{r:RD}{k:Nat}(h:cP w g o r k) (hb:Below w.heap.size w w'):cP w' g o r k:=by
 obtain ⟨b,A,n,c,D,m,e,h1,h2,h3,h4⟩:=h;exact ⟨b,A,n,c,D,m,e,aq h1 hb,aq h2 hb,aq h3 hb,h4.belw hb⟩
theorem dz.belw {w w':World}{g o:Nat}{m:au}{k:Nat}(h:dz k w g o m) (hb:Below w.heap.size w w'):dz k w' g o m:=⟨aq h.1 hb,h.2.1.belw hb,h.2.2.1.belw hb,h.2.2.2⟩
theorem SlS.belw {α:Type}{P:World→Nat→Nat→α→Prop}{s:Nat}{w w':World}{A:Option Addr}{n c:Nat}{l:List α}(hP:∀ g o a,P w g o a→P w' g o a) (h:SlS P s w A n c l) (hb:Below w.heap.size w w'):SlS P s w' A n c l:=by
 refine ⟨h.1,h.2.1,fun hn=>?_⟩;obtain ⟨g,o,e,hg,h3⟩:=h.2.2 hn;exact ⟨g,o,e,Nat.lt_of_lt_of_le hg hb.size,fun i a ha=>hP _ _ _ (h3 i a ha)⟩
theorem eM.belw {w w':World}{g o:Nat}{b:aj}{k:Nat}(h:eM k w g o b) (hb:Below w.heap.size w w'):eM k w' g o b:=by
 obtain ⟨A,n,c,h1,h2,h3,h4⟩:=h;exact ⟨A,n,c,aq h1 hb,aq h2 hb,h3.belw (fun _ _ _ h=>h.belw hb) hb,h4⟩
theorem iZ.belw {w w':World}{g o:Nat}{j:aK}(h:iZ w g o j) (hb:Below w.heap.size w w'):iZ w' g o j :=
 ⟨aq h.1 hb,aq h.2.1 hb,aq h.2.2.1 hb,aq h.2.2.2.1 hb,aq h.2.2.2.2.1 hb,aq h.2.2.2.2.2.1 hb,aq h.2.2.2.2.2.2.1 hb,h.2.2.2.2.2.2.2⟩
theorem jc.belw {w w':World}{g o:Nat}{d:aQ}(h:jc w g o d) (hb:Below w.heap.size w w'):jc w' g o d:=⟨aq h.1 hb,aq h.2.1 hb,h.2.2⟩
theorem LkS.belw {k:Nat}{w w':World}{A B C:Option Addr}{n c p d q e:Nat}{L:ai}(h:LkS k w A n c B p d C q e L) (hb:Below w.heap.size w w'):LkS k w' A n c B p d C q e L :=
 ⟨h.name,h.bodies.belw (fun _ _ _ h=>h.belw hb) hb,h.joints.belw (fun _ _ _ h=>h.belw hb) hb,h.drivers.belw (fun _ _ _ h=>h.belw hb) hb⟩
theorem SlS.bd {k:Nat}{w w':World}{A:Option Addr}{n c:Nat}{l:List aj}(h:SlS (eM k) 2 w A n c l) (hb:Below w.heap.size w w'):SlS (eM k) 2 w' A n c l:=h.belw (fun _ _ _ h=>h.belw hb) hb
theorem SlS.mk_ {k:Nat}{w w':World}{A:Option Addr}{n c:Nat}{l:List au}(h:SlS (dz k) 7 w A n c l) (hb:Below w.heap.size w w'):SlS (dz k) 7 w' A n c l:=h.belw (fun _ _ _ h=>h.belw hb) hb
theorem SlS.jt {w w':World}{A:Option Addr}{n c:Nat}{l:List aK}(h:SlS iZ 7 w A n c l) (hb:Below w.heap.size w w'):SlS iZ 7 w' A n c l:=h.belw (fun _ _ _ h=>h.belw hb) hb
theorem SlS.dr {w w':World}{A:Option Addr}{n c:Nat}{l:List aQ}(h:SlS jc 2 w A n c l) (hb:Below w.heap.size w w'):SlS jc 2 w' A n c l:=h.belw (fun _ _ _ h=>h.belw hb) hb
theorem SlS.at_ {α:Type}{P:World→Nat→Nat→α→Prop}{s:Nat}{w:World}{A:Option Addr}{n c:Nat}{l:List α}(h:SlS P s w A n c l) {i:Nat}(hi:i < n):∃ g o a,A=some ⟨g,o,none⟩∧g < w.heap.size∧n≤c∧l[i]?=some a∧P w g (o+i * s) a:=by
 obtain ⟨g,o,e,hg,h3⟩:=h.2.2 (by omega);have hl:i < l.length:=by rw [h.1];exact hi
 exact ⟨g,o,l[i],e,hg,h.2.1,List.getElem?_eq_getElem hl,h3 i _ (List.getElem?_eq_getElem hl)⟩
theorem SlS.rowAt {α:Type}{P:World→Nat→Nat→α→Prop}{s:Nat}{w:World}{g o n c:Nat}{l:List α}(h:SlS P s w (some ⟨g,o,none⟩) n c l) {j:Nat}(hj:j < n):∃ a,l[j]?=some a∧P w g (o+j * s) a:=by
 obtain ⟨g',o',a,e,_,_,ha,hp⟩:=h.at_ hj;injection e with e;injection e with e1 e2 _;subst e1 e2;exact ⟨a,ha,hp⟩
theorem uW (b:Nat) (w:World) (h0:w.cell? ⟨b,0,none⟩=some (.pointer (some ⟨b,0,none⟩))) :
 Calls Tryz.prog 101 #[.pointer (some ⟨b,0,none⟩)] w fun e w'=>e=.returned (.tuple #[])∧w'=w:=by
 obtain ⟨j,hj,_⟩:=Option.map_eq_some_iff.1 (show (Tryz.prog.info? 104).map TypeInfo.size=some 2 by kernel_rfl);go_in;go_wp2;rw [Lib.run_neq_ptr_same w _ Tryz.underlying101 hj];go_wp2;go_end0;exact ⟨rfl,rfl⟩
theorem sF (b:Nat) (w:World) (h0:w.cell? ⟨b,0,none⟩=some (.pointer none)) (hsh:w.shape? b=some (104,2)) (hfz:w.frozen? ⟨b,0,none⟩=false) :
 Calls Tryz.prog 101 #[.pointer (some ⟨b,0,none⟩)] w fun e w'=>e=.returned (.tuple #[])∧w'=w.setCell ⟨b,0,none⟩ (.pointer (some ⟨b,0,none⟩)):=by
 obtain ⟨j,hj,hjs⟩:=Option.map_eq_some_iff.1 (show (Tryz.prog.info? 104).map TypeInfo.size=some 2 by kernel_rfl);go_in;go_wp2;rw [Lib.run_to_unsafe w ⟨b,0,none⟩ Tryz.underlying101 Tryz.underlying187 hj (by rw [hjs];decide) hsh (Nat.zero_lt_succ 1)];simp only [Result.andThen];rw [Oper.upon_value];go_wp2;rw [run_callFunc_extern Tryz.func144 (by kernel_rfl) (by kernel_rfl) (by kernel_rfl) (e:=Extern.AbiNoEscape.same) (by kernel_rfl)];rw [Lib.run_noEscape];simp only [Result.andThen];rw [Oper.upon_value];go_wp2;rw [Lib.run_from_unsafe w ⟨b,0,none⟩ Tryz.underlying187 Tryz.underlying101 hj hsh (by kernel_rfl)];simp only [Result.andThen];rw [Oper.upon_value];go_wp2;go_end0;exact ⟨rfl,rfl⟩
def Oth (b:Nat) (w w':World):Prop:=∀ g T cs,g≠b→T≠5→Blk w g T cs→Blk w' g T cs
theorem Oth.refl (b:Nat) (w:World):Oth b w w:=fun _ _ _ _ _ h=>h
theorem Oth.set {b:Nat}{w w':World}(h:Oth b w w') (i:Nat) (u:Value):Oth b w (w'.setCell ⟨b,i,none⟩ u):=fun g T cs hg hT hb=>(h g T cs hg hT hb).far hg u
theorem sG (B b:Nat) (bs:List Value) (w:World) (h:Lib.IsBuilder 104 5 B b bs w) :
 Calls Tryz.prog 101 #[.pointer (some ⟨b,0,none⟩)] w fun e w'=>e=.returned (.tuple #[])∧(Lib.BuilderAt 104 5 B b (.pointer (some ⟨b,0,none⟩)) bs w'∧Below B w w'∧Oth b w w'):=by
 rcases h with h | h
 ·refine (sF b w h.cell0 h.shape h.frozen0).mono ?_
  rintro e w' ⟨rfl,rfl⟩;exact ⟨rfl,h.used _,(Below.refl B w).setCell (p:=⟨b,0,none⟩) h.1 _,(Oth.refl b w).set 0 _⟩
 refine (uW b w h.cell0).mono ?_;rintro e w' ⟨rfl,rfl⟩;exact ⟨rfl,h,Below.refl B _,Oth.refl b _⟩
theorem sH (B b:Nat) (bs:List Value) (s:ByteArray) (w:World) (h:Lib.IsBuilder 104 5 B b bs w) (hlen:bs.length+s.size≤140737488355328) (hBw:B≤w.heap.size) :
 Calls Tryz.prog 61 #[.pointer (some ⟨b,0,none⟩),.string s] w fun e w'=>e=.returned (.tuple #[.int .i64 s.size,.nilIface])∧(Lib.BuilderAt 104 5 B b (.pointer (some ⟨b,0,none⟩)) (bs ++ Lib.strCells s) w'∧Below B w w'∧Oth b w w'):=by
 obtain ⟨i0,hi,hz0,hz1,hz2⟩:=info_parts (show (Tryz.prog.info? 5).map (fun i=>(i.zero,i.size,i.bytes))=some (some (.int .u8 0),1,1) by kernel_rfl);go_in;go_wp2_with (go_at_call 101;refine (sG B b bs _ h).mono ?_);rintro e w1 ⟨rfl,h1,hb1,ho1⟩;obtain ⟨hB,v,hbk,hown,hne⟩:=h1;have c0:w1.cell? ⟨b,0,none⟩=some (.pointer (some ⟨b,0,none⟩)):=by rw [Lib.cell_of_heap hbk];rfl
 have c1:w1.cell? ⟨b,1,none⟩=some v:=by rw [Lib.cell_of_heap hbk];rfl
 go_wp2_with (at_builtin;refine Lib.wpList_append_own_string _ rfl _ _ 102 9 rfl B 5 i0 Tryz.underlying102 Tryz.underlying9 hi hz0 hz1 hz2 _ _ _ rfl hown s rfl ?c3 ?c4 ?c5 ?_)
 case c3=>unfold maxLen;omega
 case c4=>omega
 case c5=>have:=hb1.size;omega
 intro v' w2 hown' hgrow _
 have hlt:b < w1.heap.size:=by
  rcases Nat.lt_or_ge b w1.heap.size with h' | h'
  ·exact h'
  simp [Array.getElem?_eq_none h'] at hbk
 have hb2:w2.heap[b]?=some (.cells #[.pointer (some ⟨b,0,none⟩),v] 104 (0,0)):=by
  rw [hgrow.block b hlt (fun e=>hne e.symm)];exact hbk
 have d0:w2.cell? ⟨b,0,none⟩=some (.pointer (some ⟨b,0,none⟩)):=by rw [Lib.cell_of_heap hb2];rfl
 have d1:w2.cell? ⟨b,1,none⟩=some v:=by rw [Lib.cell_of_heap hb2];rfl
 have f1:w2.frozen? ⟨b,1,none⟩=false:=Lib.frozen_of_heap hb2 1
 obtain ⟨ao,n',cap,rfl⟩:∃ ao n' cap,v'=.slice ao n' cap:=by
  rcases hown'.2 with ⟨hv,_⟩ | ⟨g,cap,cur,hv,_⟩
  ·exact ⟨_,_,_,hv⟩
  exact ⟨_,_,_,hv⟩
 go_wp2;go_ret2;refine ⟨rfl,?_,?_,Oth.set (fun g T cs hg hT hb=>?_) 1 _⟩
 ·exact Lib.BuilderAt.put (T:=104) (e:=5) hB hb2 (bs':=bs ++ Lib.strCells s) (by simpa [Lib.strCells_length] using hown') (by decide)
 ·exact (hb1.grown hgrow (by have:=hb1.size;omega) (fun k hk=>(hown.lt k hk).1)).setCell (p:=⟨b,1,none⟩) hB _
 have h9:=ho1 g T cs hg hT hb;refine (hgrow.block g h9.lt (fun hgv=>?_)).trans h9;rcases hown.2 with ⟨hv,_⟩ | ⟨g',cap,cur,hv,_,hk,_⟩
 ·rw [hv] at hgv;cases hgv
 rw [hv] at hgv;injection hgv with hgv;subst hgv;have:=h9.symm.trans hk;simp only [Option.some.injEq,Obj.cells.injEq] at this;exact hT this.2.1
theorem jd (w:World) (b:Bool) (A:Option Addr) (n c:Nat) (D:Option Addr) (m e:Nat) (r:RD) (k:Nat) (h:QD w b A n c D m e r k) (h0:0 < k) (hk:k≤40000000) (htab:Tab w) (T:List UInt8) (hT:aG r.q=T) :
 Calls Tryz.prog 19 #[.agg #[.bool b,.slice A n c,.slice D m e]] w (aB w (ae T)):=by
 have H:=Qh h;have HT:=Qh hT;clear h hT;go_in;go_wp2_with fail;have q0:Below w.heap.size w (w.alloc (.cells #[.bool b,.slice A n c,.slice D m e] 54)):=(Below.refl _ _).alloc Qr _;(with_reducible refine (yR _ b A n c D m e r.q k (H.out.belw q0).qz h0 hk (htab.belw q0) T HT.out).mono ?_);rintro e' w1 ⟨rfl,hb1⟩;have q1:=q0.trans (hb1.mono q0.size);go_wp2;go_ret;exact ⟨rfl,q1⟩
def Bu (B b:Nat) (w:World) (l:List UInt8):Prop:=Lib.IsBuilder 104 5 B b (Lib.byteCells l) w∧B≤w.heap.size
theorem BuilderAt.belw {T e:TypeId}{B b:Nat}{p:Value}{bs:List Value}{w w':World}(h:Lib.BuilderAt T e B b p bs w) (hb:Below w.heap.size w w'):Lib.BuilderAt T e B b p bs w':=by
 have hlt:=h.lt;obtain ⟨hB,v,hk,hown,hne⟩:=h;refine ⟨hB,v,(hb.block b hlt).trans hk,⟨hown.1,?_⟩,hne⟩;rcases hown.2 with h1 | ⟨g,cap,cur,h1,h2,h3,h4⟩
 ·exact Or.inl h1
 refine Or.inr ⟨g,cap,cur,h1,h2,(hb.block g ?_).trans h3,h4⟩;exact lt_of_block h3
theorem Bu.belw {B b:Nat}{w w':World}{l:List UInt8}(h:Bu B b w l) (hb:Below w.heap.size w w'):Bu B b w' l :=
 ⟨h.1.imp (fun x=>BuilderAt.belw x hb) (fun x=>BuilderAt.belw x hb),Nat.le_trans h.2 hb.size⟩
theorem Bu.lt {B b:Nat}{w:World}{l:List UInt8}(h:Bu B b w l):b < w.heap.size:=h.1.elim (fun x=>x.lt) (fun x=>x.lt)
theorem Bu.new {w:World}:Bu w.heap.size w.heap.size (w.alloc (.cells #[.pointer none,.slice none 0 0] 104)) [] :=
 ⟨Lib.fresh_isBuilder _ _ w,by simp⟩
theorem lz (a:List UInt8) (b:List UInt8):Lib.byteCells a ++ Lib.strCells ⟨b.toArray⟩=Lib.byteCells (a ++ b):=by
 simp [Lib.strCells,Lib.byteCells]
theorem dA (B b:Nat) (w:World) (l s:List UInt8) (h:Bu B b w l) (hlen:l.length+s.length≤140737488355328) :
 Calls Tryz.prog 61 #[.pointer (some ⟨b,0,none⟩),ae s] w fun e w'=>e=.returned (.tuple #[.int .i64 (s.length:Nat),.nilIface])∧Bu B b w' (l ++ s)∧Below B w w'∧Oth b w w':=by
 have hz:(⟨s.toArray⟩:ByteArray).size=s.length:=aE s;refine (sH B b (Lib.byteCells l) ⟨s.toArray⟩ w h.1 (by rw [hz];simpa [Lib.byteCells] using hlen) h.2).mono ?_;rintro e w' ⟨rfl,h1,h2,h3⟩;rw [lz] at h1;exact ⟨by rw [hz],⟨Or.inr h1,Nat.le_trans h.2 h2.size⟩,h2,h3⟩
theorem yS (B b:Nat) (w:World) (l:List UInt8) (h:Bu B b w l) :
 Calls Tryz.prog 65 #[.pointer (some ⟨b,0,none⟩)] w fun e w'=>e=.returned (.int .i64 (l.length:Nat))∧w'=w:=by
 refine (Tryz.Builder_Len B b _ w h.1).mono ?_;rintro e w' ⟨rfl,rfl⟩;exact ⟨by simp [Lib.byteCells],rfl⟩
theorem uX (B b:Nat) (w:World) (l:List UInt8) (h:Bu B b w l) :
 Calls Tryz.prog 67 #[.pointer (some ⟨b,0,none⟩)] w fun e w'=>e=.returned (ae l)∧Below B w w':=Tryz.Builder_String_any B b l w h.1 h.2
theorem Blk.c7 {w:World}{g t:Nat}{a0 a1 a2 a3 a4 a5 a6:Value}(h:Blk w g t #[a0,a1,a2,a3,a4,a5,a6]):w.cell? ⟨g,0,none⟩=some a0∧w.cell? ⟨g,1,none⟩=some a1∧w.cell? ⟨g,2,none⟩=some a2∧w.cell? ⟨g,3,none⟩=some a3∧w.cell? ⟨g,4,none⟩=some a4∧w.cell? ⟨g,5,none⟩=some a5∧w.cell? ⟨g,6,none⟩=some a6:=⟨h.cell 0,h.cell 1,h.cell 2,h.cell 3,h.cell 4,h.cell 5,h.cell 6⟩
abbrev S7 (g:Nat) (a0 a1 a2 a3 a4 a5 a6:Value) (w:World):Prop:=w.cell? ⟨g,0,none⟩=some a0∧w.cell? ⟨g,1,none⟩=some a1∧w.cell? ⟨g,2,none⟩=some a2∧w.cell? ⟨g,3,none⟩=some a3∧w.cell? ⟨g,4,none⟩=some a4∧w.cell? ⟨g,5,none⟩=some a5∧w.cell? ⟨g,6,none⟩=some a6
theorem dz.short {w:World}{g o:Nat}{m:au}(h:dz 500 w g o m) (hm:m.name.length≤1000):gC m:=by
 obtain ⟨_,⟨b,A,n,c,D,m1,e,_,_,_,h1⟩,⟨b',A',n',c',D',m1',e',_,_,_,h2⟩,_⟩:=h;exact ⟨hm,h1.sz (by decide),h2.sz (by decide)⟩
theorem SlS.short {w:World}{A:Option Addr}{n c:Nat}{l:List au}(h:SlS (dz 500) 7 w A n c l) (hms:∀ m∈l,m.name.length≤1000):∀ m∈l,gC m:=by
 intro m hm;obtain ⟨i,hi,e⟩:=List.getElem_of_mem hm;obtain ⟨g,o,a,_,_,_,ha,hp⟩:=h.at_ (i:=i) (by rw [← h.1];exact hi);rw [List.getElem?_eq_getElem hi] at ha;injection ha with ha;rw [← ha,e] at hp;exact hp.short (hms m hm)
theorem yT (w:World) (A:Option Addr) (n c:Nat) (b:aj) (h:SlS (dz 500) 7 w A n c b.pts) (htab:Tab w) (hn:n≤1000) (hnm:b.name.length≤1000) (hms:∀ m∈b.pts,m.name.length≤1000) (T:List UInt8) (hT:fc b=T) :
 Calls Tryz.prog 62 #[.agg #[ae b.name,.slice A n c]] w (aB w (ae T)):=by
 have HM:=Qh (h.short hms);have HF:=Qh (jO (h.short hms));have hlen:=h.1;have hnc:=h.2.1;have hsn:=aE b.name;obtain ⟨h1,eh1⟩:∃ t,[98,111,100,121,32] ++ b.name=t:=⟨_,rfl⟩;have ah1:=cI ([98,111,100,121,32]) (b.name);rw [eh1] at ah1;have lh1:h1.length=5+b.name.length:=by rw [← eh1,List.length_append];try simp
 have kh1:(9223372036854775807 < 5+b.name.length)=False:=eq_false (by omega);have zh1:=aE h1;obtain ⟨h2,eh2⟩:∃ t,h1 ++ [32,123]=t:=⟨_,rfl⟩;have ah2:=cI (h1) ([32,123]);rw [eh2] at ah2;have lh2:h2.length=h1.length+2:=by rw [← eh2,List.length_append];try simp
 have kh2:(9223372036854775807 < h1.length+2)=False:=eq_false (by omega);have zh2:=aE h2;have HE:Hid (b.pts.flatMap ba ++ [32,125] ++ []=b.pts.flatMap ba ++ [32,125]∧T=h2 ++ b.pts.flatMap ba ++ [32,125]):=Qh ⟨by simp,by rw [← hT,← eh2,← eh1];rfl⟩;have HLN:=Qh hlen;have HTab:=Qh htab;have H:=Qh h;have hl2:h2.length≤1007:=by omega
 clear h hms hT htab hlen eh1 eh2 lh1 lh2;go_in;go_wp2_with fail
 have B0:Bu (w.heap.size+1) (w.heap.size+1) ((w.alloc (.cells #[ae b.name,.slice A n c] 51)).alloc (.cells #[.pointer none,.slice none 0 0] 104)) []:=by
  have:=Bu.new (w:=w.alloc (.cells #[ae b.name,.slice A n c] 51));simpa using this
 have q0:Below w.heap.size w ((w.alloc (.cells #[ae b.name,.slice A n c] 51)).alloc (.cells #[.pointer none,.slice none 0 0] 104)):=((aa w).alloc Qr _).alloc (by simp) _;have xa:Blk ((w.alloc (.cells #[ae b.name,.slice A n c] 51)).alloc (.cells #[.pointer none,.slice none 0 0] 104)) w.heap.size 51 #[ae b.name,.slice A n c]:=(ak _ _ _ rfl).alloc _;(with_reducible refine (dA _ _ _ _ h2 B0 (by simp;omega)).mono ?_);rintro e' w1 ⟨rfl,B1,q1,_⟩;have q1:Below w.heap.size w w1:=q0.trans (q1.mono (by omega));have xa:=xa.below ‹Below (w.heap.size+1) _ w1› (by omega);rw [List.nil_append] at B1;clear B0 q0;obtain ⟨cA0,cA1⟩:=xa.c2;have HB:=Qh B1;clear B1;go_wp2_with fail;clear cA0 cA1;go_loopw [14] (fun iv wr=>∃ i:Nat,iv=.int .i64 (i:Nat)∧i≤n∧Hid (Bu (w.heap.size+1) (w.heap.size+1) wr (h2 ++ (b.pts.take i).flatMap ba))∧Below w.heap.size w wr) (fun iv _=>n - (intOf iv).toNat)
 case atStart=>exact ⟨0,rfl,Nat.zero_le _,by simpa using HB,q1⟩
 case round =>
  clear HB q1;obtain ⟨i,rfl,hi,HB,hb⟩:=hrel;rename World=>wa;have hfl:=fd ba b.pts i;rcases Nat.lt_or_ge i n with hlt | hge
  ·have hi1:((i:Int) < (n:Int))=True:=by simp;omega
   obtain ⟨g,o,m,e1,hg,_,hbi,hM⟩:=(H.out.mk_ hb).at_ hlt;subst e1;have hsh:=HM.out m (List.mem_of_getElem? hbi);obtain ⟨hm1,hm2,hm3⟩:=hsh;have hfs:=gF ba hbi;have hfl2:=fd ba b.pts (i+1);obtain ⟨d0,⟨b1,A1,n1,c1,D1,m1,e1,d1,d2,d3,hQ1⟩,⟨b2,A2,n2,c2,D2,m2,e2,d4,d5,d6,hQ2⟩,hmn⟩:=hM;have d2:wa.cell? ⟨g,o+i * 7+2,none⟩=some (.slice A1 n1 c1):=d2;have d3:wa.cell? ⟨g,o+i * 7+3,none⟩=some (.slice D1 m1 e1):=d3;have d5:wa.cell? ⟨g,o+i * 7+5,none⟩=some (.slice A2 n2 c2):=d5;have d6:wa.cell? ⟨g,o+i * 7+6,none⟩=some (.slice D2 m2 e2):=d6;have hsm:=aE m.name;obtain ⟨X,hX⟩:∃ X,aG m.x.q=X:=⟨_,rfl⟩;obtain ⟨Y,hY⟩:∃ Y,aG m.y.q=Y:=⟨_,rfl⟩;have hsX:=aE X;have hsY:=aE Y;have hlX:X.length≤10100:=by rw [← hX];exact fv hm2 Qr
   have hlY:Y.length≤10100:=by rw [← hY];exact fv hm3 Qr
   obtain ⟨s1,es1⟩:∃ t,[32] ++ m.name=t:=⟨_,rfl⟩;have as1:=cI ([32]) (m.name);rw [es1] at as1;have ls1:s1.length=1+m.name.length:=by rw [← es1,List.length_append];try simp
   have ks1:(9223372036854775807 < 1+m.name.length)=False:=eq_false (by omega);have zs1:=aE s1;obtain ⟨s2,es2⟩:∃ t,s1 ++ [32]=t:=⟨_,rfl⟩;have as2:=cI (s1) ([32]);rw [es2] at as2;have ls2:s2.length=s1.length+1:=by rw [← es2,List.length_append];try simp
   have ks2:(9223372036854775807 < s1.length+1)=False:=eq_false (by omega);have zs2:=aE s2;obtain ⟨s3,es3⟩:∃ t,s2 ++ X=t:=⟨_,rfl⟩;have as3:=cI (s2) (X);rw [es3] at as3;have ls3:s3.length=s2.length+X.length:=by rw [← es3,List.length_append];try simp
   have ks3:(9223372036854775807 < s2.length+X.length)=False:=eq_false (by omega);have zs3:=aE s3;obtain ⟨s4,es4⟩:∃ t,s3 ++ [32]=t:=⟨_,rfl⟩;have as4:=cI (s3) ([32]);rw [es4] at as4;have ls4:s4.length=s3.length+1:=by rw [← es4,List.length_append];try simp
   have ks4:(9223372036854775807 < s3.length+1)=False:=eq_false (by omega);have zs4:=aE s4;obtain ⟨s5,es5⟩:∃ t,s4 ++ Y=t:=⟨_,rfl⟩;have as5:=cI (s4) (Y);rw [es5] at as5;have ls5:s5.length=s4.length+Y.length:=by rw [← es5,List.length_append];try simp
   have ks5:(9223372036854775807 < s4.length+Y.length)=False:=eq_false (by omega);have zs5:=aE s5;obtain ⟨s6,es6⟩:∃ t,s5 ++ [59]=t:=⟨_,rfl⟩;have as6:=cI (s5) ([59]);rw [es6] at as6;have ls6:s6.length=s5.length+1:=by rw [← es6,List.length_append];try simp
   have ks6:(9223372036854775807 < s5.length+1)=False:=eq_false (by omega);have zs6:=aE s6
   have hmt:ba m=s6:=by
    rw [← es6,← es5,← es4,← es3,← es2,← es1,← hX,← hY];unfold ba;simp
   rw [hmt] at hfs
   have hls:((b.pts.take i).flatMap ba).length+s6.length≤22000 * n:=by
    have:=congrArg List.length hfs;rw [List.length_append] at this;have h9:=HF.out;have h8:=HLN.out;rw [h8] at h9;omega
   have HX:=Qh hX;have HY:=Qh hY;have HFS:=Qh hfs;have HQ1:=Qh hQ1;have HQ2:=Qh hQ2;have HLS:=Qh hls;have hga:g < wa.heap.size:=hg;clear hX hY hfs hQ1 hQ2 hls hmt hfl hfl2 hbi hm1 hm2 hm3 es1 es2 es3 es4 es5 es6 ls1 ls2 ls3 ls4 ls5 ls6;go_wp2_with fail;have xp:Blk (wa.alloc (.cells #[ae m.name,.bool b1,.slice A1 n1 c1,.slice D1 m1 e1,.bool b2,.slice A2 n2 c2,.slice D2 m2 e2] 56)) wa.heap.size 56 #[ae m.name,.bool b1,.slice A1 n1 c1,.slice D1 m1 e1,.bool b2,.slice A2 n2 c2,.slice D2 m2 e2]:=ak _ _ _ rfl;have qb:Below wa.heap.size wa (wa.alloc (.cells #[ae m.name,.bool b1,.slice A1 n1 c1,.slice D1 m1 e1,.bool b2,.slice A2 n2 c2,.slice D2 m2 e2] 56)):=(aa wa).alloc Qr _;have HBb:=Qh (HB.out.belw qb);have HTb:=Qh ((HTab.out.belw hb).belw qb);have HQ1b:=Qh (HQ1.out.belw qb);have HQ2b:=Qh (HQ2.out.belw qb);have bwb:=hb.trans (qb.mono hb.size);have hwb:wa.heap.size < (wa.alloc (.cells #[ae m.name,.bool b1,.slice A1 n1 c1,.slice D1 m1 e1,.bool b2,.slice A2 n2 c2,.slice D2 m2 e2] 56)).heap.size:=xp.lt;have hbl:wa.heap.size≠w.heap.size+1:=by have:=HB.out.lt;omega
   clear HB HQ1 HQ2 d0 d1 d2 d3 d4 d5 d6;generalize (wa.alloc (.cells #[ae m.name,.bool b1,.slice A1 n1 c1,.slice D1 m1 e1,.bool b2,.slice A2 n2 c2,.slice D2 m2 e2] 56))=wb at xp qb HBb HTb HQ1b HQ2b bwb hwb ⊢;obtain ⟨cp0,cp1,cp2,cp3,cp4,cp5,cp6⟩:=xp.c7
   go_region_held3 (S7 wa.heap.size (ae m.name) (.bool b1) (.slice A1 n1 c1) (.slice D1 m1 e1) (.bool b2) (.slice A2 n2 c2) (.slice D2 m2 e2)) (first | with_reducible exact Blk.c7 (by assumption) | with_reducible exact Blk.c7 (Blk.drew (by assumption)) | exact Blk.c7 (Blk.drewN (by assumption) _))
    (first
     | (go_at_call 19;(with_reducible refine (jd _ b1 A1 n1 c1 D1 m1 e1 m.x 500 ?_ (by decide) (by decide) ?_ X HX.out).mono ?_);(exact HQ1b.out.belw (by first | exact qwy | exact (aa wb).drew | exact af (aa wb) _));(exact HTb.out.belw (by first | exact qwy | exact (aa wb).drew | exact af (aa wb) _));rintro e' wx ⟨rfl,hwx⟩;have qwx:Below wb.heap.size wb wx:=(by first | exact ah qwy hwx | exact ah (aa wb) hwx | exact ah (af (aa wb) _) hwx);have xwx:=xp.below qwx xp.lt)
     | (go_at_call 19;(with_reducible refine (jd _ b2 A2 n2 c2 D2 m2 e2 m.y 500 ?_ (by decide) (by decide) ?_ Y HY.out).mono ?_);(exact HQ2b.out.belw (by first | exact qwx | exact (aa wb).drew | exact af (aa wb) _));(exact HTb.out.belw (by first | exact qwx | exact (aa wb).drew | exact af (aa wb) _));rintro e' wy ⟨rfl,hwy⟩;have qwy:Below wb.heap.size wb wy:=(by first | exact ah qwx hwy | exact ah (aa wb) hwy | exact ah (af (aa wb) _) hwy);have xwy:=xp.below qwy xp.lt)
     | (go_at_call 61;(with_reducible refine (dA _ _ _ _ s6 (HBb.out.belw (by first | exact qwx | exact qwy)) (by rw [List.length_append];have:=HLS.out;omega)).mono ?_);rintro e' wz ⟨rfl,Bz,qz,oz⟩;have xz:=oz wa.heap.size 56 _ hbl (by decide) (by first | exact xwx | exact xwy)))
   all_goals
    have bz:Below w.heap.size w wz:=by
     first
      | exact (bwb.trans (qwy.mono bwb.size)).trans (qz.mono (Nat.le_succ _))
      | exact (bwb.trans (qwx.mono bwb.size)).trans (qz.mono (Nat.le_succ _))
    have HBz:Hid (Bu (w.heap.size+1) (w.heap.size+1) wz (h2 ++ (b.pts.take (i+1)).flatMap ba)):=Qh (by rw [HFS.out,← List.append_assoc];exact Bz);clear Bz HFS cp0 cp1 cp2 cp3 cp4 cp5 cp6;go_wp2_with fail;go_roundw
    case rel=>exact ⟨i+1,by go_num,by omega,HBz,bz⟩
    case measure=>simp [intOf];omega
  have hi1:((i:Int) < (n:Int))=False:=by simp;omega
  have hin:b.pts.take i=b.pts:=List.take_of_length_le (by rw [HLN.out];exact hge);rw [hin] at HB;have hf:=HF.out;rw [HLN.out] at hf;have HFL:=Qh hf;clear hf hin hfl;go_wp2_with fail;(with_reducible refine (dA _ _ _ _ [32,125] HB.out (by rw [List.length_append];have:=HFL.out;simp only [List.length_cons,List.length_nil];omega)).mono ?_);rintro e' w2 ⟨rfl,B2,q2,_⟩;have b2:=hb.trans (q2.mono (Nat.le_succ _));have HB2:=Qh B2;clear B2;go_wp2_with fail;(with_reducible refine (uX _ _ _ _ HB2.out).mono ?_);rintro e' w3 ⟨rfl,q3⟩;have b3:=b2.trans (q3.mono (Nat.le_succ _));have hTT:h2 ++ b.pts.flatMap ba ++ [32,125]=T:=HE.out.2.symm;rw [hTT];go_wp2;go_ret;exact ⟨rfl,b3⟩
theorem p8 (w:World) (A:Option Addr) (n c:Nat) (B:Option Addr) (p d:Nat) (C:Option Addr) (q e:Nat) (nm:List UInt8) (l:List aj) (k:Nat) (h:SlS (eM k) 2 w A n c l) (i j:Nat) (b:aj) (m:au) (hb:l[i]?=some b) (hm:b.pts[j]?=some m) (hlb:b.name.length≤1000) (hlm:m.name.length≤1000) (T:List UInt8) (hT:b.name ++ 46 :: m.name=T) :
 Calls Tryz.prog 63 #[.agg #[ae nm,.slice A n c,.slice B p d,.slice C q e],.int .i64 (i:Nat),.int .i64 (j:Nat)] w (aB w (ae T)):=by
 have hil:i < n:=by rw [← h.1];exact (List.getElem?_eq_some_iff.1 hb).1
 obtain ⟨g,o,b',e1,hg,hnc,hb',hB⟩:=h.at_ hil;rw [hb] at hb';injection hb' with hb';subst hb' e1;obtain ⟨A',n',c',c0,c1,hM,_⟩:=hB;have hjl:j < n':=by rw [← hM.1];exact (List.getElem?_eq_some_iff.1 hm).1
 obtain ⟨g',o',m',e1,hg',hnc',hm',hK⟩:=hM.at_ hjl;rw [hm] at hm';injection hm' with hm';subst hm' e1;have k0:=hK.1;have f1:((i:Int) < (n:Int)):=by omega
 have f2:((j:Int) < (n':Int)):=by omega
 have hsb:=aE b.name;have hsm:=aE m.name;obtain ⟨h1,eh1⟩:∃ t,b.name ++ [46]=t:=⟨_,rfl⟩;have ah1:=cI (b.name) ([46]);rw [eh1] at ah1;have lh1:h1.length=b.name.length+1:=by rw [← eh1,List.length_append];try simp
 have kh1:(9223372036854775807 < b.name.length+1)=False:=eq_false (by omega);have zh1:=aE h1;obtain ⟨h2,eh2⟩:∃ t,h1 ++ m.name=t:=⟨_,rfl⟩;have ah2:=cI (h1) (m.name);rw [eh2] at ah2;have lh2:h2.length=h1.length+m.name.length:=by rw [← eh2,List.length_append];try simp
 have kh2:(9223372036854775807 < h1.length+m.name.length)=False:=eq_false (by omega);have zh2:=aE h2;have hTT:h2=T:=by rw [← hT,← eh2,← eh1];simp
 subst hTT;have hgl:¬ g=w.heap.size:=by omega
 have hgl':¬ g'=w.heap.size:=by omega
 have hgl2:¬ g'=w.heap.size+1:=by omega
 have hnn:((i:Int)≤(n:Int)):=by omega
 clear hb hm hM hK h hT eh1 eh2 lh1 lh2;go_in;go_wp2_with fail;go_quiet (fail);go_wp2;go_ret;exact ⟨rfl,by first | exact ((aa w).alloc Qr _).alloc (by simp) _ | exact af (((aa w).alloc Qr _).alloc (by simp) _) _⟩
def fD (m:au):Bool:=decide (60 < (aG m.x.q).length) || decide (60 < (aG m.y.q).length)
def fQ (l:List aj):Bool:=l.any fun b=>b.pts.any fD
theorem oM {α:Type}{f:α→Bool}{l:List α}{i:Nat}{a:α}(ha:l[i]?=some a) (h:(l.take i).any f=false) (hf:f a=false):(l.take (i+1)).any f=false:=by
 rw [List.take_add_one,ha,List.any_append,h];simp [hf]
theorem ra {α:Type}{f:α→Bool}{l:List α}{i:Nat}{a:α}(ha:l[i]?=some a) (hf:f a=true):l.any f=true :=
 List.any_eq_true.2 ⟨a,List.mem_of_getElem? ha,hf⟩
theorem qf {l:List aj}{i:Nat}{b:aj}(hb:l[i]?=some b) (h:fQ (l.take i)=false) (hf:b.pts.any fD=false):fQ (l.take (i+1))=false:=oM hb h hf
theorem mb {l:List aj}{i j:Nat}{b:aj}{m:au}(hb:l[i]?=some b) (hm:b.pts[j]?=some m) (h:fD m=true):fQ l=true:=ra hb (ra hm h)
theorem yU (w:World) (A:Option Addr) (n c:Nat) (B:Option Addr) (p d:Nat) (C:Option Addr) (q e:Nat) (nm:List UInt8) (l:List aj) (h:SlS (eM 500) 2 w A n c l) (htab:Tab w) (hn:n≤1000) (hps:∀ b∈l,b.pts.length≤1000) (v:Bool) (hv:fQ l=v) :
 Calls Tryz.prog 66 #[.agg #[ae nm,.slice A n c,.slice B p d,.slice C q e]] w (aB w (.bool v)):=by
 have HV:=Qh hv;have HL:=Qh h.1;have HPS:=Qh hps;have hnc:=h.2.1;have H:=Qh h;have HTab:=Qh htab;clear htab;clear h hv hps;go_in;go_wp2_with fail;go_loopw [10] (fun iv wr=>∃ i:Nat,iv=.int .i64 (i:Nat)∧i≤n∧Hid (fQ (l.take i)=false)∧Blk wr w.heap.size 26 #[ae nm,.slice A n c,.slice B p d,.slice C q e]∧Below w.heap.size w wr) (fun iv _=>n - (intOf iv).toNat)
 case atStart=>exact ⟨0,rfl,Nat.zero_le _,Qh rfl,ak _ _ _ (by simp),(aa w).alloc Qr _⟩
 case round =>
  obtain ⟨i,rfl,hi,HI,xL,hb⟩:=hrel;rename World=>wa;have hlL:w.heap.size < wa.heap.size:=xL.lt;have cL:=xL.cell 1;rcases Nat.lt_or_ge i n with hlt | hge
  ·have hi1:((i:Int) < (n:Int))=True:=by simp;omega
   obtain ⟨g,o,b,e1,hg,_,hbi,hB⟩:=(H.out.bd hb).at_ hlt;subst e1;obtain ⟨A',n',c',c0,c1,hM,hnm⟩:=hB;have hnc':=hM.2.1;have hn1:n'≤1000:=by rw [← hM.1];exact HPS.out b (List.mem_of_getElem? hbi)
   have HM:=Qh hM;have HBI:=Qh hbi;clear hM hbi;go_wp2_with fail;have xb:Blk (wa.alloc (.cells #[ae b.name,.slice A' n' c'] 51)) wa.heap.size 51 #[ae b.name,.slice A' n' c']:=ak _ _ _ rfl;have qb:Below wa.heap.size wa (wa.alloc (.cells #[ae b.name,.slice A' n' c'] 51)):=(aa wa).alloc Qr _;have xL1:=xL.below qb xL.lt;have hb1:=hb.trans (qb.mono hb.size);clear cL c0 c1;generalize (wa.alloc (.cells #[ae b.name,.slice A' n' c'] 51))=wx at xb qb xL1 hb1 ⊢;have cb:=xb.cell 1;go_wp2_with fail;clear cb;go_loopw [17] (fun jv w2=>∃ j:Nat,jv=.int .i64 (j:Nat)∧j≤n'∧Hid ((b.pts.take j).any fD=false)∧Below wx.heap.size wx w2) (fun jv _=>n' - (intOf jv).toNat)
   case atStart=>exact ⟨0,rfl,Nat.zero_le _,Qh rfl,aa wx⟩
   case round =>
    obtain ⟨j,rfl,hj,HJ,hb2⟩:=hrel;rename World=>wb;have xL2:=xL1.below hb2 xL1.lt;have hlL2:w.heap.size < wb.heap.size:=xL2.lt;have cL2:=xL2.cell 1;have bwb:=hb1.trans (hb2.mono hb1.size);rcases Nat.lt_or_ge j n' with hjl | hjg
    ·have hj1:((j:Int) < (n':Int))=True:=by simp;omega
     obtain ⟨g',o',m,e1,hg',_,hmj,hM⟩:=((HM.out.mk_ qb).mk_ hb2).at_ hjl;subst e1;have HMJ:=Qh hmj;obtain ⟨d0,⟨b1,A1,n1,c1,D1,m1,e1,d1,d2,d3,hQ1⟩,⟨b2,A2,n2,c2,D2,m2,e2,d4,d5,d6,hQ2⟩,hmn⟩:=hM;have d2:wb.cell? ⟨g',o'+j * 7+2,none⟩=some (.slice A1 n1 c1):=d2;have d3:wb.cell? ⟨g',o'+j * 7+3,none⟩=some (.slice D1 m1 e1):=d3;have d5:wb.cell? ⟨g',o'+j * 7+5,none⟩=some (.slice A2 n2 c2):=d5;have d6:wb.cell? ⟨g',o'+j * 7+6,none⟩=some (.slice D2 m2 e2):=d6;obtain ⟨X,hX⟩:∃ X,aG m.x.q=X:=⟨_,rfl⟩;obtain ⟨Y,hY⟩:∃ Y,aG m.y.q=Y:=⟨_,rfl⟩;have hsX:=aE X;have hsY:=aE Y;have HX:=Qh hX;have HY:=Qh hY;have HQ1:=Qh hQ1;have HQ2:=Qh hQ2;have hgb:g < wb.heap.size:=by have:=hb2.size;have:=qb.size;omega
     clear hX hY hQ1 hQ2 hmj;go_wp2_with fail;have xp:Blk (wb.alloc (.cells #[ae m.name,.bool b1,.slice A1 n1 c1,.slice D1 m1 e1,.bool b2,.slice A2 n2 c2,.slice D2 m2 e2] 56)) wb.heap.size 56 #[ae m.name,.bool b1,.slice A1 n1 c1,.slice D1 m1 e1,.bool b2,.slice A2 n2 c2,.slice D2 m2 e2]:=ak _ _ _ rfl;have qb:Below wb.heap.size wb (wb.alloc (.cells #[ae m.name,.bool b1,.slice A1 n1 c1,.slice D1 m1 e1,.bool b2,.slice A2 n2 c2,.slice D2 m2 e2] 56)):=(aa wb).alloc Qr _;have HTb:=Qh ((HTab.out.belw bwb).belw qb);have HQ1b:=Qh (HQ1.out.belw qb);have HQ2b:=Qh (HQ2.out.belw qb);have bwc:=bwb.trans (qb.mono bwb.size);have xL3:=xL2.below qb xL2.lt;have hb3:=ah hb2 qb;have hwb:wb.heap.size < (wb.alloc (.cells #[ae m.name,.bool b1,.slice A1 n1 c1,.slice D1 m1 e1,.bool b2,.slice A2 n2 c2,.slice D2 m2 e2] 56)).heap.size:=xp.lt;clear HQ1 HQ2 d0 d1 d2 d3 d4 d5 d6 cL2;generalize (wb.alloc (.cells #[ae m.name,.bool b1,.slice A1 n1 c1,.slice D1 m1 e1,.bool b2,.slice A2 n2 c2,.slice D2 m2 e2] 56))=wc at xp qb HTb HQ1b HQ2b bwc hwb xL3 hb3 ⊢;(with_reducible refine (jd _ b1 A1 n1 c1 D1 m1 e1 m.x 500 HQ1b.out (by decide) (by decide) HTb.out X HX.out).mono ?_);rintro e' w3 ⟨rfl,hw3⟩;have xp3:=xp.below hw3 xp.lt;have xL3:=xL3.b hw3;have bw3:=bwc.trans (hw3.mono bwc.size);have hb3:=ah hb3 hw3;by_cases hx6:60 < X.length
     ·have f6:((60:Int) < (X.length:Int))=True:=eq_true (by omega)
      have hm6:fD m=true:=by unfold fD;rw [HX.out,decide_eq_true hx6];rfl
      have hvt:v=true:=by rw [← HV.out];exact mb HBI.out HMJ.out hm6
      subst hvt;go_wp2;go_ret;exact ⟨rfl,bw3⟩
     have f6:((60:Int) < (X.length:Int))=False:=eq_false (by omega);have cp4:=xp3.cell 4;have cp5:=xp3.cell 5;have cp6:=xp3.cell 6;go_wp2_with fail;(with_reducible refine (jd _ b2 A2 n2 c2 D2 m2 e2 m.y 500 (HQ2b.out.belw hw3) (by decide) (by decide) (HTb.out.belw hw3) Y HY.out).mono ?_);rintro e' w4 ⟨rfl,hw4⟩;have xL4:=xL3.below hw4 xL3.lt;have bw4:=bw3.trans (hw4.mono bw3.size);have hb4:=ah hb3 hw4;clear cp4 cp5 cp6;by_cases hy6:60 < Y.length
     ·have g6:((60:Int) < (Y.length:Int))=True:=eq_true (by omega)
      have hm6:fD m=true:=by unfold fD;rw [HX.out,HY.out,decide_eq_true hy6,Bool.or_true]
      have hvt:v=true:=by rw [← HV.out];exact mb HBI.out HMJ.out hm6
      subst hvt;go_wp2;go_ret;exact ⟨rfl,bw4⟩
     have g6:((60:Int) < (Y.length:Int))=False:=eq_false (by omega);have hm6:fD m=false:=by unfold fD;rw [HX.out,HY.out,decide_eq_false hx6,decide_eq_false hy6];rfl
     have HJ2:=Qh (oM HMJ.out HJ.out hm6);clear hm6;go_wp2_with fail;go_roundw
     case rel=>exact ⟨j+1,by go_num,by omega,HJ2,hb4⟩
     case measure=>simp [intOf];omega
    have hj1:((j:Int) < (n':Int))=False:=by simp;omega
    have hjn:b.pts.take j=b.pts:=List.take_of_length_le (by rw [HM.out.1];exact hjg);rw [hjn] at HJ;have HI2:=Qh (qf HBI.out HI.out HJ.out);clear hjn;go_wp2_with fail;go_roundw
    case rel=>exact ⟨i+1,by go_num,by omega,HI2,xL2,bwb⟩
    case measure=>simp [intOf];omega
  have hi1:((i:Int) < (n:Int))=False:=by simp;omega
  have hin:l.take i=l:=List.take_of_length_le (by rw [HL.out];exact hge);rw [hin] at HI;have hvf:v=false:=by rw [← HV.out];exact HI.out
  subst hvf;clear hin;go_wp2;go_ret;exact ⟨rfl,hb⟩
end Go.Proofs.YtndhgcfajlalhaaGreatDoor
