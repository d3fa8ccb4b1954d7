/- Part GD2: lemmas and walks that the claim rests on. No claim is made here. -/
import Derived.Deep.RegionHeld3
import Derived.Deep.DrawnRows
import Derived.Laws.OwnMore
import Derived.Deep.AppendLies
import Derived.Deep.RegionHeld
import Derived.Lib.ItoaNum
import Derived.Lib.ItoaMem
import Derived.Lib.Repeat
import Derived.Lib.Join
import Derived.Lib.Atoi
import Derived.Lib.SlTrimSet
import Derived.Lib.AppendIntMem
import Derived.Shelf.Strings.SlTrimAscii
import Derived.WalkSpells
import Derived.Test.YtfilnhompchciaaGreatDoorGD1
set_option linter.unusedVariables false
set_option maxHeartbeats 8000000
set_option maxRecDepth 100000
/- Walks: the reference's integer of words, comparison of lists. -/
namespace Go.Proofs.YtfilnhompchciaaGreatDoor
open Go Go.RowKit Bn
attribute [local go_sem ↓] Go.wp_at_zero Go.wp_at_succ

theorem eR (w:World) (b:Bool) (A:Option Addr) (n c:Nat) (l:List Nat) (h:Wd w A n c l) (hn:n≤1099511627776) :
 Calls Tryz.prog 213 #[.bool b,.slice A n c] w (eC w (wh (sgn b (val l)))):=by
 rw [oi];go_in;go_wp2_with fail;(with_reducible refine (cN _ A n c l ?_ ?_).mono ?_);(exact h.keep ((Kp.refl _).alloc _));(omega);rintro e w1 ⟨A1,n1,c1,rfl,h1,hb⟩;have q:Below w.heap.size w w1:=((Below.refl _ _).alloc Qr _).trans (hb.mono (by simp));have x:Blk w1 w.heap.size 194 #[.bool false,.slice none 0 0]:=(ai w _ _ rfl).below hb (by simp);have c0:w1.cell? ⟨w.heap.size,0,none⟩=some (.bool false):=x.cell 0;have c1':w1.cell? ⟨w.heap.size,1,none⟩=some (.slice none 0 0):=x.cell 1;have f0:=x.f2;have HL:=Qh h1.2.1;clear hb h;by_cases h0:n1=0
 ·subst h0
  have HE:=Qh (List.eq_nil_of_length_eq_zero HL.out.symm);have H1:=Qh h1;clear h1;go_wp2;refine bodyPost_ret (v:=.agg #[.bool false,.slice none 0 0]) (by simp [results,Tryz.results213,go_sem, *] <;> trivial) rfl ?_;rw [HE.out];exact ⟨none,0,0,by simp,Wd.nil_ _,(q.setCell (p:=⟨w.heap.size,0,none⟩) Qr _).setCell (p:=⟨w.heap.size,1,none⟩) Qr _⟩
 have e0:((n1:Int) == 0)=false:=by simp;omega
 have hp:0 < n1:=by omega
 have H1:=Qh h1;clear h1 h0;go_wp2;refine bodyPost_ret (v:=.agg #[.bool b,.slice A1 n1 c1]) (by simp [results,Tryz.results213,go_sem, *] <;> trivial) rfl ?_;refine ⟨A1,n1,c1,?_,H1.out.keep (kp2 x.box (by decide) _ _ _ _),(q.setCell (p:=⟨w.heap.size,0,none⟩) Qr _).setCell (p:=⟨w.heap.size,1,none⟩) Qr _⟩;have:decide (0 < (aj (val l)).length)=true:=by rw [← HL.out];simp [hp]
 rw [this];simp
theorem cp (w:World) (A n c l) (wa:Wd w A n c l) (hn:n≤1099511627776) (A' n' c' l') (wb:Wd w A' n' c' l') (hn':n'≤1099511627776) :
 Calls Tryz.prog 244 #[.slice A n c,.slice A' n' c'] w (aw w (.int .i64 (aO (val l) (val l')))):=by
 have HL:=Qh wa.2.1;have HL':=Qh wb.2.1;obtain ⟨M,hM⟩:∃ M,M=max n n':=⟨_,rfl⟩;have HM:=Qh hM;have hM3:M≤1099511627776:=by omega
 clear hM;go_in;go_wp2
 all_goals
  go_loop [5] (fun v=>∃ k:Nat,k≤M∧v=.int .i64 ((k:Int) - 1)∧tI l l' k) (fun v=>(intOf v+1).toNat)
  case atStart=>exact ⟨M,Qr,by have:=HM.out;rw [show (M:Int) - 1=_ from rfl];congr 1;omega,fun j hj=>by rw [cM (by rw [← HL.out];have:=HM.out;omega),cM (by rw [← HL'.out];have:=HM.out;omega)]⟩
  case round =>
   obtain ⟨k,hk,rfl,hI⟩:=hrel;by_cases h0:k=0
   ·subst h0
    have HE:=Qh (show aO (val l) (val l')=0 by unfold aO;rw [iE (fun j=>hI j (Nat.zero_le _))];simp);clear hI;go_wp2;go_ret;exact df HE.out.symm (Below.refl _ _)
   obtain ⟨j,rfl⟩:∃ j,k=j+1:=⟨k - 1,by omega⟩;obtain ⟨x,y,hx,hy⟩:∃ x y,wd l j=x∧wd l' j=y:=⟨_,_,rfl,rfl⟩;have HX:=Qh hx;have HY:=Qh hy;have HI:=Qh hI;have ej:(((j+1:Nat):Int) - 1)=(j:Int):=by omega
   rw [ej];clear hx hy hI h0 ej;rcases Nat.lt_trichotomy x y with hxy | rfl | hxy
   ·have hne:((x:Int) != (y:Int))=true:=by rw [bne_iff_ne];omega
    have HE:=Qh (show aO (val l) (val l')=-1 by unfold aO;rw [if_pos (dM wa.1 (i:=j) (by rw [HX.out,HY.out];exact hxy) (fun i hi=>HI.out i (by omega)))])
    go_wp2_with (first
     | (go_at_call 256;(with_reducible refine (aV _ A n c l ?_ j x HX.out (by omega)).mono ?_);exact wa;rintro e w' ⟨rfl,rfl⟩)
     | (go_at_call 256;(with_reducible refine (aV _ A' n' c' l' ?_ j y HY.out (by omega)).mono ?_);exact wb;rintro e w' ⟨rfl,rfl⟩))
    go_ret;exact df HE.out.symm (Below.refl _ _)
   ·go_wp2_with (first
     | (go_at_call 256;(with_reducible refine (aV _ A n c l ?_ j x HX.out (by omega)).mono ?_);exact wa;rintro e w' ⟨rfl,rfl⟩)
     | (go_at_call 256;(with_reducible refine (aV _ A' n' c' l' ?_ j x HY.out (by omega)).mono ?_);exact wb;rintro e w' ⟨rfl,rfl⟩))
    go_round
    case rel=>exact ⟨j,by omega,by go_num,fun i hi=>by
     by_cases hij:i=j
     ·subst hij;rw [HX.out,HY.out]
     exact HI.out i (by omega)⟩
    case measure=>simp [intOf]
   have hne:((x:Int) != (y:Int))=true:=by rw [bne_iff_ne];omega
   have HE:=Qh (show aO (val l) (val l')=1 by
    have:=dM wb.1 (i:=j) (by rw [HX.out,HY.out];exact hxy) (fun i hi=>(HI.out i (by omega)).symm)
    unfold aO;rw [if_neg (by omega),if_neg (by omega)])
   go_wp2_with (first
    | (go_at_call 256;(with_reducible refine (aV _ A n c l ?_ j x HX.out (by omega)).mono ?_);exact wa;rintro e w' ⟨rfl,rfl⟩)
    | (go_at_call 256;(with_reducible refine (aV _ A' n' c' l' ?_ j y HY.out (by omega)).mono ?_);exact wb;rintro e w' ⟨rfl,rfl⟩))
   go_ret;exact df HE.out.symm (Below.refl _ _)

theorem lC {L:List Nat}{d i:Nat}(h:i < L.length):wd (L ++ [d]) i=wd L i:=by
 simp [wd,List.getD,List.getElem?_append_left h]
theorem qW {L:List Nat}{d:Nat}:wd (L ++ [d]) L.length=d:=by simp [wd,List.getD]
theorem jA {L:List Nat}{d k:Nat}(h:L.length=k):Sm (wd (L ++ [d])) (k+1)=Sm (wd L) k+d * 4294967296 ^ k:=by
 subst h;rw [Sm,qW,ck (fun i hi=>lC hi)]
theorem gr {L:List Nat}{d:Nat}(h:Wds L) (hd:d < 4294967296):Wds (L ++ [d]):=by
 intro x hx;rcases List.mem_append.1 hx with h1 | h1
 ·exact h x h1
 simp at h1;omega
theorem eF (L:List Nat) (d:Nat):words (L ++ [d])=words L ++ [.int .u32 (d:Nat)]:=by simp [words]
theorem cq {w:World}{base:Nat}{e:TypeId}{size:Nat}{v:Value}{n:Nat}{xs:List Value}(h:w.ownsRow base e size v n xs):∀ b,v.ownBlock=some b→base≤b:=by
 intro b hb;rcases h.2 with ⟨rfl,_⟩ | ⟨g,c,cur,rfl,h1,_⟩
 ·simp [Value.ownBlock] at hb
 simp [Value.ownBlock] at hb;omega
theorem o5 (w:World) (A n c l) (wa:Wd w A n c l) (hn:n≤1099511627776) (A' n' c' l') (wb:Wd w A' n' c' l') (hn':n'≤1099511627776) (hle:n≤n') :
 Calls Tryz.prog 247 #[.slice A n c,.slice A' n' c'] w (eK w (aj (val l+val l'))):=by
 have HL:=Qh wa.2.1;have HL':=Qh wb.2.1;obtain ⟨i0,hi0,hz0,hz1,hz2⟩:=info_parts cl;go_in;go_wp2_with fail;go_loopw [5,6,15] (fun ov cv iv wr=>∃ (k cr:Nat) (L:List Nat),k≤n'+1∧iv=.int .i64 (k:Nat)∧cv=.int .u64 (cr:Nat)∧cr≤1∧L.length=k∧rZ l l' L k cr∧wr.ownsRow w.heap.size 58 1 ov k (words L)∧Below w.heap.size w wr) (fun _ _ iv _=>n'+1 - (intOf iv).toNat)
 case atStart=>exact ⟨0,0,[],Nat.zero_le _,rfl,rfl,by omega,rfl,⟨by simp [Wds],by simp [Sm]⟩,⟨rfl,.inl ⟨rfl,rfl⟩⟩,ae _⟩
 case round =>
  obtain ⟨k,cr,L,hk,rfl,rfl,hcr,hLk,hI,hown,hbel⟩:=hrel;have hKp:=Qh ((Kp.refl w).below hbel);have HI:=Qh hI;have HLk:=Qh hLk;have HO:=Qh hown;clear hI hLk hown;by_cases hkM:k < n'+1
  ·obtain ⟨x,y,hx,hy⟩:∃ x y,wd l k=x∧wd l' k=y:=⟨_,_,rfl,rfl⟩
   have hx1:x < 4294967296:=by rw [← hx];exact wa.lt k
   have hy1:y < 4294967296:=by rw [← hy];exact wb.lt k
   have HX:=Qh hx;have HY:=Qh hy;have hsz:=hbel.size;have HD:=Qh (fy (x:=x) (y:=y) HI.out.2);clear hx hy
   go_wp2_with (first
    | (go_at_call 256;(with_reducible refine (aV _ A n c l ?_ k x HX.out (by omega)).mono ?_);exact wa.keep hKp.out;rintro e w' ⟨rfl,rfl⟩)
    | (go_at_call 256;(with_reducible refine (aV _ A' n' c' l' ?_ k y HY.out (by omega)).mono ?_);exact wb.keep hKp.out;rintro e w' ⟨rfl,rfl⟩)
    | (at_builtin;refine wpList_append_lies _ rfl _ _ _ rfl w.heap.size 58 i0 (.int .u32 0) 1 4 Tryz.underlying63 hi0 hz0 hz1 hz2 rfl (by omega) _ k (words L) rfl (HO.out.alloc _) ⟨wr.heap.size,0,none⟩ 1 1 [_] rfl rfl (World.news_of_block (heap_alloc_new wr _)) (by simp [Value.oneCell']) (by omega) (by unfold maxLen;omega) (by omega) (by simp;omega) (wr.heap.size+1) (by simp) ?_;intro gx cap w1 hown1 hgrow hat hlt1))
   go_roundw
   case rel =>
    refine ⟨k+1,(cr+x+y) / 4294967296,L ++ [(cr+x+y) % 4294967296],by omega,by go_num,by congr 1;omega,by omega,by simp [HLk.out],⟨gr HI.out.1 (Nat.mod_lt _ (by omega)),?_⟩,?_,(hbel.alloc hbel.size _).grown hgrow (by simp;omega) (cq HO.out)⟩
    ·rw [jA HLk.out,Sm,Sm,HX.out,HY.out,Nat.pow_succ]
     exact HD.out
    have e:(Value.int .u32 (((x:Int)+y+cr) % 4294967296))=.int .u32 (((cr+x+y) % 4294967296:Nat):Int):=by congr 1;omega
    rw [eF,← e];exact hown1
   case measure=>simp [intOf];omega
  have hkk:k=n'+1:=by omega
  have hv:val L=val l+val l':=by
   have h1:=HI.out.2;have h2:=bQ wa.1;have h3:=bQ wb.1;rw [aK L (by rw [HLk.out];exact Qr),aK l (by rw [← HL.out];omega),aK l' (by rw [← HL'.out];omega)] at h1;have h4:4294967296 ^ l.length≤4294967296 ^ (k - 1):=Nat.pow_le_pow_right (by omega) (by rw [← HL.out];omega);have h5:4294967296 ^ l'.length≤4294967296 ^ (k - 1):=Nat.pow_le_pow_right (by omega) (by rw [← HL'.out];omega);have h6:4294967296 ^ k=4294967296 ^ (k - 1) * 4294967296:=by rw [← Nat.pow_succ];congr 1;omega
   rcases (show cr=0∨cr=1 by omega) with rfl | rfl
   ·omega
   omega
  have HV:=Qh hv;obtain ⟨gx,cap,rfl,_,_⟩:=HO.out.form (by omega);clear hv hkk;go_wp2_with fail;(with_reducible refine (cN _ _ k cap L ?_ ?_).mono ?_);(exact Wd.of_own HO.out HI.out.1);(omega);rintro e w1 ⟨A1,n1,c1,rfl,h1,hb1⟩;go_wp2;go_ret;rw [HV.out] at h1;exact ⟨_,_,_,rfl,h1,hbel.trans (hb1.mono hbel.size)⟩
theorem o9 (w:World) (A n c l) (wa:Wd w A n c l) (hn:n≤1099511627776) (A' n' c' l') (wb:Wd w A' n' c' l') (hn':n'≤1099511627776) (hle:n' < n) :
 Calls Tryz.prog 247 #[.slice A n c,.slice A' n' c'] w (eK w (aj (val l+val l'))):=by
 have HL:=Qh wa.2.1;have HL':=Qh wb.2.1;obtain ⟨i0,hi0,hz0,hz1,hz2⟩:=info_parts cl;go_in;go_wp2_with fail;go_loopw [5,6,15] (fun ov cv iv wr=>∃ (k cr:Nat) (L:List Nat),k≤n+1∧iv=.int .i64 (k:Nat)∧cv=.int .u64 (cr:Nat)∧cr≤1∧L.length=k∧rZ l l' L k cr∧wr.ownsRow w.heap.size 58 1 ov k (words L)∧Below w.heap.size w wr) (fun _ _ iv _=>n+1 - (intOf iv).toNat)
 case atStart=>exact ⟨0,0,[],Nat.zero_le _,rfl,rfl,by omega,rfl,⟨by simp [Wds],by simp [Sm]⟩,⟨rfl,.inl ⟨rfl,rfl⟩⟩,ae _⟩
 case round =>
  obtain ⟨k,cr,L,hk,rfl,rfl,hcr,hLk,hI,hown,hbel⟩:=hrel;have hKp:=Qh ((Kp.refl w).below hbel);have HI:=Qh hI;have HLk:=Qh hLk;have HO:=Qh hown;clear hI hLk hown;by_cases hkM:k < n+1
  ·obtain ⟨x,y,hx,hy⟩:∃ x y,wd l k=x∧wd l' k=y:=⟨_,_,rfl,rfl⟩
   have hx1:x < 4294967296:=by rw [← hx];exact wa.lt k
   have hy1:y < 4294967296:=by rw [← hy];exact wb.lt k
   have HX:=Qh hx;have HY:=Qh hy;have hsz:=hbel.size;have HD:=Qh (fy (x:=x) (y:=y) HI.out.2);clear hx hy
   go_wp2_with (first
    | (go_at_call 256;(with_reducible refine (aV _ A n c l ?_ k x HX.out (by omega)).mono ?_);exact wa.keep hKp.out;rintro e w' ⟨rfl,rfl⟩)
    | (go_at_call 256;(with_reducible refine (aV _ A' n' c' l' ?_ k y HY.out (by omega)).mono ?_);exact wb.keep hKp.out;rintro e w' ⟨rfl,rfl⟩)
    | (at_builtin;refine wpList_append_lies _ rfl _ _ _ rfl w.heap.size 58 i0 (.int .u32 0) 1 4 Tryz.underlying63 hi0 hz0 hz1 hz2 rfl (by omega) _ k (words L) rfl (HO.out.alloc _) ⟨wr.heap.size,0,none⟩ 1 1 [_] rfl rfl (World.news_of_block (heap_alloc_new wr _)) (by simp [Value.oneCell']) (by omega) (by unfold maxLen;omega) (by omega) (by simp;omega) (wr.heap.size+1) (by simp) ?_;intro gx cap w1 hown1 hgrow hat hlt1))
   go_roundw
   case rel =>
    refine ⟨k+1,(cr+x+y) / 4294967296,L ++ [(cr+x+y) % 4294967296],by omega,by go_num,by congr 1;omega,by omega,by simp [HLk.out],⟨gr HI.out.1 (Nat.mod_lt _ (by omega)),?_⟩,?_,(hbel.alloc hbel.size _).grown hgrow (by simp;omega) (cq HO.out)⟩
    ·rw [jA HLk.out,Sm,Sm,HX.out,HY.out,Nat.pow_succ]
     exact HD.out
    have e:(Value.int .u32 (((x:Int)+y+cr) % 4294967296))=.int .u32 (((cr+x+y) % 4294967296:Nat):Int):=by congr 1;omega
    rw [eF,← e];exact hown1
   case measure=>simp [intOf];omega
  have hkk:k=n+1:=by omega
  have hv:val L=val l+val l':=by
   have h1:=HI.out.2;have h2:=bQ wa.1;have h3:=bQ wb.1;rw [aK L (by rw [HLk.out];exact Qr),aK l (by rw [← HL.out];omega),aK l' (by rw [← HL'.out];omega)] at h1;have h4:4294967296 ^ l.length≤4294967296 ^ (k - 1):=Nat.pow_le_pow_right (by omega) (by rw [← HL.out];omega);have h5:4294967296 ^ l'.length≤4294967296 ^ (k - 1):=Nat.pow_le_pow_right (by omega) (by rw [← HL'.out];omega);have h6:4294967296 ^ k=4294967296 ^ (k - 1) * 4294967296:=by rw [← Nat.pow_succ];congr 1;omega
   rcases (show cr=0∨cr=1 by omega) with rfl | rfl
   ·omega
   omega
  have HV:=Qh hv;obtain ⟨gx,cap,rfl,_,_⟩:=HO.out.form (by omega);clear hv hkk;go_wp2_with fail;(with_reducible refine (cN _ _ k cap L ?_ ?_).mono ?_);(exact Wd.of_own HO.out HI.out.1);(omega);rintro e w1 ⟨A1,n1,c1,rfl,h1,hb1⟩;go_wp2;go_ret;rw [HV.out] at h1;exact ⟨_,_,_,rfl,h1,hbel.trans (hb1.mono hbel.size)⟩
theorem gw (w:World) (A n c l) (wa:Wd w A n c l) (hn:n≤1099511627776) (A' n' c' l') (wb:Wd w A' n' c' l') (hn':n'≤1099511627776) :
 Calls Tryz.prog 247 #[.slice A n c,.slice A' n' c'] w (eK w (aj (val l+val l'))):=by
 rcases Nat.lt_or_ge n' n with h | h
 ·exact o9 w A n c l wa hn A' n' c' l' wb hn' h
 exact o5 w A n c l wa hn A' n' c' l' wb hn' h

theorem sW {w:World}{base k:Nat}{v:Value}{L:List Nat}(h:w.ownsRow base 58 1 v k (words L)) (hL:L.length=k) (hw:Wds L):∃ B cap,v=.slice B k cap∧Wd w B k cap L:=by
 rcases Nat.eq_zero_or_pos k with h0 | h0
 ·have:L=[]:=List.eq_nil_of_length_eq_zero (by rw [hL,h0])
  subst this h0;rcases h.2 with ⟨e,_⟩ | ⟨gx,cap,cur,e,_⟩
  ·exact ⟨none,0,e,Wd.nil_ _⟩
  exact ⟨_,cap,e,Wd.of_own (e ▸ h) (by simp [Wds])⟩
 obtain ⟨gx,cap,e,_,_⟩:=h.form h0;exact ⟨_,cap,e,Wd.of_own (e ▸ h) hw⟩
theorem iR (w:World) (A n c l) (wa:Wd w A n c l) (hn:n≤1099511627776) (A' n' c' l') (wb:Wd w A' n' c' l') (hn':n'≤n) (hv:val l'≤val l) :
 Calls Tryz.prog 255 #[.slice A n c,.slice A' n' c'] w (eK w (aj (val l - val l'))):=by
 have HL:=Qh wa.2.1;have HL':=Qh wb.2.1;have HV:=Qh hv;obtain ⟨i0,hi0,hz0,hz1,hz2⟩:=info_parts cl;clear hv;go_in;go_wp2_with fail;go_loopw [5,6,11] (fun ov cv iv wr=>∃ (k br:Nat) (L:List Nat),k≤n∧iv=.int .i64 (k:Nat)∧cv=.int .u64 (br:Nat)∧br≤1∧L.length=k∧sd l l' L k br∧wr.ownsRow w.heap.size 58 1 ov k (words L)∧Below w.heap.size w wr) (fun _ _ iv _=>n - (intOf iv).toNat)
 case atStart=>exact ⟨0,0,[],Nat.zero_le _,rfl,rfl,by omega,rfl,⟨by simp [Wds],by simp [Sm]⟩,⟨rfl,.inl ⟨rfl,rfl⟩⟩,ae _⟩
 case round =>
  obtain ⟨k,br,L,hk,rfl,rfl,hbr,hLk,hI,hown,hbel⟩:=hrel;have hKp:=Qh ((Kp.refl w).below hbel);have HI:=Qh hI;have HLk:=Qh hLk;have HO:=Qh hown;clear hI hLk hown;by_cases hkM:k < n
  ·obtain ⟨x,y,hx,hy⟩:∃ x y,wd l k=x∧wd l' k=y:=⟨_,_,rfl,rfl⟩
   have hx1:x < 4294967296:=by rw [← hx];exact wa.lt k
   have hy1:y < 4294967296:=by rw [← hy];exact wb.lt k
   have HX:=Qh hx;have HY:=Qh hy;have hsz:=hbel.size;clear hx hy
   go_wp2_with (first
    | (go_at_call 256;(with_reducible refine (aV _ A n c l ?_ k x HX.out (by omega)).mono ?_);exact wa.keep hKp.out;rintro e w' ⟨rfl,rfl⟩)
    | (go_at_call 256;(with_reducible refine (aV _ A' n' c' l' ?_ k y HY.out (by omega)).mono ?_);exact wb.keep hKp.out;rintro e w' ⟨rfl,rfl⟩)
    | (at_builtin;refine wpList_append_lies _ rfl _ _ _ rfl w.heap.size 58 i0 (.int .u32 0) 1 4 Tryz.underlying63 hi0 hz0 hz1 hz2 rfl (by omega) _ k (words L) rfl (HO.out.alloc _) ⟨wr.heap.size,0,none⟩ 1 1 [_] rfl rfl (World.news_of_block (heap_alloc_new wr _)) (by simp [Value.oneCell']) (by omega) (by unfold maxLen;omega) (by omega) (by simp;omega) (wr.heap.size+1) (by simp) ?_;intro gx cap w1 hown1 hgrow hat hlt1))
   go_roundw
   case rel =>
    refine ⟨k+1,1 - (4294967296+x - y - br) / 4294967296,L ++ [(4294967296+x - y - br) % 4294967296],by omega,by go_num,by congr 1;omega,by omega,by simp [HLk.out],⟨gr HI.out.1 (Nat.mod_lt _ (by omega)),?_⟩,?_,(hbel.alloc hbel.size _).grown hgrow (by simp;omega) (cq HO.out)⟩
    ·rw [jA HLk.out,Sm,Sm,HX.out,HY.out,Nat.pow_succ]
     exact iK HI.out.2 (by omega)
    have e:(Value.int .u32 ((4294967296+(x:Int) - y - br) % 4294967296))=.int .u32 (((4294967296+x - y - br) % 4294967296:Nat):Int):=by congr 1;omega
    rw [eF,← e];exact hown1
   case measure=>simp [intOf];omega
  have hkk:k=n:=by omega
  subst hkk
  have hv2:val L=val l - val l':=by
   have h1:=HI.out.2;have h2:=bQ HI.out.1;have h3:=HV.out;rw [HLk.out] at h2;rw [aK L (by rw [HLk.out];exact Qr),aK l (by rw [← HL.out];omega),aK l' (by rw [← HL'.out];omega)] at h1;rcases (show br=0∨br=1 by omega) with rfl | rfl
   ·omega
   omega
  have HV2:=Qh hv2;clear hv2;have hf:=sW HO.out HLk.out HI.out.1;obtain ⟨B,cap,rfl,hw⟩:=hf;have HW:=Qh hw;clear hw;go_wp2_with fail;(with_reducible refine (cN _ _ k cap L ?_ ?_).mono ?_);(exact HW.out);(omega);rintro e w1 ⟨A1,n1,c1,rfl,h1,hb1⟩;go_wp2;go_ret;rw [HV2.out] at h1;exact ⟨_,_,_,rfl,h1,hbel.trans (hb1.mono hbel.size)⟩
theorem bS (w:World) (b:Bool) (A:Option Addr) (n c:Nat) (l:List Nat) (z:Int) (h:Wd w A n c l) (hn:n≤1099511627776) (hz:sgn b (val l)=z) :
 Calls Tryz.prog 213 #[.bool b,.slice A n c] w (eC w (wh z)):=by subst hz;exact eR w b A n c l h hn
theorem fL (w:World) (A n c l) (wa:Wd w A n c l) (hn:n≤1099511627776) (A' n' c' l') (wb:Wd w A' n' c' l') (hn':n'≤1099511627776) (_:aF l) (_:aF l') :
 Calls Tryz.prog 244 #[.slice A n c,.slice A' n' c'] w (aw w (.int .i64 (aO (val l) (val l')))):=cp w A n c l wa hn A' n' c' l' wb hn'
theorem qX (w:World) (b:Bool) (A n c l) (wa:Wd w A n c l) (hn:n≤1099511627000) :
 Calls Tryz.prog 238 #[.agg #[.bool b,.slice A n c]] w (eC w (wh (-WD.z ⟨b,l⟩))):=by
 have HL:=Qh wa.2.1;go_in;go_wp2_with fail;have b0:Below w.heap.size w ((w.alloc (.cells #[.bool b,.slice A n c] 194)).alloc (.cells #[.bool false,.slice none 0 0] 194)):=(((Below.refl _ _).alloc Qr _).alloc (by simp) _);generalize hW0:((w.alloc (.cells #[.bool b,.slice A n c] 194)).alloc (.cells #[.bool false,.slice none 0 0] 194))=W0 at b0 ⊢;have c00:W0.cell? ⟨w.heap.size,0,none⟩=some (.bool b):=by subst hW0;simp [go_sem]
 have f00:W0.frozen? ⟨w.heap.size,0,none⟩=false:=by subst hW0;simp [go_sem]
 have c01:W0.cell? ⟨w.heap.size,1,none⟩=some (.slice A n c):=by subst hW0;simp [go_sem]
 have f01:W0.frozen? ⟨w.heap.size,1,none⟩=false:=by subst hW0;simp [go_sem]
 have c10:W0.cell? ⟨w.heap.size+1,0,none⟩=some (.bool false):=by subst hW0;simp [go_sem]
 have f10:W0.frozen? ⟨w.heap.size+1,0,none⟩=false:=by subst hW0;simp [go_sem]
 have c11:W0.cell? ⟨w.heap.size+1,1,none⟩=some (.slice none 0 0):=by subst hW0;simp [go_sem]
 have f11:W0.frozen? ⟨w.heap.size+1,1,none⟩=false:=by subst hW0;simp [go_sem]
 have x0:Box W0 w.heap.size 194:=by subst hW0;exact (bi _ _ _ (by simp)).alloc _
 have x1:Box W0 (w.heap.size+1) 194:=by subst hW0;exact bi _ _ _ (by simp)
 have hm0:fx (w.heap.size+1) (w.heap.size+1+1) 2 W0:=by subst hW0;exact iI (by simp)
 have hs0:w.heap.size+1+1≤W0.heap.size:=by subst hW0;simp
 clear hW0;have wa:=wa.belw b0;have r0:Below W0.heap.size W0 W0:=ae _;have hRB:w.heap.size+1≤w.heap.size+1+1:=by omega
 go_region_held3 (fun w'=>Sees (w.heap.size+1) W0 w') (first | exact Sees.of (Nat.le_trans hRB hs0) (by assumption) | exact Sees.of (Nat.le_trans hRB hs0) (aa (by assumption) _) | exact (Sees.set (Sees.of (Nat.le_trans hRB hs0) (by assumption)) (by simp)) | exact (Sees.set (Sees.set (Sees.of (Nat.le_trans hRB hs0) (by assumption)) (by simp)) (by simp)))
  (first
   | (go_at_call 222;(with_reducible refine (cg _ b A n c l ?_ ?_).mono ?_);(exact wa);(omega);rintro e w1 ⟨rfl,hb1⟩;replace hb1:=af (aa (ae _) 1) hb1;have r1:=af r0 hb1;replace wa:=wa.belw hb1)
   | (go_at_call 215;(with_reducible refine (bR _ b A n c l ?_ ?_).mono ?_);(exact wa);(omega);rintro e w2 ⟨A1,n1,c1,rfl,h1,hb2⟩;have r2:=af r1 hb2;replace wa:=wa.belw hb2)
   | (go_at_call 213;(with_reducible refine (bS _ (!WD.s ⟨b,l⟩) A1 n1 c1 (WD.m ⟨b,l⟩) (-WD.z ⟨b,l⟩) ?_ ?_ ?_).mono ?_);(exact h1);(exact Nat.le_trans (h1.m_len (by rw [← HL.out];exact hn)) (by decide));(exact (tK _).symm);rintro e w3 ⟨A2,n2,c2,rfl,h2,hb3⟩;have r3:=af r2 hb3;replace wa:=wa.belw hb3;replace h1:=h1.belw hb3;obtain ⟨⟨sc,sf⟩,sr,sz⟩:=bf.of (by omega) hs0 hm0 r3))
 clear hRB;go_wp2_with fail;refine bodyPost_ret (v:=.agg #[.bool _,.slice A2 n2 c2]) (by simp [results,Tryz.results238,go_sem,sr];rfl) rfl ?_;have x:=x1.below r3;refine fw ?_ ?_ ?_
 ·rfl
 ·exact h2.keep (kp2 x (by decide) _ _ _ _)
 exact ((b0.trans (r3.mono b0.size)).setCell (by dsimp only;omega) _).setCell (by dsimp only;omega) _
theorem qY (w:World) (b:Bool) (A n c l) (wa:Wd w A n c l) (hn:n≤1099511627000) (b':Bool) (A' n' c' l') (wb:Wd w A' n' c' l') (hn':n'≤1099511627000) :
 Calls Tryz.prog 242 #[.agg #[.bool b,.slice A n c],.agg #[.bool b',.slice A' n' c']] w (eC w (wh (WD.z ⟨b,l⟩+WD.z ⟨b',l'⟩))):=by
 have HL:=Qh wa.2.1;have HL':=Qh wb.2.1;go_in;go_wp2_with fail;have b0:Below w.heap.size w (((w.alloc (.cells #[.bool b,.slice A n c] 194)).alloc (.cells #[.bool b',.slice A' n' c'] 194)).alloc (.cells #[.bool false,.slice none 0 0] 194)):=((((Below.refl _ _).alloc Qr _).alloc (by simp) _).alloc (by simp;omega) _);generalize hW0:(((w.alloc (.cells #[.bool b,.slice A n c] 194)).alloc (.cells #[.bool b',.slice A' n' c'] 194)).alloc (.cells #[.bool false,.slice none 0 0] 194))=W0 at b0 ⊢;have c00:W0.cell? ⟨w.heap.size,0,none⟩=some (.bool b):=by subst hW0;simp [go_sem]
 have f00:W0.frozen? ⟨w.heap.size,0,none⟩=false:=by subst hW0;simp [go_sem]
 have c01:W0.cell? ⟨w.heap.size,1,none⟩=some (.slice A n c):=by subst hW0;simp [go_sem]
 have f01:W0.frozen? ⟨w.heap.size,1,none⟩=false:=by subst hW0;simp [go_sem]
 have c10:W0.cell? ⟨w.heap.size+1,0,none⟩=some (.bool b'):=by subst hW0;simp [go_sem]
 have f10:W0.frozen? ⟨w.heap.size+1,0,none⟩=false:=by subst hW0;simp [go_sem]
 have c11:W0.cell? ⟨w.heap.size+1,1,none⟩=some (.slice A' n' c'):=by subst hW0;simp [go_sem]
 have f11:W0.frozen? ⟨w.heap.size+1,1,none⟩=false:=by subst hW0;simp [go_sem]
 have c20:W0.cell? ⟨w.heap.size+1+1,0,none⟩=some (.bool false):=by subst hW0;simp [go_sem]
 have f20:W0.frozen? ⟨w.heap.size+1+1,0,none⟩=false:=by subst hW0;simp [go_sem]
 have c21:W0.cell? ⟨w.heap.size+1+1,1,none⟩=some (.slice none 0 0):=by subst hW0;simp [go_sem]
 have f21:W0.frozen? ⟨w.heap.size+1+1,1,none⟩=false:=by subst hW0;simp [go_sem]
 have x0:Box W0 w.heap.size 194:=by subst hW0;exact ((bi _ _ _ (by simp)).alloc _).alloc _
 have x1:Box W0 (w.heap.size+1) 194:=by subst hW0;exact (bi _ _ _ (by simp)).alloc _
 have x2:Box W0 (w.heap.size+1+1) 194:=by subst hW0;exact bi _ _ _ (by simp)
 have hm0:fx (w.heap.size+1+1) (w.heap.size+1+1+1) 2 W0:=by subst hW0;exact iI (by simp)
 have hs0:w.heap.size+1+1+1≤W0.heap.size:=by subst hW0;simp
 clear hW0;have wa:=wa.belw b0;have wb:=wb.belw b0;have r0:Below W0.heap.size W0 W0:=ae _
 go_region_held3 (fun w'=>bf (w.heap.size+1+1) (w.heap.size+1+1+1) 2 W0 w') (first | exact bf.of (by omega) hs0 hm0 (by assumption) | exact bf.of (by omega) hs0 hm0 (aa (by assumption) _))
  (first
   | (go_at_call 215;(with_reducible refine (bR _ b A n c l ?_ ?_).mono ?_);(exact wa);(omega);rintro e w1 ⟨A1,n1,c1,rfl,h1,hb1⟩;replace hb1:=af (aa (ae _) 1) hb1;have r1:=af r0 hb1;replace wa:=wa.belw hb1;replace wb:=wb.belw hb1)
   | (go_at_call 215;(with_reducible refine (bR _ b' A' n' c' l' ?_ ?_).mono ?_);(exact wb);(omega);rintro e w2 ⟨A2,n2,c2,rfl,h2,hb2⟩;have r2:=af r1 hb2;replace wa:=wa.belw hb2;replace wb:=wb.belw hb2;replace h1:=h1.belw hb2))
 obtain ⟨⟨sc,sf⟩,sr,sz⟩:=bf.of (by omega) hs0 hm0 r2;clear sc sf sr sz;go_wp2_with fail
 go_region_held3 (fun w'=>bf (w.heap.size+1+1) (w.heap.size+1+1+1) 2 W0 w') (first | exact bf.of (by omega) hs0 hm0 (by assumption) | exact bf.of (by omega) hs0 hm0 (aa (by assumption) _))
  (first
   | (go_at_call 222;(with_reducible refine (cg _ b A n c l ?_ ?_).mono ?_);(exact wa);(omega);rintro e w3 ⟨rfl,hb3⟩;replace hb3:=af (aa (ae _) 1) hb3;have r3:=af r2 hb3;replace wa:=wa.belw hb3;replace wb:=wb.belw hb3;replace h1:=h1.belw hb3;replace h2:=h2.belw hb3)
   | (go_at_call 222;(with_reducible refine (cg _ b' A' n' c' l' ?_ ?_).mono ?_);(exact wb);(omega);rintro e w4 ⟨rfl,hb4⟩;have r4:=af r3 hb4;replace wa:=wa.belw hb4;replace wb:=wb.belw hb4;replace h1:=h1.belw hb4;replace h2:=h2.belw hb4))
 obtain ⟨⟨sc,sf⟩,sr,sz⟩:=bf.of (by omega) hs0 hm0 r4;have hcm1:aF (WD.m ⟨b,l⟩):=WD.canon_m wa.1;have hcm2:aF (WD.m ⟨b',l'⟩):=WD.canon_m wb.1;have hn1:n1≤1099511627000:=h1.m_len (by rw [← HL.out];exact hn);have hn2:n2≤1099511627000:=h2.m_len (by rw [← HL'.out];exact hn');by_cases hs:WD.s ⟨b,l⟩=WD.s ⟨b',l'⟩
 ·have hs':(WD.s ⟨b,l⟩ == WD.s ⟨b',l'⟩)=true:=by simp [hs]
  have HZ:=Qh (sJ hs);clear hs;rw [hs'];clear hs'
  go_wp2_with (first
   | (go_at_call 222;(with_reducible refine (cg _ b A n c l ?_ ?_).mono ?_);(exact wa);(omega);rintro e w5 ⟨rfl,hb5⟩;have r5:=af r4 hb5;replace wa:=wa.belw hb5;replace wb:=wb.belw hb5;replace h1:=h1.belw hb5;replace h2:=h2.belw hb5;(try clear sc sf sr sz);obtain ⟨⟨sc,sf⟩,sr,sz⟩:=bf.of (by omega) hs0 hm0 r5)
   | (go_at_call 247;(with_reducible refine (gw _ A1 n1 c1 (WD.m ⟨b,l⟩) ?_ ?_ A2 n2 c2 (WD.m ⟨b',l'⟩) ?_ ?_).mono ?_);(exact h1);(omega);(exact h2);(omega);rintro e w6 ⟨A3,n3,c3,rfl,h3,hb6⟩;have r6:=af r5 hb6;replace wa:=wa.belw hb6;replace wb:=wb.belw hb6;replace h1:=h1.belw hb6;replace h2:=h2.belw hb6;(try clear sc sf sr sz);obtain ⟨⟨sc,sf⟩,sr,sz⟩:=bf.of (by omega) hs0 hm0 r6)
   | (go_at_call 213;(with_reducible refine (eR _ (WD.s ⟨b,l⟩) A3 n3 c3 (aj (val (WD.m ⟨b,l⟩)+val (WD.m ⟨b',l'⟩))) ?_ ?_).mono ?_);(exact h3);(rw [h3.2.1];exact oy h1 h2 hn1 hn2 (by decide));rintro e w7 ⟨A4,n4,c4,rfl,h4,hb7⟩;have r7:=af r6 hb7;replace wa:=wa.belw hb7;replace wb:=wb.belw hb7;replace h1:=h1.belw hb7;replace h2:=h2.belw hb7;replace h3:=h3.belw hb7;(try clear sc sf sr sz);obtain ⟨⟨sc,sf⟩,sr,sz⟩:=bf.of (by omega) hs0 hm0 r7))
  rw [ah,← HZ.out] at h4;refine bodyPost_ret (v:=.agg #[.bool _,.slice A4 n4 c4]) (by simp [results,Tryz.results242,go_sem,sr];rfl) rfl ?_;have x:=x2.below r7;refine fw ?_ ?_ ?_
  ·rw [HZ.out,ah]
  ·exact h4.keep (kp2 x (by decide) _ _ _ _)
  exact ((b0.trans (r7.mono b0.size)).setCell (by dsimp only;omega) _).setCell (by dsimp only;omega) _
 have hs':(WD.s ⟨b,l⟩ == WD.s ⟨b',l'⟩)=false:=by simp [hs]
 rw [hs'];clear hs';by_cases hv:val (WD.m ⟨b',l'⟩)≤val (WD.m ⟨b,l⟩)
 ·have hd:decide ((0:Int)≤aO (val (WD.m ⟨b,l⟩)) (val (WD.m ⟨b',l'⟩)))=true:=by simp [mb,hv]
  have HZ:=Qh (sK (a:=⟨b,l⟩) (b:=⟨b',l'⟩) hs hv);have HV:=Qh hv;clear hs hv;have hlen:n2≤n1:=ot h2 h1 hcm2 hcm1 (HV.out)
  go_wp2_with (first
   | (go_at_call 244;(with_reducible refine (fL _ A1 n1 c1 (WD.m ⟨b,l⟩) ?_ ?_ A2 n2 c2 (WD.m ⟨b',l'⟩) ?_ ?_ hcm1 hcm2).mono ?_);(exact h1);(omega);(exact h2);(omega);rintro e w5 ⟨rfl,hb5⟩;have r5:=af r4 hb5;replace wa:=wa.belw hb5;replace wb:=wb.belw hb5;replace h1:=h1.belw hb5;replace h2:=h2.belw hb5;(try clear sc sf sr sz);obtain ⟨⟨sc,sf⟩,sr,sz⟩:=bf.of (by omega) hs0 hm0 r5)
   | (go_at_call 222;(with_reducible refine (cg _ b A n c l ?_ ?_).mono ?_);(exact wa);(omega);rintro e w6 ⟨rfl,hb6⟩;have r6:=af r5 hb6;replace wa:=wa.belw hb6;replace wb:=wb.belw hb6;replace h1:=h1.belw hb6;replace h2:=h2.belw hb6;(try clear sc sf sr sz);obtain ⟨⟨sc,sf⟩,sr,sz⟩:=bf.of (by omega) hs0 hm0 r6)
   | (go_at_call 255;(with_reducible refine (iR _ A1 n1 c1 (WD.m ⟨b,l⟩) ?_ ?_ A2 n2 c2 (WD.m ⟨b',l'⟩) ?_ ?_ ?_).mono ?_);(exact h1);(omega);(exact h2);(exact hlen);(exact HV.out);rintro e w7 ⟨A3,n3,c3,rfl,h3,hb7⟩;have r7:=af r6 hb7;replace wa:=wa.belw hb7;replace wb:=wb.belw hb7;replace h1:=h1.belw hb7;replace h2:=h2.belw hb7;(try clear sc sf sr sz);obtain ⟨⟨sc,sf⟩,sr,sz⟩:=bf.of (by omega) hs0 hm0 r7)
   | (go_at_call 213;(with_reducible refine (eR _ (WD.s ⟨b,l⟩) A3 n3 c3 (aj (val (WD.m ⟨b,l⟩) - val (WD.m ⟨b',l'⟩))) ?_ ?_).mono ?_);(exact h3);(rw [h3.2.1];exact ox (Nat.lt_of_le_of_lt (Nat.sub_le _ _) (h1.vlt hn1)) (by decide));rintro e w8 ⟨A4,n4,c4,rfl,h4,hb8⟩;have r8:=af r7 hb8;replace wa:=wa.belw hb8;replace wb:=wb.belw hb8;replace h1:=h1.belw hb8;replace h2:=h2.belw hb8;replace h3:=h3.belw hb8;(try clear sc sf sr sz);obtain ⟨⟨sc,sf⟩,sr,sz⟩:=bf.of (by omega) hs0 hm0 r8))
  rw [ah,← HZ.out] at h4;refine bodyPost_ret (v:=.agg #[.bool _,.slice A4 n4 c4]) (by simp [results,Tryz.results242,go_sem,sr];rfl) rfl ?_;have x:=x2.below r8;refine fw ?_ ?_ ?_
  ·rw [HZ.out,ah]
  ·exact h4.keep (kp2 x (by decide) _ _ _ _)
  exact ((b0.trans (r8.mono b0.size)).setCell (by dsimp only;omega) _).setCell (by dsimp only;omega) _
 have hd:decide ((0:Int)≤aO (val (WD.m ⟨b,l⟩)) (val (WD.m ⟨b',l'⟩)))=false:=by simp [mb];omega
 have HZ:=Qh (sL (a:=⟨b,l⟩) (b:=⟨b',l'⟩) hs (by omega));have HV:=Qh hv;clear hs hv;have hlen:n1≤n2:=ot h1 h2 hcm1 hcm2 (Nat.le_of_not_le HV.out)
 go_wp2_with (first
  | (go_at_call 244;(with_reducible refine (fL _ A1 n1 c1 (WD.m ⟨b,l⟩) ?_ ?_ A2 n2 c2 (WD.m ⟨b',l'⟩) ?_ ?_ hcm1 hcm2).mono ?_);(exact h1);(omega);(exact h2);(omega);rintro e w5 ⟨rfl,hb5⟩;have r5:=af r4 hb5;replace wa:=wa.belw hb5;replace wb:=wb.belw hb5;replace h1:=h1.belw hb5;replace h2:=h2.belw hb5;(try clear sc sf sr sz);obtain ⟨⟨sc,sf⟩,sr,sz⟩:=bf.of (by omega) hs0 hm0 r5)
  | (go_at_call 222;(with_reducible refine (cg _ b' A' n' c' l' ?_ ?_).mono ?_);(exact wb);(omega);rintro e w6 ⟨rfl,hb6⟩;have r6:=af r5 hb6;replace wa:=wa.belw hb6;replace wb:=wb.belw hb6;replace h1:=h1.belw hb6;replace h2:=h2.belw hb6;(try clear sc sf sr sz);obtain ⟨⟨sc,sf⟩,sr,sz⟩:=bf.of (by omega) hs0 hm0 r6)
  | (go_at_call 255;(with_reducible refine (iR _ A2 n2 c2 (WD.m ⟨b',l'⟩) ?_ ?_ A1 n1 c1 (WD.m ⟨b,l⟩) ?_ ?_ ?_).mono ?_);(exact h2);(omega);(exact h1);(exact hlen);(exact Nat.le_of_not_le HV.out);rintro e w7 ⟨A3,n3,c3,rfl,h3,hb7⟩;have r7:=af r6 hb7;replace wa:=wa.belw hb7;replace wb:=wb.belw hb7;replace h1:=h1.belw hb7;replace h2:=h2.belw hb7;(try clear sc sf sr sz);obtain ⟨⟨sc,sf⟩,sr,sz⟩:=bf.of (by omega) hs0 hm0 r7)
  | (go_at_call 213;(with_reducible refine (eR _ (WD.s ⟨b',l'⟩) A3 n3 c3 (aj (val (WD.m ⟨b',l'⟩) - val (WD.m ⟨b,l⟩))) ?_ ?_).mono ?_);(exact h3);(rw [h3.2.1];exact ox (Nat.lt_of_le_of_lt (Nat.sub_le _ _) (h2.vlt hn2)) (by decide));rintro e w8 ⟨A4,n4,c4,rfl,h4,hb8⟩;have r8:=af r7 hb8;replace wa:=wa.belw hb8;replace wb:=wb.belw hb8;replace h1:=h1.belw hb8;replace h2:=h2.belw hb8;replace h3:=h3.belw hb8;(try clear sc sf sr sz);obtain ⟨⟨sc,sf⟩,sr,sz⟩:=bf.of (by omega) hs0 hm0 r8))
 rw [ah,← HZ.out] at h4;refine bodyPost_ret (v:=.agg #[.bool _,.slice A4 n4 c4]) (by simp [results,Tryz.results242,go_sem,sr];rfl) rfl ?_;have x:=x2.below r8;refine fw ?_ ?_ ?_
 ·rw [HZ.out,ah]
 ·exact h4.keep (kp2 x (by decide) _ _ _ _)
 exact ((b0.trans (r8.mono b0.size)).setCell (by dsimp only;omega) _).setCell (by dsimp only;omega) _
theorem sX (w:World) (i:Int) (h0:-9223372036854775808≤i) (h1:i < 9223372036854775808) :
 Calls Tryz.prog 216 #[.int .i64 i] w (eC w (wh i)):=by
 obtain ⟨v,hv⟩:∃ v:Nat,v=i.natAbs:=⟨_,rfl⟩;have hv2:v < 18446744073709551616:=by omega
 have hval:val [v % 4294967296,v / 4294967296]=v:=by simp [val];omega
 have HV:=Qh hval;by_cases hneg:i < 0
 ·have e1:IntKind.u64.wrap i=i+18446744073709551616:=by unfold IntKind.wrap;simp [IntKind.bits,IntKind.signed];omega
  have e2:IntKind.u64.wrap (-(i+18446744073709551616))=(v:Int):=by unfold IntKind.wrap;simp [IntKind.bits,IntKind.signed];omega
  have e3:decide (i < 0)=true:=by simp;omega
  have e4:IntKind.u32.wrap (v:Int)=((v % 4294967296:Nat):Int):=by unfold IntKind.wrap;simp [IntKind.bits,IntKind.signed]
  have e5:IntKind.u32.wrap ((v:Int) / 4294967296)=((v / 4294967296:Nat):Int):=by unfold IntKind.wrap;simp [IntKind.bits,IntKind.signed];omega
  have HZ:=Qh (show sgn true v=i by simp [sgn];omega);have HV2:=Qh hv2;clear hv hval hv2 hneg h0 h1;go_in;go_wp2_with (go_at_call 213;(with_reducible refine (bS _ true (some ⟨w.heap.size+1,0,none⟩) 2 2 [v % 4294967296,v / 4294967296] i ?_ ?_ ?_).mono ?_);(exact eO (w.alloc _) _ (by simp) _ _ v (by simp) (by simp) HV2.out);(omega);(rw [HV.out];exact HZ.out);rintro e w1 ⟨A1,n1,c1,rfl,h1,hb⟩;obtain ⟨hc,hf⟩:=bq hb);have hc0:w1.cell? ⟨w.heap.size,0,none⟩=some (.bool false):=(hc w.heap.size 0 (by simp;omega)).trans (by simp [go_sem]);have hc1:w1.cell? ⟨w.heap.size,1,none⟩=some (.slice none 0 0):=(hc w.heap.size 1 (by simp;omega)).trans (by simp [go_sem]);refine bodyPost_ret (v:=.agg #[.bool _,.slice A1 n1 c1]) (by simp [results,Tryz.results216,go_sem,hc0,hc1];rfl) rfl ?_;have x:=((bi w #[.bool false,.slice none 0 0] 194 rfl).alloc _).below hb;refine fw ?_ ?_ ?_
  ·rfl
  ·exact h1.keep (kp2 x (by decide) _ _ _ _)
  exact ((((((Below.refl _ _).alloc Qr _).alloc (by simp) _).trans (hb.mono (by simp;omega)))).setCell (by dsimp only;omega) _).setCell (by dsimp only;omega) _
 have e1:IntKind.u64.wrap i=(v:Int):=by unfold IntKind.wrap;simp [IntKind.bits,IntKind.signed];omega
 have e3:decide (i < 0)=false:=by simp;omega
 have e4:IntKind.u32.wrap (v:Int)=((v % 4294967296:Nat):Int):=by unfold IntKind.wrap;simp [IntKind.bits,IntKind.signed]
 have e5:IntKind.u32.wrap ((v:Int) / 4294967296)=((v / 4294967296:Nat):Int):=by unfold IntKind.wrap;simp [IntKind.bits,IntKind.signed];omega
 have HZ:=Qh (show sgn false v=i by simp [sgn];omega);have HV2:=Qh hv2;clear hv hval hv2 hneg h0 h1;go_in;go_wp2_with (go_at_call 213;(with_reducible refine (bS _ false (some ⟨w.heap.size+1,0,none⟩) 2 2 [v % 4294967296,v / 4294967296] i ?_ ?_ ?_).mono ?_);(exact eO (w.alloc _) _ (by simp) _ _ v (by simp) (by simp) HV2.out);(omega);(rw [HV.out];exact HZ.out);rintro e w1 ⟨A1,n1,c1,rfl,h1,hb⟩;obtain ⟨hc,hf⟩:=bq hb);have hc0:w1.cell? ⟨w.heap.size,0,none⟩=some (.bool false):=(hc w.heap.size 0 (by simp;omega)).trans (by simp [go_sem]);have hc1:w1.cell? ⟨w.heap.size,1,none⟩=some (.slice none 0 0):=(hc w.heap.size 1 (by simp;omega)).trans (by simp [go_sem]);refine bodyPost_ret (v:=.agg #[.bool _,.slice A1 n1 c1]) (by simp [results,Tryz.results216,go_sem,hc0,hc1];rfl) rfl ?_;have x:=((bi w #[.bool false,.slice none 0 0] 194 rfl).alloc _).below hb;refine fw ?_ ?_ ?_
 ·rfl
 ·exact h1.keep (kp2 x (by decide) _ _ _ _)
 exact ((((((Below.refl _ _).alloc Qr _).alloc (by simp) _).trans (hb.mono (by simp;omega)))).setCell (by dsimp only;omega) _).setCell (by dsimp only;omega) _
theorem ko (w:World) (b:Bool) (A n c l) (wa:Wd w A n c l) (hn:n≤1099511627000) :
 Calls Tryz.prog 211 #[.agg #[.bool b,.slice A n c]] w (aw w (.int .i64 (WD.z ⟨b,l⟩).sign)):=by
 have hz:=WD.z_eq ⟨b,l⟩;have hcan:aF (WD.m ⟨b,l⟩):=WD.canon_m wa.1;by_cases hm:WD.m ⟨b,l⟩=[]
 ·have HE:=Qh (show (WD.z ⟨b,l⟩).sign=0 by rw [hz,hm];cases WD.s ⟨b,l⟩ <;> rfl)
  have HM:=Qh hm;clear hz hm hcan;go_in;go_wp2_with fail;(with_reducible refine (bR _ b A n c l ?_ ?_).mono ?_);(exact wa.keep ((Kp.refl _).alloc _));(omega);rintro e w1 ⟨A1,n1,c1,rfl,h1,hb⟩;have hn1:n1=0:=by rw [h1.2.1,HM.out];rfl
  subst hn1;go_wp2;go_ret;exact df HE.out.symm (((Below.refl _ _).alloc Qr _).trans (hb.mono (by simp)))
 obtain ⟨s,hs⟩:∃ s,WD.s ⟨b,l⟩=s:=⟨_,rfl⟩;have hv:val (WD.m ⟨b,l⟩)≠0:=fun e=>hm ((bO hcan).1 e)
 have HE:=Qh (show (WD.z ⟨b,l⟩).sign=if s then -1 else 1 by
  rw [hz,hs];cases s
  ·simp only [sgn];exact Int.sign_eq_one_of_pos (by simp;omega)
  simp only [sgn];exact Int.sign_eq_neg_one_of_neg (by simp;omega))
 have HM:=Qh hm;have HS:=Qh hs;clear hz hm hcan hs hv;go_in;go_wp2_with fail;(with_reducible refine (bR _ b A n c l ?_ ?_).mono ?_);(exact wa.keep ((Kp.refl _).alloc _));(omega);rintro e w1 ⟨A1,n1,c1,rfl,h1,hb⟩;have hn1:n1≠0:=fun e=>HM.out (List.eq_nil_of_length_eq_zero (by rw [← h1.2.1,e]))
 have e0:((n1:Int) == 0)=false:=by simp;omega
 have q:Below w.heap.size w w1:=((Below.refl _ _).alloc Qr _).trans (hb.mono (by simp));have x:Blk w1 w.heap.size 194 #[.bool b,.slice A n c]:=(ai w _ _ rfl).below hb (by simp);have cx0:=x.c2;clear hb hn1;go_wp2_with fail;(with_reducible refine (cg _ b A n c l ?_ ?_).mono ?_);(exact wa.belw q);(omega);rintro e w2 ⟨rfl,hb2⟩;rw [HS.out];cases s
 all_goals
  go_wp2;go_ret;exact df HE.out.symm (q.trans (hb2.mono q.size))
theorem pd (x y:Int):(x+-y).sign=co x y:=by
 unfold co;rcases Int.lt_trichotomy x y with h | h | h
 ·rw [if_pos h];exact Int.sign_eq_neg_one_of_neg (by omega)
 ·subst h;simp [show x+-x=0 by omega]
 rw [if_neg (by omega),if_neg (by omega)];exact Int.sign_eq_one_of_pos (by omega)
section
variable (w:World) (b A n c z k) (h:IZ w b A n c z k) (b' A' n' c' z' k') (h':IZ w b' A' n' c' z' k')
include h
theorem fW (hk:k≤1000000000):Calls Tryz.prog 238 #[.agg #[.bool b,.slice A n c]] w (eP w (-z) k):=by
 have hz:=h.lt;obtain ⟨l,h1,rfl,h3⟩:=h;exact (qX w b A n c l h1 (by omega)).mono fun _ _ r=>r.i (by omega)
theorem gy (hk:k≤1000000000):Calls Tryz.prog 211 #[.agg #[.bool b,.slice A n c]] w (aw w (.int .i64 z.sign)):=by
 obtain ⟨l,h1,rfl,h3⟩:=h;exact ko w b A n c l h1 (by omega)
include h'
theorem mh (hk:k+k'≤1000000000):Calls Tryz.prog 242 #[.agg #[.bool b,.slice A n c],.agg #[.bool b',.slice A' n' c']] w (eP w (z+z') (k+k'+1)):=by
 have hz:=h.mono (Nat.le_add_right k k') |>.lt
 have hz':=h'.mono (Nat.le_add_left k' k) |>.lt
 obtain ⟨l,h1,rfl,h3⟩:=h;obtain ⟨l',h1',rfl,h3'⟩:=h';exact (qY w b A n c l h1 (by omega) b' A' n' c' l' h1' (by omega)).mono fun _ _ r=>r.i (ee hz hz')
end
theorem sY (w:World) (i:Int) (k:Nat) (h0:-9223372036854775808≤i) (h1:i < 9223372036854775808) (hs:i.natAbs < 4294967296 ^ k):Calls Tryz.prog 216 #[.int .i64 i] w (eP w i k) :=
 (sX w i h0 h1).mono fun _ _ r=>r.i hs
theorem qZ (w:World) (i:Int) (h0:-4294967296 < i) (h1:i < 4294967296):Calls Tryz.prog 216 #[.int .i64 i] w (eP w i 1):=sY w i 1 (by omega) (by omega) (by omega)
theorem ra (w:World) (b A n c z k) (h:IZ w b A n c z k) (b' A' n' c' z' k') (h':IZ w b' A' n' c' z' k') (hk:k+k'≤1000000000) :
 Calls Tryz.prog 212 #[.agg #[.bool b,.slice A n c],.agg #[.bool b',.slice A' n' c']] w (eP w (z+-z') (k+k'+1)):=by
 go_in;go_wp2_with fail;have p1:=((((Kp.refl w).alloc (.cells #[.bool b,.slice A n c] 194)).alloc (.cells #[.bool b',.slice A' n' c'] 194)).alloc (.cells #[.bool false,.slice none 0 0] 194));have bw1:=((((ae w).alloc (by first | omega | (simp <;> omega)) (.cells #[.bool b,.slice A n c] 194)).alloc (by first | omega | (simp <;> omega)) (.cells #[.bool b',.slice A' n' c'] 194)).alloc (by first | omega | (simp <;> omega)) (.cells #[.bool false,.slice none 0 0] 194));have x1a:Blk (((w.alloc (.cells #[.bool b,.slice A n c] 194)).alloc (.cells #[.bool b',.slice A' n' c'] 194)).alloc (.cells #[.bool false,.slice none 0 0] 194)) w.heap.size 194 #[.bool b,.slice A n c]:=(((ai _ _ _ (by simp)).alloc (.cells #[.bool b',.slice A' n' c'] 194)).alloc (.cells #[.bool false,.slice none 0 0] 194));have x1b:Blk (((w.alloc (.cells #[.bool b,.slice A n c] 194)).alloc (.cells #[.bool b',.slice A' n' c'] 194)).alloc (.cells #[.bool false,.slice none 0 0] 194)) (w.heap.size+1) 194 #[.bool b',.slice A' n' c']:=((ai _ _ _ (by simp)).alloc (.cells #[.bool false,.slice none 0 0] 194));have x1c:Blk (((w.alloc (.cells #[.bool b,.slice A n c] 194)).alloc (.cells #[.bool b',.slice A' n' c'] 194)).alloc (.cells #[.bool false,.slice none 0 0] 194)) (w.heap.size+1+1) 194 #[.bool false,.slice none 0 0]:=(ai _ _ _ (by simp));have lw1:w.heap.size+3≤(((w.alloc (.cells #[.bool b,.slice A n c] 194)).alloc (.cells #[.bool b',.slice A' n' c'] 194)).alloc (.cells #[.bool false,.slice none 0 0] 194)).heap.size:=by simp
 generalize hE1:(((w.alloc (.cells #[.bool b,.slice A n c] 194)).alloc (.cells #[.bool b',.slice A' n' c'] 194)).alloc (.cells #[.bool false,.slice none 0 0] 194))=w1 at p1 bw1 lw1 x1a x1b x1c ⊢;clear hE1;replace h:=h.keep p1;replace h':=h'.keep p1;have cx1a:=x1a.c2;have lx1a:=dj x1a.lt;have cx1b:=x1b.c2;have lx1b:=dY x1b.lt;obtain ⟨cx1ca,cx1cb⟩:=x1c.c2;obtain ⟨fx1ca,fx1cb⟩:=x1c.f2;have lx1c:=om x1c.lt;have nfx1_0_0:¬ w.heap.size=w.heap.size+1+1:=by omega
 have nex1_0_0:¬ w.heap.size=w.heap.size+2:=by omega
 have nfx1_1_0:¬ w.heap.size+1=w.heap.size+1+1:=by omega
 have nex1_1_0:¬ w.heap.size=w.heap.size+1:=by omega
 go_region_held3 (fun w'=>SeesX w1.heap.size (w.heap.size+1+1) w1 w') (first | with_reducible exact SeesX.of Qr (by assumption) | with_reducible exact SeesX.of Qr (ae _).drew | with_reducible exact (SeesX.set (SeesX.set (SeesX.of Qr (by assumption)))) | with_reducible exact (SeesX.set (SeesX.of Qr (by assumption))) | exact SeesX.of Qr (aa (ae _) 1) | exact SeesX.of Qr (aa (by assumption) _))
  (first
   | (go_at_call 238;(with_reducible refine (fW _ b' A' n' c' (z') (k') ?_ ?_).mono ?_);(exact h');(omega);rintro e w2 ⟨b2,A2,n2,c2,rfl,h2,hb2⟩;replace hb2:=af (aa (ae _) 1) hb2;have q2:Below w1.heap.size w1 w2:=af (ae w1) hb2;replace h:=h.belw hb2;replace h':=h'.belw hb2)
   | (go_at_call 242;(with_reducible refine (mh _ b A n c (z) (k) ?_ b2 A2 n2 c2 (-(z')) ((k')) ?_ ?_).mono ?_);(exact h);(exact h2.iz);(omega);rintro e w3 ⟨b3,A3,n3,c3,rfl,h3,hb3⟩;have q3:Below w1.heap.size w1 w3:=af q2 hb3;replace h:=h.belw hb3;replace h':=h'.belw hb3;replace h2:=h2.belw hb3;have x1c:=x1c.b q3;obtain ⟨cx1ca,cx1cb⟩:=x1c.c2;obtain ⟨fx1ca,fx1cb⟩:=x1c.f2))
 have bw3:=bw1.trans (q3.mono bw1.size);clear cx1a lx1a cx1b lx1b cx1ca fx1ca cx1cb fx1cb lx1c;replace x1a:=x1a.b q3;replace x1b:=x1b.b q3;have lw3:=q3.size;obtain ⟨cx1ca,cx1cb⟩:=x1c.c2;obtain ⟨fx1ca,fx1cb⟩:=x1c.f2;go_wp2_with fail;refine bodyPost_ret (v:=.agg #[.bool b3,.slice A3 n3 c3]) (by simp [results,Tryz.results212,go_sem, *] <;> trivial) rfl ?_;exact ⟨b3,A3,n3,c3,rfl,h3.keep (((Kp.refl w3).sb (w.heap.size+1+1) 0 x1c.box (by decide) (.bool b3)).sb (w.heap.size+1+1) 1 (x1c.box.set ⟨w.heap.size+1+1,0,none⟩ (.bool b3)) (by decide) (.slice A3 n3 c3)),((bw3.sc (w.heap.size+1+1) 0 (by omega) (.bool b3)).sc (w.heap.size+1+1) 1 (by omega) (.slice A3 n3 c3))⟩
theorem rb (w:World) (b A n c z k) (h:IZ w b A n c z k) (b' A' n' c' z' k') (h':IZ w b' A' n' c' z' k') (hk:k+k'≤999999999) :
 Calls Tryz.prog 171 #[.agg #[.bool b,.slice A n c],.agg #[.bool b',.slice A' n' c']] w (aw w (.int .i64 (co z z'))):=by
 go_in;go_wp2_with fail;(with_reducible refine (ra _ b A n c (z) (k) ?_ b' A' n' c' (z') (k') ?_ ?_).mono ?_);(exact (h.belw (((Below.refl _ _).alloc Qr _).alloc (by simp) _)));(exact (h'.belw (((Below.refl _ _).alloc Qr _).alloc (by simp) _)));(omega);rintro e w1 ⟨b1,A1,n1,c1,rfl,h1,hb1⟩;have q1:=hb1.q2;replace h:=h.belw q1;replace h':=h'.belw q1;have x1a:Blk w1 w.heap.size 194 #[.bool b,.slice A n c]:=((ai _ _ _ (by simp)).alloc _).below hb1 (by simp <;> omega);have x1b:=(ai _ _ _ (g:=w.heap.size+1) (by simp)).below hb1 (by simp);have bw1:=(ae w).trans (q1.mono (ae w).size);have lw1:=hb1.l2;clear q1;go_wp2_with fail;(with_reducible refine (gy _ b1 A1 n1 c1 ((z)+-(z')) ((k)+(k')+1) ?_ ?_).mono ?_);(exact h1.iz);(omega);rintro e w2 ⟨rfl,q2⟩;replace h:=h.belw q2;replace h':=h'.belw q2;replace h1:=h1.belw q2;replace x1a:=x1a.b q2;replace x1b:=x1b.b q2;have bw2:=bw1.trans (q2.mono bw1.size);have lw2:=q2.size;clear q2 bw1;go_wp2;go_ret;exact df (pd _ _) bw2

def OwS (w:World) (B g n cap:Nat) (l:List Nat):Prop:=w.ownsRow B 58 1 (.slice (some ⟨g,0,none⟩) n cap) n (words l)∧Wds l
theorem OwS.len {w:World}{B g n cap:Nat}{l:List Nat}(h:OwS w B g n cap l):n=l.length:=by have:=h.1.1;rw [bH] at this;omega
theorem OwS.base {w:World}{B g n cap:Nat}{l:List Nat}(h:OwS w B g n cap l):B≤g:=cq h.1 g rfl
theorem OwS.toWd {w:World}{B g n cap:Nat}{l:List Nat}(h:OwS w B g n cap l):Wd w (some ⟨g,0,none⟩) n cap l:=Wd.of_own h.1 h.2
theorem OwS.cell {w:World}{B g n cap:Nat}{l:List Nat}(h:OwS w B g n cap l) (i:Nat) (hi:i < n):w.cell? ⟨g,i,none⟩=some (.int .u32 (wd l i:Nat)):=by
 rw [h.1.cellAt i (by omega)];exact fv (by rw [← h.len];exact hi)
theorem OwS.frozen {w:World}{B g n cap:Nat}{l:List Nat}(h:OwS w B g n cap l) (i:Nat):w.frozen? ⟨g,i,none⟩=false:=h.1.frozenAt i
theorem OwS.lt {w:World}{B g n cap:Nat}{l:List Nat}(h:OwS w B g n cap l):g < w.heap.size:=by
 rcases h.1.2 with ⟨e,_⟩ | ⟨g',c',cur,e,_,hg,_⟩
 ·cases e
 injection e with e;injection e with e;injection e with e;subst e;exact lt_of_block hg
theorem OwS.cap {w:World}{B g n cap:Nat}{l:List Nat}(h:OwS w B g n cap l):n≤cap:=h.toWd.2.2.1
theorem OwS.cut {w:World}{B g n cap:Nat}{l:List Nat}(h:OwS w B g n cap l) {k:Nat}(hk:k≤n):OwS w B g k cap (l.take k):=by
 have hl:=h.len;refine ⟨⟨by rw [bH,List.length_take];omega,?_⟩,Wds.take h.2 k⟩;rcases h.1.2 with ⟨e,_⟩ | ⟨g',c',cur,e,hb,hg,hc,hm,hs,ht⟩
 ·cases e
 injection e with e1 _ e2;injection e1 with e1;injection e1 with e1;subst e1 e2;refine .inr ⟨g,cap,cur,rfl,hb,hg,by omega,hm,hs,?_⟩;have:words (l.take k)=(words l).take k:=by simp [words,List.map_take]
 rw [this,← ht,List.take_take];congr 1;omega
theorem mW (l:List Nat) (i x:Nat):(words l).set i (.int .u32 (x:Nat))=words (l.set i x):=by simp [words,List.map_set]
theorem OwS.set {w:World}{B g n cap:Nat}{l:List Nat}(h:OwS w B g n cap l) (i:Nat) {x:Nat}(hx:x < 4294967296) {z:Int}(hz:z=x):OwS (w.setCell ⟨g,i,none⟩ (.int .u32 z)) B g n cap (l.set i x):=by
 subst hz;refine ⟨?_,wds_set h.2 i hx⟩;rw [← mW];exact (h.1.stored i _).1
def cS (g:Nat) (w w':World):Prop:=Below g w w'∧w'.heap.size=w.heap.size∧∀ b,b≠g→w'.heap[b]?=w.heap[b]?
theorem cS.refl (g:Nat) (w:World):cS g w w:=⟨Below.refl _ _,rfl,fun _ _=>rfl⟩
theorem cS.set {g:Nat}{w w':World}(h:cS g w w') (i:Nat) (u:Value):cS g w (w'.setCell ⟨g,i,none⟩ u) :=
 ⟨h.1.setCell (p:=⟨g,i,none⟩) Qr u,by rw [← h.2.1];simp [World.setCell],fun b hb=>(Below.heap_setCell w' ⟨g,i,none⟩ u b hb).trans (h.2.2 b hb)⟩
theorem cS.trans {g:Nat}{a b c:World}(h:cS g a b) (k:cS g b c):cS g a c:=⟨h.1.trans k.1,k.2.1.trans h.2.1,fun x hx=>(k.2.2 x hx).trans (h.2.2 x hx)⟩
theorem cS.own {g:Nat}{w w':World}(h:cS g w w') {B g' n cap:Nat}{l:List Nat}(k:OwS w B g' n cap l) (hg:g'≠g):OwS w' B g' n cap l:=by
 refine ⟨⟨k.1.1,?_⟩,k.2⟩;rcases k.1.2 with ⟨e,_⟩ | ⟨g1,c',cur,e,hb,hgg,r⟩
 ·cases e
 have e':=e;injection e with e1 _ e2;injection e1 with e1;injection e1 with e1;subst e1;exact .inr ⟨g',c',cur,e',hb,(h.2.2 _ hg).trans hgg,r⟩
theorem cS.wd {g:Nat}{w w':World}(h:cS g w w') {g' o n c:Nat}{l:List Nat}(k:Wd w (some ⟨g',o,none⟩) n c l) (hg:g'≠g):Wd w' (some ⟨g',o,none⟩) n c l:=by
 refine ⟨k.1,k.2.1,k.2.2.1,fun hn=>?_⟩;obtain ⟨g1,o1,cur,fr,e,hb,hc⟩:=k.2.2.2 hn;have e':=e;injection e with e1;injection e1 with e1;subst e1;exact ⟨_,o1,cur,fr,e',hb.same (h.2.2 _ hg),hc⟩
def uG (w:World) (l:List Nat) (e:Ending) (w':World):Prop:=∃ g k cap,e=.returned (.slice (some ⟨g,0,none⟩) k cap)∧OwS w' w.heap.size g k cap l∧Below w.heap.size w w'
theorem eS (w:World) (A:Option Addr) (n c:Nat) (l:List Nat) (h:Wd w A n c l) (hn:n≤4398046511104) :
 Calls Tryz.prog 221 #[.slice A n c] w (uG w (aj (val l))):=by
 have HL:=Qh h.2.1;have hcap:n≤c:=h.2.2.1;obtain ⟨i0,hi0,hz0,hz1,hz2⟩:=info_parts cl;by_cases h0:n=0
 ·subst h0
  have HE:=Qh (show aj (val l)=[] by rw [List.eq_nil_of_length_eq_zero HL.out.symm];exact am);clear h hn;go_in;go_wp2_with (at_builtin;refine cF rfl _ _ _ rfl 58 i0 Tryz.underlying63 hi0 _ _ _ rfl rfl ?_);go_loop [3] (fun v=>v=.slice (some ⟨w.heap.size,0,none⟩) 0 0) (fun _=>0)
  case atStart=>rfl
  case round =>
   subst hrel;go_wp2;go_ret;refine ⟨_,_,_,rfl,?_,(Below.refl _ _).alloc Qr _⟩;rw [HE.out];exact ⟨World.ownsRow_lit (e:=58) (size:=1) w #[] 0 Qr (by simp [maxLen]) rfl,by simp [Wds]⟩
 obtain ⟨g,o,rfl,hc⟩:=h.at_ (by omega);clear hc;have hp:0 < n:=by omega
 have hown:=World.ownsRow_lit (e:=58) (size:=1) w #[] 0 Qr (by simp [maxLen]) rfl;have hnews:=(h.keep ((Kp.refl w).alloc (.cells #[] 58))).news (by omega) Qr;have hnl:(words (l.take n)).length=n * 1:=by rw [bH,List.length_take,← HL.out];omega
 have HO:=Qh hown;have HN:=Qh hnews;have HNL:=Qh hnl;have HW:=Qh h.1;clear hown hnews hnl h h0;go_in;go_wp2_with (at_builtin;refine wpList_append_lies _ rfl _ _ _ rfl w.heap.size 58 i0 (.int .u32 0) 1 4 Tryz.underlying63 hi0 hz0 hz1 hz2 rfl (by omega) _ 0 [] rfl HO.out ⟨g,o,none⟩ n c (words (l.take n)) rfl HNL.out HN.out (dh _) (by omega) (by unfold maxLen;omega) (by omega) (by simp) (w.heap.size+1) (by simp) ?_;intro gx cap w1 hown1 hgrow hat hlt1);simp only [Nat.zero_add,List.nil_append] at hown1;have hw1:=Wd.of_own hown1 (Wds.take HW.out n);rw [List.take_of_length_le (Nat.le_of_eq HL.out.symm)] at hw1;have hbel:=((Below.refl w.heap.size w).alloc Qr (.cells #[] 58)).grown hgrow (by simp) (fun b hb=>Nat.le_of_eq (Option.some.inj hb));have HW1:=Qh hw1;rw [List.take_of_length_le (Nat.le_of_eq HL.out.symm)] at hown1;have HOW:=Qh (show OwS w1 w.heap.size gx n cap l from ⟨hown1,HW.out⟩);have HB:=Qh hbel;have hcap1:n≤cap:=hw1.2.2.1;clear hown1 hgrow hat hw1 hbel HO HN HNL;go_loop [3] (fun v=>∃ k:Nat,k≤n∧v=.slice (some ⟨gx,0,none⟩) k cap∧ma l k) (fun v=>match v with | .slice _ k _=>k | _=>0)
 case atStart=>exact ⟨n,Qr,by simp,fun i hi=>cM (by rw [← HL.out];exact hi)⟩
 case round =>
  obtain ⟨k,hk,rfl,ht⟩:=hrel;by_cases h0:k=0
  ·subst h0
   have HT:=Qh ht;clear ht;go_wp2;go_ret;refine ⟨_,_,_,rfl,?_,HB.out⟩;have:=aY HW.out (Nat.zero_le _) HT.out (.inl rfl);rw [this];exact HOW.out.cut (Nat.zero_le _)
  have hkp:0 < k:=by omega
  obtain ⟨g',o',e,hc⟩:=HW1.out.at_ (by omega);injection e with e;injection e with e1 e2;subst e1 e2;have hck:=hc (k - 1) (by omega);rw [Nat.zero_add] at hck;have hlt:=HW1.out.lt (k - 1);have HT:=Qh ht;generalize hx:wd l (k - 1)=x at *;have HX:=Qh hx;clear hc h0 ht hx;by_cases hz:x=0
  ·subst hz
   go_wp2;go_round
   case rel=>exact ⟨k - 1,by omega,rfl,fun i hi=>by
    by_cases he:i=k - 1
    ·subst he;exact HX.out
    exact HT.out i (by omega)⟩
   case measure=>dsimp only;omega
  have hz':((x:Int) == 0)=false:=by simp;omega
  have HZ:=Qh hz;clear hz;go_wp2;go_ret;have hd:=aY HW.out (by rw [← HL.out];exact hk) HT.out (.inr (by rw [HX.out];exact HZ.out));refine ⟨_,_,_,rfl,?_,HB.out⟩;rw [hd];exact HOW.out.cut hk
def uH (w:World) (B g cap:Nat) (l:List Nat) (e:Ending) (w':World):Prop:=∃ k,e=.returned (.slice (some ⟨g,0,none⟩) k cap)∧OwS w' B g k cap l∧w=w'
theorem eT (w:World) (B g n cap:Nat) (l:List Nat) (h:OwS w B g n cap l) (hn:n≤4398046511104) :
 Calls Tryz.prog 246 #[.slice (some ⟨g,0,none⟩) n cap] w (uH w B g cap (aj (val l))):=by
 have hcap:=h.cap;have HL:=Qh h.len;have HO:=Qh h;clear h;go_in;go_wp2_with fail;go_loop [0] (fun v=>∃ k:Nat,k≤n∧v=.slice (some ⟨g,0,none⟩) k cap∧ma l k) (fun v=>match v with | .slice _ k _=>k | _=>0)
 case atStart=>exact ⟨n,Qr,rfl,fun i hi=>cM (by rw [← HL.out];exact hi)⟩
 case round =>
  obtain ⟨k,hk,rfl,ht⟩:=hrel;by_cases h0:k=0
  ·subst h0
   have HT:=Qh ht;clear ht;go_wp2;go_ret;refine ⟨_,rfl,?_,rfl⟩;have:=aY HO.out.2 (Nat.zero_le _) HT.out (.inl rfl);rw [this];exact HO.out.cut (Nat.zero_le _)
  have hkp:0 < k:=by omega
  have hck:=HO.out.cell (k - 1) (by omega);have hlt:=aU HO.out.2 (k - 1);have HT:=Qh ht;generalize hx:wd l (k - 1)=x at *;have HX:=Qh hx;clear h0 ht hx;by_cases hz:x=0
  ·subst hz
   go_wp2;go_round
   case rel=>exact ⟨k - 1,by omega,rfl,fun i hi=>by
    by_cases he:i=k - 1
    ·subst he;exact HX.out
    exact HT.out i (by omega)⟩
   case measure=>dsimp only;omega
  have hz':((x:Int) == 0)=false:=by simp;omega
  have HZ:=Qh hz;clear hz;go_wp2;go_ret;have hd:=aY HO.out.2 (by rw [← HL.out];exact hk) HT.out (.inr (by rw [HX.out];exact HZ.out));refine ⟨_,rfl,?_,rfl⟩;rw [hd];exact HO.out.cut hk

theorem pe {x y:Nat}(hx:x < 4294967296):(x / 2 ||| y * 2147483648) % 4294967296=x / 2+(y % 2) * 2147483648:=by
 have h1:x / 2 < 2 ^ 31:=by omega
 have h2:y * 2147483648 ||| x / 2=y * 2147483648+x / 2:=by
  have:=Nat.shiftLeft_add_eq_or_of_lt h1 y;rw [Nat.shiftLeft_eq] at this;exact this.symm
 rw [Nat.or_comm,h2];omega
def da (l L:List Nat) (j:Nat):Prop:=Wds L∧L.length=l.length∧(∀ i,j≤i→wd L i=wd l i)∧2 * Sm (wd L) j+wd l 0 % 2=Sm (wd l) j+wd l j % 2 * 4294967296 ^ j
theorem da.start {l:List Nat}(h:Wds l):da l l 0:=⟨h,rfl,fun _ _=>rfl,by simp [Sm]⟩
theorem da.step {l L:List Nat}{j:Nat}(h:da l L j) (hj:j < l.length) (hl:Wds l):da l (L.set j (wd l j / 2+(wd l (j+1) % 2) * 2147483648)) (j+1):=by
 obtain ⟨h1,h2,h3,h4⟩:=h;have hx:=aU hl j;refine ⟨wds_set h1 j (by omega),by rw [List.length_set];exact h2,fun i hi=>?_,?_⟩
 ·rw [ba,if_neg (by omega)];exact h3 i (by omega)
 rw [bE _ _ _ (by omega),Sm];generalize wd l j=x at *;generalize wd l (j+1)=y at *;generalize wd l 0=z at *;rw [Nat.pow_succ]
 have e:2 * ((x / 2+y % 2 * 2147483648) * 4294967296 ^ j)+x % 2 * 4294967296 ^ j=x * 4294967296 ^ j+y % 2 * (4294967296 ^ j * 4294967296):=by
  have hx2:x=2 * (x / 2)+x % 2:=by omega
  generalize x / 2=p at *;generalize x % 2=r at *;subst hx2;generalize 4294967296 ^ j=P
  grind
 omega
theorem da.fin {l L:List Nat}(h:da l L l.length):val L=val l / 2:=by
 obtain ⟨h1,h2,h3,h4⟩:=h;rw [aK L (by omega),aK l Qr,cM Qr] at h4;omega
theorem mX {x y:Nat}(hx:x < 4294967296) (hy:y < 4294967296) {s:Int}(hs:bits .or .u64 ((x:Int) / 2) ((y:Int) * 2147483648)=s):IntKind.u32.wrap s=((x / 2+y % 2 * 2147483648:Nat):Int):=by
 have e1:(x:Int) / 2=((x / 2:Nat):Int):=by omega
 have e2:(y:Int) * 2147483648=((y * 2147483648:Nat):Int):=by simp
 rw [e1,e2,u64_or_nat _ _ (by omega) (by omega)] at hs;subst hs;rw [IntKind.wrap_u32];have:=pe (y:=y) hx;omega
def uI (w:World) (B g cap:Nat) (l:List Nat) (e:Ending) (w':World):Prop:=∃ k,e=.returned (.slice (some ⟨g,0,none⟩) k cap)∧OwS w' B g k cap l∧cS g w w'
theorem cJ (w:World) (B g n cap:Nat) (l:List Nat) (h:OwS w B g n cap l) (hn:n≤1099511627776) :
 Calls Tryz.prog 243 #[.slice (some ⟨g,0,none⟩) n cap] w (uI w B g cap (aj (val l / 2))):=by
 have hcap:=h.cap;have hlen:=h.len;have HL:=Qh h.len;have HW:=Qh h.2;have HS:=Qh (da.start h.2);have HO:=Qh h;clear h hlen;go_in;go_wp2_with fail;go_loopw [6] (fun iv wr=>∃ (j:Nat) (L:List Nat),j≤n∧iv=.int .i64 (j:Nat)∧da l L j∧OwS wr B g n cap L∧cS g w wr) (fun iv _=>n - (intOf iv).toNat)
 case atStart=>exact ⟨0,l,Nat.zero_le _,rfl,HS.out,HO.out,cS.refl _ _⟩
 case round =>
  obtain ⟨j,L,hj,rfl,hI,hw,hon⟩:=hrel;have HI:=Qh hI;have HWr:=Qh hw;have HOn:=Qh hon;clear hI hw hon;by_cases hlt:j < n
  ·obtain ⟨x,y,hx,hy⟩:∃ x y,wd l j=x∧wd l (j+1)=y:=⟨_,_,rfl,rfl⟩
   have hx1:x < 4294967296:=by rw [← hx];exact aU HW.out j
   have hy1:y < 4294967296:=by rw [← hy];exact aU HW.out (j+1)
   have HX:=Qh (show wd L j=x by rw [HI.out.2.2.1 j Qr,hx]);have HY:=Qh (show wd L (j+1)=y by rw [HI.out.2.2.1 (j+1) (by omega),hy]);have HXY:=Qh (And.intro hx hy);have hck:=HWr.out.cell j hlt;have hfk:=HWr.out.frozen j;obtain ⟨s,hs⟩:∃ s,bits .or .u64 ((x:Int) / 2) ((y:Int) * 2147483648)=s:=⟨_,rfl⟩;have e32:=mX hx1 hy1 hs;have HE:=Qh e32;have ej:((j:Int)+1)=((j+1:Nat):Int):=by omega
   have HEJ:=Qh ej;clear hx hy ej
   go_wp2_with (first
    | (go_at_call 256;(with_reducible refine (aV _ (some ⟨g,0,none⟩) n cap L ?_ j x HX.out (by omega)).mono ?_);exact HWr.out.toWd;rintro e w' ⟨rfl,rfl⟩)
    | (go_at_call 256;rw [HEJ.out];(with_reducible refine (aV _ (some ⟨g,0,none⟩) n cap L ?_ (j+1) y HY.out (by omega)).mono ?_);exact HWr.out.toWd;rintro e w' ⟨rfl,rfl⟩))
   go_roundw
   case rel =>
    have hst:=HI.out.step (by rw [← HL.out];exact hlt) HW.out;rw [HXY.out.1,HXY.out.2] at hst;exact ⟨j+1,_,by omega,by go_num,hst,HWr.out.set j (by omega) (by omega),HOn.out.set j _⟩
   case measure=>simp [intOf];omega
  have hjn:j=n:=by omega
  subst hjn;have HV:=Qh (show val L=val l / 2 from da.fin (by have:=HI.out;rw [HL.out] at this;exact this));go_wp2_with fail;(with_reducible refine (eT _ B g j cap L ?_ ?_).mono ?_);(exact HWr.out);(omega);rintro e w1 ⟨k,rfl,h1,rfl⟩;go_wp2;go_ret;rw [HV.out] at h1;exact ⟨k,rfl,h1,HOn.out⟩

theorem cS.wd_ {g:Nat}{w w':World}(h:cS g w w') {A:Option Addr}{n c:Nat}{l:List Nat}(k:Wd w A n c l) (hne:∀ ad,A=some ad→ad.block≠g):Wd w' A n c l:=by
 refine ⟨k.1,k.2.1,k.2.2.1,fun hn=>?_⟩;obtain ⟨g1,o1,cur,fr,e,hb,hc⟩:=k.2.2.2 hn;exact ⟨g1,o1,cur,fr,e,hb.same (h.2.2 _ (hne _ e)),hc⟩
def tY (w:World) (B g n cap:Nat) (v:Nat) (e:Ending) (w':World):Prop:=∃ L,e=.returned (.tuple #[])∧OwS w' B g n cap L∧val L=v∧cS g w w'
def tZ (l l' L:List Nat) (k br:Nat):Prop:=sd l l' L k br∧L.length=l.length∧∀ i,k≤i→wd L i=wd l i
theorem dG (w:World) (B g n cap:Nat) (l:List Nat) (h:OwS w B g n cap l) (hn:n≤1099511627776) (A' n' c' l') (wb:Wd w A' n' c' l') (hne:∀ ad,A'=some ad→ad.block≠g) (hn':n'≤n) (hv:val l'≤val l) :
 Calls Tryz.prog 245 #[.slice (some ⟨g,0,none⟩) n cap,.slice A' n' c'] w (tY w B g n cap (val l - val l')):=by
 have hcap:=h.cap;have HL:=Qh h.len;have HL':=Qh wb.2.1;have HW:=Qh h.2;have HV:=Qh hv;have HO:=Qh h;have HWB:=Qh wb;have HNE:=Qh hne;clear h hv wb hne;go_in;go_wp2_with fail;go_loopw [4,9] (fun cv iv wr=>∃ (k br:Nat) (L:List Nat),k≤n∧iv=.int .i64 (k:Nat)∧cv=.int .u64 (br:Nat)∧br≤1∧tZ l l' L k br∧OwS wr B g n cap L∧cS g w wr) (fun _ iv _=>n - (intOf iv).toNat)
 case atStart=>exact ⟨0,0,l,Nat.zero_le _,rfl,rfl,by omega,⟨⟨HW.out,by simp [Sm]⟩,rfl,fun _ _=>rfl⟩,HO.out,cS.refl _ _⟩
 case round =>
  obtain ⟨k,br,L,hk,rfl,rfl,hbr,hI,hw,hon⟩:=hrel;have HI:=Qh hI;have HWr:=Qh hw;have HOn:=Qh hon;clear hI hw hon;by_cases hkM:k < n
  ·obtain ⟨x,y,hx,hy⟩:∃ x y,wd l k=x∧wd l' k=y:=⟨_,_,rfl,rfl⟩
   have hx1:x < 4294967296:=by rw [← hx];exact aU HW.out k
   have hy1:y < 4294967296:=by rw [← hy];exact HWB.out.lt k
   have HX:=Qh (show wd L k=x by rw [HI.out.2.2 k Qr,hx]);have HY:=Qh hy;have HXl:=Qh hx;have hck:=HWr.out.cell k hkM;have hfk:=HWr.out.frozen k;clear hx hy
   go_wp2_with (first
    | (go_at_call 256;(with_reducible refine (aV _ (some ⟨g,0,none⟩) n cap L ?_ k x HX.out (by omega)).mono ?_);exact HWr.out.toWd;rintro e w' ⟨rfl,rfl⟩)
    | (go_at_call 256;(with_reducible refine (aV _ A' n' c' l' ?_ k y HY.out (by omega)).mono ?_);exact HOn.out.wd_ HWB.out HNE.out;rintro e w' ⟨rfl,rfl⟩))
   go_roundw
   case rel =>
    refine ⟨k+1,1 - (4294967296+x - y - br) / 4294967296,L.set k ((4294967296+x - y - br) % 4294967296),by omega,by go_num,by congr 1;omega,by omega,⟨⟨wds_set HI.out.1.1 _ (Nat.mod_lt _ (by omega)),?_⟩,by rw [List.length_set];exact HI.out.2.1,fun i hi=>?_⟩,HWr.out.set k (Nat.mod_lt _ (by omega)) (by omega),HOn.out.set k _⟩
    ·rw [bE _ _ _ (by rw [HI.out.2.1,← HL.out];exact hkM),Sm,Sm,HXl.out,HY.out,Nat.pow_succ]
     exact iK HI.out.1.2 (by omega)
    rw [ba,if_neg (by omega)];exact HI.out.2.2 i (by omega)
   case measure=>simp [intOf];omega
  have hkk:k=n:=by omega
  subst hkk
  have hv2:val L=val l - val l':=by
   have h1:=HI.out.1.2;have h2:=bQ HI.out.1.1;have h3:=HV.out;have h4:=HI.out.2.1;have h5:=HL.out;rw [h4,← h5] at h2;rw [aK L (by omega),aK l (by omega),aK l' (by rw [← HL'.out];omega)] at h1;rcases (show br=0∨br=1 by omega) with rfl | rfl
   ·omega
   omega
  have HV2:=Qh hv2;clear hv2;go_wp2_with fail;go_end0;exact ⟨L,rfl,HWr.out,HV2.out,HOn.out⟩

def Two (w wr:World) (N:Nat) (va vb:Value) (x y:Nat):Prop:=∃ ga na ca gb nb cb,va=.slice (some ⟨ga,0,none⟩) na ca∧vb=.slice (some ⟨gb,0,none⟩) nb cb∧OwS wr w.heap.size ga na ca (aj x)∧OwS wr w.heap.size gb nb cb (aj y)∧ga≠gb∧Below w.heap.size w wr∧x < 4294967296 ^ N∧y < 4294967296 ^ N
theorem cV {w:World}{B g n cap x N:Nat}(h:OwS w B g n cap (aj x)) (hx:x < 4294967296 ^ N):n≤N:=by rw [h.len];exact az hx
theorem bT {w:World}{B g n cap x:Nat}(h:OwS w B g n cap (aj x)) (hx:0 < x):0 < n:=by
 rw [h.len];rcases Nat.eq_zero_or_pos (aj x).length with h1 | h1
 ·have:=aG.1 (List.eq_nil_of_length_eq_zero h1);omega
 exact h1
theorem pf (x:Nat):wd (aj x) 0=x % 4294967296:=by
 by_cases h:x=0
 ·subst h;rw [am];rfl
 rw [dd h];rfl
theorem dk {w:World}{B g n cap x:Nat}(h:OwS w B g n cap (aj x)) (hx:0 < x):w.cell? ⟨g,0,none⟩=some (.int .u32 ((x % 4294967296:Nat):Int)):=by
 rw [← pf];exact h.cell 0 (bT h hx)
theorem jB (p:Nat) (hp:p < 4294967296):Go.bits .and .u32 (p:Int) 1=((p % 2:Nat):Int):=by
 have:=u32_and_nat p 1 hp (by decide);rw [Nat.and_one_is_mod] at this;exact this
theorem cO {p:Nat}(hp:p < 4294967296) (h:p % 2=0):(Go.bits .and .u32 (p:Int) 1 == 0)=true:=by rw [jB p hp,h];rfl
theorem dR {p:Nat}(hp:p < 4294967296) (h:p % 2=1):(Go.bits .and .u32 (p:Int) 1 == 0)=false:=by rw [jB p hp,h];rfl
theorem OwS.of_digs {w:World}{B g n cap v x:Nat}(h:OwS w B g n cap (aj (val (aj v) / x))):OwS w B g n cap (aj (v / x)):=by rw [ah] at h;exact h
theorem Two.left {w wr w1:World}{N ga na ca gb nb cb x y u k:Nat}(hT:Two w wr N (.slice (some ⟨ga,0,none⟩) na ca) (.slice (some ⟨gb,0,none⟩) nb cb) x y) (ho:OwS w1 w.heap.size ga k ca (aj u)) (hon:cS ga wr w1) (hu:u≤x):Two w w1 N (.slice (some ⟨ga,0,none⟩) k ca) (.slice (some ⟨gb,0,none⟩) nb cb) u y:=by
 obtain ⟨ga',na',ca',gb',nb',cb',e1,e2,oa,ob,hg,hbl,hxN,hyN⟩:=hT;injection e1 with e1 e3 e4;injection e1 with e1;injection e1 with e1;injection e2 with e2 e5 e6;injection e2 with e2;injection e2 with e2;subst e1 e2 e3 e4 e5 e6;exact ⟨ga,k,ca,gb,nb,cb,rfl,rfl,ho,hon.own ob (Ne.symm hg),hg,hbl.trans (hon.1.mono oa.base),Nat.lt_of_le_of_lt hu hxN,hyN⟩
theorem Two.swap {w wr:World}{N:Nat}{va vb:Value}{x y:Nat}(hT:Two w wr N va vb x y):Two w wr N vb va y x:=by
 obtain ⟨ga,na,ca,gb,nb,cb,e1,e2,oa,ob,hg,hbl,hxN,hyN⟩:=hT;exact ⟨gb,nb,cb,ga,na,ca,e2,e1,ob,oa,Ne.symm hg,hbl,hyN,hxN⟩
theorem aI {w:World}{B g n cap x:Nat}(h:OwS w B g n cap (aj x)):valOf w (.slice (some ⟨g,0,none⟩) n cap)=x:=by rw [h.toWd.valOf,ah]
theorem Two.at_ {w wr:World}{N ga na ca gb nb cb x y:Nat}(hT:Two w wr N (.slice (some ⟨ga,0,none⟩) na ca) (.slice (some ⟨gb,0,none⟩) nb cb) x y):OwS wr w.heap.size ga na ca (aj x)∧OwS wr w.heap.size gb nb cb (aj y)∧ga≠gb∧Below w.heap.size w wr∧x < 4294967296 ^ N∧y < 4294967296 ^ N:=by
 obtain ⟨ga',na',ca',gb',nb',cb',e1,e2,h⟩:=hT;injection e1 with e1 e3 e4;injection e1 with e1;injection e1 with e1;injection e2 with e2 e5 e6;injection e2 with e2;injection e2 with e2;subst e1 e2 e3 e4 e5 e6;exact h
theorem OwS.belw {w w':World}{B g n cap:Nat}{l:List Nat}(h:OwS w B g n cap l) (hb:Below w.heap.size w w'):OwS w' B g n cap l:=by
 refine ⟨⟨h.1.1,?_⟩,h.2⟩;rcases h.1.2 with ⟨e,_⟩ | ⟨g',cap',cur,e,hb1,hgg,r⟩
 ·cases e
 exact .inr ⟨g',cap',cur,e,hb1,(hb.block g' (lt_of_block hgg)).trans hgg,r⟩
theorem Two.belw {w wr w1:World}{N:Nat}{va vb:Value}{x y:Nat}(hT:Two w wr N va vb x y) (hb:Below wr.heap.size wr w1):Two w w1 N va vb x y:=by
 obtain ⟨ga,na,ca,gb,nb,cb,e1,e2,oa,ob,hg,hbl,hxN,hyN⟩:=hT;exact ⟨ga,na,ca,gb,nb,cb,e1,e2,oa.belw hb,ob.belw hb,hg,hbl.trans (hb.mono hbl.size),hxN,hyN⟩
theorem ci {a b:Nat}(h:a≤b):(aj a).length≤(aj b).length:=az (Nat.lt_of_le_of_lt h (by have:=bQ (dF b);rwa [ah] at this))
theorem Two.form {w wr:World}{N:Nat}{va vb:Value}{x y:Nat}(hT:Two w wr N va vb x y):∃ ga na ca gb nb cb,va=.slice (some ⟨ga,0,none⟩) na ca∧vb=.slice (some ⟨gb,0,none⟩) nb cb:=by
 obtain ⟨ga,na,ca,gb,nb,cb,e1,e2,_⟩:=hT;exact ⟨ga,na,ca,gb,nb,cb,e1,e2⟩
theorem mY {t x x0 N:Nat}(h:x0=2 ^ t * x) (hx:0 < x) (hN:x0 < 4294967296 ^ N):t < 32 * N:=by
 have h1:2 ^ t≤x0:=by rw [h];exact Nat.le_mul_of_pos_right _ hx
 have h2:(4294967296:Nat) ^ N=2 ^ (32 * N):=by rw [Nat.pow_mul]
 rw [h2] at hN;exact (Nat.pow_lt_pow_iff_right (by omega)).1 (Nat.lt_of_le_of_lt h1 hN)
theorem rc {x y:Nat}(h:¬ (x % 2=0∧y % 2=0)):Nat.gcd x y % 2=1:=by
 rcases Nat.mod_two_eq_zero_or_one (Nat.gcd x y) with h1 | h1
 ·exfalso
  have h2:2 ∣ Nat.gcd x y:=Nat.dvd_of_mod_eq_zero h1;exact h ⟨Nat.mod_eq_zero_of_dvd (Nat.dvd_trans h2 (Nat.gcd_dvd_left x y)),Nat.mod_eq_zero_of_dvd (Nat.dvd_trans h2 (Nat.gcd_dvd_right x y))⟩
 exact h1
theorem eU {u v G:Nat}(h:Nat.gcd u v=G) (hG:G % 2=1) (hu:u % 2=0):Nat.gcd (u / 2) v=G:=by
 have hv:v % 2=1:=by
  rcases Nat.mod_two_eq_zero_or_one v with h1 | h1
  ·exfalso
   have h2:2 ∣ Nat.gcd u v:=Nat.dvd_gcd (Nat.dvd_of_mod_eq_zero hu) (Nat.dvd_of_mod_eq_zero h1);rw [h] at h2;have:=Nat.mod_eq_zero_of_dvd h2;omega
  exact h1
 rw [ij hu hv];exact h
theorem re (w:World) (N:Nat) (hN:N≤1099511627000) (A n c l) (wa:Wd w A n c l) (hn:n≤N) (A' n' c' l') (wb:Wd w A' n' c' l') (hn':n'≤N) (h0:val l≠0) (h0':val l'≠0) :
 Calls Tryz.prog 214 #[.slice A n c,.slice A' n' c'] w (eK w (aj (Nat.gcd (val l) (val l')))):=by
 have hvl:=wa.vlt hn;have hvl':=wb.vlt hn';obtain ⟨x0,hx0⟩:∃ x,val l=x:=⟨_,rfl⟩;obtain ⟨y0,hy0⟩:∃ y,val l'=y:=⟨_,rfl⟩;rw [hx0] at hvl h0;rw [hy0] at hvl' h0';rw [hx0,hy0];have HX0:=Qh hx0;have HY0:=Qh hy0;have HVX:=Qh hvl;have HVY:=Qh hvl';have hxp:0 < x0:=by omega
 have hyp:0 < y0:=by omega
 clear hx0 hy0 hvl hvl' h0 h0';go_in;go_wp2_with fail;(with_reducible refine (eS _ A n c l ?_ ?_).mono ?_);(exact wa);(omega);rintro e w1 ⟨ga,na,ca,rfl,h1,hb1⟩;rw [HX0.out] at h1;go_wp2_with fail;(with_reducible refine (eS _ A' n' c' l' ?_ ?_).mono ?_);(exact wb.belw hb1);(omega);rintro e w2 ⟨gb,nb,cb,rfl,h2,hb2⟩;rw [HY0.out] at h2;have hg:ga≠gb:=by have:=h1.lt;have:=h2.base;omega
 have h1':OwS w2 w.heap.size ga na ca (aj x0):=by
  refine ⟨⟨h1.1.1,?_⟩,h1.2⟩;rcases h1.1.2 with ⟨e,_⟩ | ⟨g',cap',cur,e,hb,hgg,r⟩
  ·cases e
  exact .inr ⟨g',cap',cur,e,hb,(hb2.block g' (lt_of_block hgg)).trans hgg,r⟩
 have h2':OwS w2 w.heap.size gb nb cb (aj y0):=by
  refine ⟨⟨h2.1.1,?_⟩,h2.2⟩;rcases h2.1.2 with ⟨e,_⟩ | ⟨g',cap',cur,e,hb,r⟩
  ·cases e
  exact .inr ⟨g',cap',cur,e,Nat.le_trans hb1.size hb,r⟩
 have HT:=Qh (show Two w w2 N (.slice (some ⟨ga,0,none⟩) na ca) (.slice (some ⟨gb,0,none⟩) nb cb) x0 y0 from ⟨ga,na,ca,gb,nb,cb,rfl,rfl,h1',h2',hg,hb1.trans (hb2.mono hb1.size),HVX.out,HVY.out⟩);have ea:((na:Int) == 0)=false:=by have:=bT h1 hxp;simp;omega
 have eb:((nb:Int) == 0)=false:=by have:=bT h2 hyp;simp;omega
 clear h1 h2 h1' h2' hb1 hb2 hg;go_wp2_with fail;go_loopw [0,1,5] (fun va vb tv wr=>∃ (x y t:Nat),Two w wr N va vb x y∧tv=.int .i64 (t:Nat)∧0 < x∧0 < y∧x0=2 ^ t * x∧y0=2 ^ t * y) (fun va _ _ wr=>valOf wr va)
 case atStart=>exact ⟨x0,y0,0,HT.out,rfl,hxp,hyp,by simp,by simp⟩
 case round =>
  obtain ⟨x,y,t,hT,rfl,hx,hy,hex,hey⟩:=hrel;obtain ⟨ga,na,ca,gb,nb,cb,rfl,rfl⟩:=hT.form;have HT:=Qh hT;have hca:=dk hT.at_.1 hx;have hcb:=dk hT.at_.2.1 hy;have hna:=bT hT.at_.1 hx;have hnb:=bT hT.at_.2.1 hy;have hnaN:=cV hT.at_.1 hT.at_.2.2.2.2.1;have hnbN:=cV hT.at_.2.1 hT.at_.2.2.2.2.2;obtain ⟨p,hp⟩:∃ p,x % 4294967296=p:=⟨_,rfl⟩;obtain ⟨q,hq⟩:∃ q,y % 4294967296=q:=⟨_,rfl⟩;rw [hp] at hca;rw [hq] at hcb;have hp1:p < 4294967296:=by omega
  have hq1:q < 4294967296:=by omega
  have hpx:x % 2=p % 2:=by omega
  have hqy:y % 2=q % 2:=by omega
  have ht:t < 32 * N:=mY hex hx HVX.out;have HE:=Qh (And.intro hex hey);have HP:=Qh (And.intro hpx hqy);clear hex hey hp hq hpx hqy hT;by_cases hpe:p % 2=0∧q % 2=0
  ·have ea:=cO hp1 hpe.1
   have eb:=cO hq1 hpe.2;have HPE:=Qh hpe;clear hpe;go_wp2_with fail;(with_reducible refine (cJ _ w.heap.size ga na ca (aj x) ?_ ?_).mono ?_);(exact HT.out.at_.1);(omega);rintro e w1 ⟨k1,rfl,o1,hon1⟩;have HT1:=Qh (HT.out.left o1.of_digs hon1 (Nat.div_le_self _ _));clear o1 hon1 hca hcb;go_wp2_with fail;(with_reducible refine (cJ _ w.heap.size gb nb cb (aj y) ?_ ?_).mono ?_);(exact HT1.out.at_.2.1);(omega);rintro e w2 ⟨k2,rfl,o2,hon2⟩;have HT2:=Qh (HT1.out.swap.left o2.of_digs hon2 (Nat.div_le_self _ _)).swap;clear o2 hon2;go_wp2_with fail;go_roundw
   case rel =>
    have h1:x=2 * (x / 2):=by have:=HP.out.1;have:=HPE.out.1;omega
    have h2:y=2 * (y / 2):=by have:=HP.out.2;have:=HPE.out.2;omega
    exact ⟨x / 2,y / 2,t+1,HT2.out,by go_num,by omega,by omega,by rw [HE.out.1,Nat.pow_succ,Nat.mul_assoc,← h1],by rw [HE.out.2,Nat.pow_succ,Nat.mul_assoc,← h2]⟩
   case measure =>
    rw [aI HT2.out.at_.1,aI HT.out.at_.1];omega
  have hGo:Nat.gcd x y % 2=1:=rc (by intro h;exact hpe ⟨by have:=HP.out.1;omega,by have:=HP.out.2;omega⟩);obtain ⟨G,hG⟩:∃ G,Nat.gcd x y=G:=⟨_,rfl⟩;rw [hG] at hGo;have HG:=Qh (And.intro hG hGo);have hGp:0 < G:=by omega
  clear hG hGo;rcases (show p % 2=1∨(p % 2=0∧q % 2=1) by omega) with h1 | ⟨h1,h2⟩
  ·have ea:=dR hp1 h1
   clear hpe h1;go_wp2_with fail;clear ea
   try clear eb
   have e5:0 < nb:=hnb;clear hca hcb hp1 hq1 hna hnb hnaN hnbN;go_loopw [0,1] (fun va vb wr=>∃ (u v:Nat),Two w wr N va vb u v∧0 < v∧Nat.gcd u v=G) (fun va vb wr=>valOf wr va+valOf wr vb)
   case atStart=>exact ⟨x,y,HT.out,hy,HG.out.1⟩
   case round =>
    rename_i wr2;obtain ⟨u,v,hT2,hv,hgu⟩:=hrel;obtain ⟨ga2,na2,ca2,gb2,nb2,cb2,rfl,rfl⟩:=hT2.form;have HT2:=Qh hT2;have HGU:=Qh hgu;clear hT2 hgu;by_cases hu:u=0
    ·subst hu
     have e0:na2=0:=by rw [HT2.out.at_.1.len,am];rfl
     subst e0;have HVG:=Qh (show v=G by have:=HGU.out;simpa using this);go_wp2_with fail;go_loopw [1,65] (fun vb iv wr=>∃ (j:Nat) (B:Option Addr) (m cc:Nat),vb=.slice B m cc∧Wd wr B m cc (aj (2 ^ j * G))∧m≤N∧iv=.int .i64 (j:Nat)∧j≤t∧Below w.heap.size w wr) (fun _ iv _=>t - (intOf iv).toNat)
     case atStart =>
      have:=HVG.out;subst this;exact ⟨0,_,_,_,rfl,by simpa using HT2.out.at_.2.1.toWd,cV HT2.out.at_.2.1 HT2.out.at_.2.2.2.2.2,rfl,Nat.zero_le _,HT2.out.at_.2.2.2.1⟩
     case round =>
      obtain ⟨j,B,m,cc,rfl,hw,hm,rfl,hj,hbl⟩:=hrel;have HW:=Qh hw;have HB:=Qh hbl;clear hw hbl;by_cases hlt:j < t
      ·go_wp2_with fail
       (with_reducible refine (gw _ B m cc (aj (2 ^ j * G)) ?_ ?_ B m cc (aj (2 ^ j * G)) ?_ ?_).mono ?_);(exact HW.out);(omega);(exact HW.out);(omega);rintro e w4 ⟨B',m',cc',rfl,h4,hb4⟩;have hz:val (aj (2 ^ j * G))+val (aj (2 ^ j * G))=2 ^ (j+1) * G:=by rw [ah,Nat.pow_succ];grind
       rw [hz] at h4;have HZ:=Qh hz;have H4:=Qh h4;clear hz h4;go_wp2_with fail;go_roundw
       case rel =>
        refine ⟨j+1,B',m',cc',rfl,H4.out,?_,by go_num,by omega,HB.out.trans (hb4.mono HB.out.size)⟩;rw [H4.out.2.1];refine az (Nat.lt_of_le_of_lt ?_ HVX.out);rw [HE.out.1];refine Nat.le_trans (Nat.mul_le_mul_right G (Nat.pow_le_pow_right (by omega) (show j+1≤t by omega))) (Nat.mul_le_mul_left _ ?_);rw [← HG.out.1];exact Nat.gcd_le_left _ hx
       case measure=>simp [intOf];omega
      have hjt:j=t:=by omega
      subst hjt;go_wp2;go_ret;refine ⟨B,m,cc,rfl,?_,HB.out⟩;rw [HE.out.1,HE.out.2,Nat.gcd_mul_left,HG.out.1];exact HW.out
    have hup:0 < u:=by omega
    have hnap:=bT HT2.out.at_.1 hup;go_wp2_with fail;go_loopw [0] (fun va wr=>∃ (u':Nat),Two w wr N va (.slice (some ⟨gb2,0,none⟩) nb2 cb2) u' v∧0 < u'∧Nat.gcd u' v=G∧u'≤u) (fun va wr=>valOf wr va)
    case atStart=>exact ⟨u,HT2.out,hup,HGU.out,Qr⟩
    case round =>
     rename_i wr3;obtain ⟨u',hT3,hu',hgu3,hle3⟩:=hrel;obtain ⟨ga3,na3,ca3,_,_,_,rfl,_⟩:=hT3.form;have HT3:=Qh hT3;have HGU3:=Qh hgu3;have hc3:=dk hT3.at_.1 hu';have hn3:=bT hT3.at_.1 hu';have hn3N:=cV hT3.at_.1 hT3.at_.2.2.2.2.1;obtain ⟨p3,hp3⟩:∃ p,u' % 4294967296=p:=⟨_,rfl⟩;rw [hp3] at hc3;have hp31:p3 < 4294967296:=by omega
     have hpu:u' % 2=p3 % 2:=by omega
     clear hT3 hgu3 hp3;by_cases hpe3:p3 % 2=0
     ·have ea3:=cO hp31 hpe3
      have HU2:=Qh (show u' % 2=0 by omega);clear hpe3 hpu;go_wp2_with fail;(with_reducible refine (cJ _ w.heap.size ga3 na3 ca3 (aj u') ?_ ?_).mono ?_);(exact HT3.out.at_.1);(omega);rintro e w4 ⟨k4,rfl,o4,hon4⟩;have HT4:=Qh (HT3.out.left o4.of_digs hon4 (Nat.div_le_self _ _));clear o4 hon4 hc3;go_wp2_with fail;go_roundw
      case rel =>
       have:=HU2.out;exact ⟨u' / 2,HT4.out,by omega,eU HGU3.out HG.out.2 this,by omega⟩
      case measure =>
       rw [aI HT4.out.at_.1,aI HT3.out.at_.1];have:=HU2.out;omega
     have ea3:=dR hp31 (show p3 % 2=1 by omega);clear hpe3 hpu;go_wp2_with fail;clear ea3 hc3;go_loopw [1] (fun vb wr=>∃ (v':Nat),Two w wr N (.slice (some ⟨ga3,0,none⟩) na3 ca3) vb u' v'∧0 < v'∧Nat.gcd u' v'=G∧v'≤v) (fun vb wr=>valOf wr vb)
     case atStart=>exact ⟨v,HT3.out,hv,HGU3.out,Qr⟩
     case round =>
      rename_i wr5;obtain ⟨v',hT5,hv',hgu5,hle5⟩:=hrel;obtain ⟨_,_,_,gb5,nb5,cb5,_,rfl⟩:=hT5.form;have HT5:=Qh hT5;have HGU5:=Qh hgu5;have hc5:=dk hT5.at_.2.1 hv';have hn5:=bT hT5.at_.2.1 hv';have hn5N:=cV hT5.at_.2.1 hT5.at_.2.2.2.2.2;obtain ⟨p5,hp5⟩:∃ p,v' % 4294967296=p:=⟨_,rfl⟩;rw [hp5] at hc5;have hp51:p5 < 4294967296:=by omega
      have hpv:v' % 2=p5 % 2:=by omega
      clear hT5 hgu5 hp5;by_cases hpe5:p5 % 2=0
      ·have ea5:=cO hp51 hpe5
       have HU2:=Qh (show v' % 2=0 by omega);clear hpe5 hpv;go_wp2_with fail;(with_reducible refine (cJ _ w.heap.size gb5 nb5 cb5 (aj v') ?_ ?_).mono ?_);(exact HT5.out.at_.2.1);(omega);rintro e w6 ⟨k6,rfl,o6,hon6⟩;have HT6:=Qh (HT5.out.swap.left o6.of_digs hon6 (Nat.div_le_self _ _)).swap;clear o6 hon6 hc5;go_wp2_with fail;go_roundw
       case rel =>
        have:=HU2.out;exact ⟨v' / 2,HT6.out,by omega,by rw [Nat.gcd_comm];exact eU (by rw [Nat.gcd_comm];exact HGU5.out) HG.out.2 this,by omega⟩
       case measure =>
        rw [aI HT6.out.at_.2.1,aI HT5.out.at_.2.1];have:=HU2.out;omega
      have ea5:=dR hp51 (show p5 % 2=1 by omega);clear hpe5 hpv;go_wp2_with fail;clear ea5 hc5;(with_reducible refine (cp _ (some ⟨ga3,0,none⟩) na3 ca3 (aj u') ?_ ?_ (some ⟨gb5,0,none⟩) nb5 cb5 (aj v') ?_ ?_).mono ?_);(exact HT5.out.at_.1.toWd);(omega);(exact HT5.out.at_.2.1.toWd);(omega);rintro e w6 ⟨rfl,hb6⟩;have HT6:=Qh (HT5.out.belw hb6);clear hb6;rw [ah,ah];by_cases hlt:u' < v'
      ·rw [show aO u' v'=-1 by unfold aO;rw [if_pos hlt]]
       have HLE:=Qh (Nat.le_of_lt hlt);clear hlt;go_wp2_with fail;(with_reducible refine (dG _ w.heap.size gb5 nb5 cb5 (aj v') ?_ ?_ (some ⟨ga3,0,none⟩) na3 ca3 (aj u') ?_ ?_ ?_ ?_).mono ?_);(exact HT6.out.at_.2.1);(omega);(exact HT6.out.at_.1.toWd);(intro ad e;injection e with e;subst e;exact HT6.out.at_.2.2.1);(rw [HT6.out.at_.2.1.len,HT6.out.at_.1.len];exact ci HLE.out);(rw [ah,ah];exact HLE.out);rintro e w7 ⟨L,rfl,o7,hv7,hon7⟩;rw [ah,ah] at hv7;have HV7:=Qh hv7;have HO7:=Qh o7;have HON7:=Qh hon7;clear hv7 o7 hon7;go_wp2_with fail;(with_reducible refine (eT _ w.heap.size gb5 nb5 cb5 L ?_ ?_).mono ?_);(exact HO7.out);(omega);rintro e w8 ⟨k8,rfl,o8,rfl⟩;rw [HV7.out] at o8;have HT8:=Qh (HT6.out.swap.left o8 HON7.out (Nat.sub_le _ _));clear o8;go_wp2_with fail;go_roundw
       case rel=>exact ⟨v' - u',u',HT8.out,hu',by rw [fU HLE.out];rw [Nat.gcd_comm];exact HGU5.out⟩
       case measure =>
        rw [aI HT8.out.at_.1,aI HT8.out.at_.2.1,aI HT2.out.at_.1,aI HT2.out.at_.2.1];have:=HLE.out;omega

      ·have hcn:decide (aO u' v' < 0)=false:=by unfold aO;rw [if_neg hlt];split <;> decide
       have HLE:=Qh (Nat.le_of_not_lt hlt);obtain ⟨cm,hcm⟩:∃ cm,aO u' v'=cm:=⟨_,rfl⟩;rw [hcm] at hcn ⊢;clear hlt hcm;go_wp2_with fail;(with_reducible refine (dG _ w.heap.size ga3 na3 ca3 (aj u') ?_ ?_ (some ⟨gb5,0,none⟩) nb5 cb5 (aj v') ?_ ?_ ?_ ?_).mono ?_);(exact HT6.out.at_.1);(omega);(exact HT6.out.at_.2.1.toWd);(intro ad e;injection e with e;subst e;exact Ne.symm HT6.out.at_.2.2.1);(rw [HT6.out.at_.1.len,HT6.out.at_.2.1.len];exact ci HLE.out);(rw [ah,ah];exact HLE.out);rintro e w7 ⟨L,rfl,o7,hv7,hon7⟩;rw [ah,ah] at hv7;have HV7:=Qh hv7;have HO7:=Qh o7;have HON7:=Qh hon7;clear hv7 o7 hon7;go_wp2_with fail;(with_reducible refine (eT _ w.heap.size ga3 na3 ca3 L ?_ ?_).mono ?_);(exact HO7.out);(omega);rintro e w8 ⟨k8,rfl,o8,rfl⟩;rw [HV7.out] at o8;have HT8:=Qh (HT6.out.left o8 HON7.out (Nat.sub_le _ _));clear o8;go_wp2_with fail;go_roundw
       case rel=>exact ⟨u' - v',v',HT8.out,hv',by rw [fU HLE.out];exact HGU5.out⟩
       case measure =>
        rw [aI HT8.out.at_.1,aI HT8.out.at_.2.1,aI HT2.out.at_.1,aI HT2.out.at_.2.1];have:=HLE.out;omega


  ·have ea:=cO hp1 h1
   have eb:=dR hq1 h2;clear h2;clear hpe h1;go_wp2_with fail;clear ea
   try clear eb
   have e5:0 < nb:=hnb;clear hca hcb hp1 hq1 hna hnb hnaN hnbN;go_loopw [0,1] (fun va vb wr=>∃ (u v:Nat),Two w wr N va vb u v∧0 < v∧Nat.gcd u v=G) (fun va vb wr=>valOf wr va+valOf wr vb)
   case atStart=>exact ⟨x,y,HT.out,hy,HG.out.1⟩
   case round =>
    rename_i wr2;obtain ⟨u,v,hT2,hv,hgu⟩:=hrel;obtain ⟨ga2,na2,ca2,gb2,nb2,cb2,rfl,rfl⟩:=hT2.form;have HT2:=Qh hT2;have HGU:=Qh hgu;clear hT2 hgu;by_cases hu:u=0
    ·subst hu
     have e0:na2=0:=by rw [HT2.out.at_.1.len,am];rfl
     subst e0;have HVG:=Qh (show v=G by have:=HGU.out;simpa using this);go_wp2_with fail;go_loopw [1,65] (fun vb iv wr=>∃ (j:Nat) (B:Option Addr) (m cc:Nat),vb=.slice B m cc∧Wd wr B m cc (aj (2 ^ j * G))∧m≤N∧iv=.int .i64 (j:Nat)∧j≤t∧Below w.heap.size w wr) (fun _ iv _=>t - (intOf iv).toNat)
     case atStart =>
      have:=HVG.out;subst this;exact ⟨0,_,_,_,rfl,by simpa using HT2.out.at_.2.1.toWd,cV HT2.out.at_.2.1 HT2.out.at_.2.2.2.2.2,rfl,Nat.zero_le _,HT2.out.at_.2.2.2.1⟩
     case round =>
      obtain ⟨j,B,m,cc,rfl,hw,hm,rfl,hj,hbl⟩:=hrel;have HW:=Qh hw;have HB:=Qh hbl;clear hw hbl;by_cases hlt:j < t
      ·go_wp2_with fail
       (with_reducible refine (gw _ B m cc (aj (2 ^ j * G)) ?_ ?_ B m cc (aj (2 ^ j * G)) ?_ ?_).mono ?_);(exact HW.out);(omega);(exact HW.out);(omega);rintro e w4 ⟨B',m',cc',rfl,h4,hb4⟩;have hz:val (aj (2 ^ j * G))+val (aj (2 ^ j * G))=2 ^ (j+1) * G:=by rw [ah,Nat.pow_succ];grind
       rw [hz] at h4;have HZ:=Qh hz;have H4:=Qh h4;clear hz h4;go_wp2_with fail;go_roundw
       case rel =>
        refine ⟨j+1,B',m',cc',rfl,H4.out,?_,by go_num,by omega,HB.out.trans (hb4.mono HB.out.size)⟩;rw [H4.out.2.1];refine az (Nat.lt_of_le_of_lt ?_ HVX.out);rw [HE.out.1];refine Nat.le_trans (Nat.mul_le_mul_right G (Nat.pow_le_pow_right (by omega) (show j+1≤t by omega))) (Nat.mul_le_mul_left _ ?_);rw [← HG.out.1];exact Nat.gcd_le_left _ hx
       case measure=>simp [intOf];omega
      have hjt:j=t:=by omega
      subst hjt;go_wp2;go_ret;refine ⟨B,m,cc,rfl,?_,HB.out⟩;rw [HE.out.1,HE.out.2,Nat.gcd_mul_left,HG.out.1];exact HW.out
    have hup:0 < u:=by omega
    have hnap:=bT HT2.out.at_.1 hup;go_wp2_with fail;go_loopw [0] (fun va wr=>∃ (u':Nat),Two w wr N va (.slice (some ⟨gb2,0,none⟩) nb2 cb2) u' v∧0 < u'∧Nat.gcd u' v=G∧u'≤u) (fun va wr=>valOf wr va)
    case atStart=>exact ⟨u,HT2.out,hup,HGU.out,Qr⟩
    case round =>
     rename_i wr3;obtain ⟨u',hT3,hu',hgu3,hle3⟩:=hrel;obtain ⟨ga3,na3,ca3,_,_,_,rfl,_⟩:=hT3.form;have HT3:=Qh hT3;have HGU3:=Qh hgu3;have hc3:=dk hT3.at_.1 hu';have hn3:=bT hT3.at_.1 hu';have hn3N:=cV hT3.at_.1 hT3.at_.2.2.2.2.1;obtain ⟨p3,hp3⟩:∃ p,u' % 4294967296=p:=⟨_,rfl⟩;rw [hp3] at hc3;have hp31:p3 < 4294967296:=by omega
     have hpu:u' % 2=p3 % 2:=by omega
     clear hT3 hgu3 hp3;by_cases hpe3:p3 % 2=0
     ·have ea3:=cO hp31 hpe3
      have HU2:=Qh (show u' % 2=0 by omega);clear hpe3 hpu;go_wp2_with fail;(with_reducible refine (cJ _ w.heap.size ga3 na3 ca3 (aj u') ?_ ?_).mono ?_);(exact HT3.out.at_.1);(omega);rintro e w4 ⟨k4,rfl,o4,hon4⟩;have HT4:=Qh (HT3.out.left o4.of_digs hon4 (Nat.div_le_self _ _));clear o4 hon4 hc3;go_wp2_with fail;go_roundw
      case rel =>
       have:=HU2.out;exact ⟨u' / 2,HT4.out,by omega,eU HGU3.out HG.out.2 this,by omega⟩
      case measure =>
       rw [aI HT4.out.at_.1,aI HT3.out.at_.1];have:=HU2.out;omega
     have ea3:=dR hp31 (show p3 % 2=1 by omega);clear hpe3 hpu;go_wp2_with fail;clear ea3 hc3;go_loopw [1] (fun vb wr=>∃ (v':Nat),Two w wr N (.slice (some ⟨ga3,0,none⟩) na3 ca3) vb u' v'∧0 < v'∧Nat.gcd u' v'=G∧v'≤v) (fun vb wr=>valOf wr vb)
     case atStart=>exact ⟨v,HT3.out,hv,HGU3.out,Qr⟩
     case round =>
      rename_i wr5;obtain ⟨v',hT5,hv',hgu5,hle5⟩:=hrel;obtain ⟨_,_,_,gb5,nb5,cb5,_,rfl⟩:=hT5.form;have HT5:=Qh hT5;have HGU5:=Qh hgu5;have hc5:=dk hT5.at_.2.1 hv';have hn5:=bT hT5.at_.2.1 hv';have hn5N:=cV hT5.at_.2.1 hT5.at_.2.2.2.2.2;obtain ⟨p5,hp5⟩:∃ p,v' % 4294967296=p:=⟨_,rfl⟩;rw [hp5] at hc5;have hp51:p5 < 4294967296:=by omega
      have hpv:v' % 2=p5 % 2:=by omega
      clear hT5 hgu5 hp5;by_cases hpe5:p5 % 2=0
      ·have ea5:=cO hp51 hpe5
       have HU2:=Qh (show v' % 2=0 by omega);clear hpe5 hpv;go_wp2_with fail;(with_reducible refine (cJ _ w.heap.size gb5 nb5 cb5 (aj v') ?_ ?_).mono ?_);(exact HT5.out.at_.2.1);(omega);rintro e w6 ⟨k6,rfl,o6,hon6⟩;have HT6:=Qh (HT5.out.swap.left o6.of_digs hon6 (Nat.div_le_self _ _)).swap;clear o6 hon6 hc5;go_wp2_with fail;go_roundw
       case rel =>
        have:=HU2.out;exact ⟨v' / 2,HT6.out,by omega,by rw [Nat.gcd_comm];exact eU (by rw [Nat.gcd_comm];exact HGU5.out) HG.out.2 this,by omega⟩
       case measure =>
        rw [aI HT6.out.at_.2.1,aI HT5.out.at_.2.1];have:=HU2.out;omega
      have ea5:=dR hp51 (show p5 % 2=1 by omega);clear hpe5 hpv;go_wp2_with fail;clear ea5 hc5;(with_reducible refine (cp _ (some ⟨ga3,0,none⟩) na3 ca3 (aj u') ?_ ?_ (some ⟨gb5,0,none⟩) nb5 cb5 (aj v') ?_ ?_).mono ?_);(exact HT5.out.at_.1.toWd);(omega);(exact HT5.out.at_.2.1.toWd);(omega);rintro e w6 ⟨rfl,hb6⟩;have HT6:=Qh (HT5.out.belw hb6);clear hb6;rw [ah,ah];by_cases hlt:u' < v'
      ·rw [show aO u' v'=-1 by unfold aO;rw [if_pos hlt]]
       have HLE:=Qh (Nat.le_of_lt hlt);clear hlt;go_wp2_with fail;(with_reducible refine (dG _ w.heap.size gb5 nb5 cb5 (aj v') ?_ ?_ (some ⟨ga3,0,none⟩) na3 ca3 (aj u') ?_ ?_ ?_ ?_).mono ?_);(exact HT6.out.at_.2.1);(omega);(exact HT6.out.at_.1.toWd);(intro ad e;injection e with e;subst e;exact HT6.out.at_.2.2.1);(rw [HT6.out.at_.2.1.len,HT6.out.at_.1.len];exact ci HLE.out);(rw [ah,ah];exact HLE.out);rintro e w7 ⟨L,rfl,o7,hv7,hon7⟩;rw [ah,ah] at hv7;have HV7:=Qh hv7;have HO7:=Qh o7;have HON7:=Qh hon7;clear hv7 o7 hon7;go_wp2_with fail;(with_reducible refine (eT _ w.heap.size gb5 nb5 cb5 L ?_ ?_).mono ?_);(exact HO7.out);(omega);rintro e w8 ⟨k8,rfl,o8,rfl⟩;rw [HV7.out] at o8;have HT8:=Qh (HT6.out.swap.left o8 HON7.out (Nat.sub_le _ _));clear o8;go_wp2_with fail;go_roundw
       case rel=>exact ⟨v' - u',u',HT8.out,hu',by rw [fU HLE.out];rw [Nat.gcd_comm];exact HGU5.out⟩
       case measure =>
        rw [aI HT8.out.at_.1,aI HT8.out.at_.2.1,aI HT2.out.at_.1,aI HT2.out.at_.2.1];have:=HLE.out;omega

      ·have hcn:decide (aO u' v' < 0)=false:=by unfold aO;rw [if_neg hlt];split <;> decide
       have HLE:=Qh (Nat.le_of_not_lt hlt);obtain ⟨cm,hcm⟩:∃ cm,aO u' v'=cm:=⟨_,rfl⟩;rw [hcm] at hcn ⊢;clear hlt hcm;go_wp2_with fail;(with_reducible refine (dG _ w.heap.size ga3 na3 ca3 (aj u') ?_ ?_ (some ⟨gb5,0,none⟩) nb5 cb5 (aj v') ?_ ?_ ?_ ?_).mono ?_);(exact HT6.out.at_.1);(omega);(exact HT6.out.at_.2.1.toWd);(intro ad e;injection e with e;subst e;exact Ne.symm HT6.out.at_.2.2.1);(rw [HT6.out.at_.1.len,HT6.out.at_.2.1.len];exact ci HLE.out);(rw [ah,ah];exact HLE.out);rintro e w7 ⟨L,rfl,o7,hv7,hon7⟩;rw [ah,ah] at hv7;have HV7:=Qh hv7;have HO7:=Qh o7;have HON7:=Qh hon7;clear hv7 o7 hon7;go_wp2_with fail;(with_reducible refine (eT _ w.heap.size ga3 na3 ca3 L ?_ ?_).mono ?_);(exact HO7.out);(omega);rintro e w8 ⟨k8,rfl,o8,rfl⟩;rw [HV7.out] at o8;have HT8:=Qh (HT6.out.left o8 HON7.out (Nat.sub_le _ _));clear o8;go_wp2_with fail;go_roundw
       case rel=>exact ⟨u' - v',v',HT8.out,hv',by rw [fU HLE.out];exact HGU5.out⟩
       case measure =>
        rw [aI HT8.out.at_.1,aI HT8.out.at_.2.1,aI HT2.out.at_.1,aI HT2.out.at_.2.1];have:=HLE.out;omega


theorem mi (w:World) (A n c l) (wa:Wd w A n c l) (hn:n≤1099511627000) (A' n' c' l') (wb:Wd w A' n' c' l') (hn':n'≤1099511627000) (h0:val l=0∨val l'=0) :
 Calls Tryz.prog 214 #[.slice A n c,.slice A' n' c'] w (eK w (aj (Nat.gcd (val l) (val l')))):=by
 have H0:=Qh h0;clear h0;go_in;go_wp2_with fail;(with_reducible refine (eS _ A n c l ?_ ?_).mono ?_);(exact wa);(omega);rintro e w1 ⟨ga,na,ca,rfl,h1,hb1⟩;go_wp2_with fail;(with_reducible refine (eS _ A' n' c' l' ?_ ?_).mono ?_);(exact wb.belw hb1);(omega);rintro e w2 ⟨gb,nb,cb,rfl,h2,hb2⟩;have HB:=Qh (hb1.trans (hb2.mono hb1.size));have H1:=Qh (h1.belw hb2);have H2:=Qh h2;have hna:=h1.len;have hnb:=h2.len;clear h1 h2 hb1 hb2;by_cases hz:val l=0
 ·have e:na=0:=by rw [hna,hz,am];rfl
  have HG:=Qh (show aj (Nat.gcd (val l) (val l'))=aj (val l') by rw [hz,Nat.gcd_zero_left]);subst e;clear hna hnb hz;go_wp2;go_ret;exact ⟨_,_,_,rfl,by rw [HG.out];exact H2.out.toWd,HB.out⟩
 have hz2:val l'=0:=H0.out.resolve_left hz;have e:nb=0:=by rw [hnb,hz2,am];rfl
 have hp:0 < na:=by
  rw [hna];rcases Nat.eq_zero_or_pos (aj (val l)).length with h | h
  ·exact absurd (aG.1 (List.eq_nil_of_length_eq_zero h)) hz
  exact h
 have e1:((na:Int) == 0)=false:=by simp;omega
 have HG:=Qh (show aj (Nat.gcd (val l) (val l'))=aj (val l) by rw [hz2,Nat.gcd_zero_right]);subst e;clear hna hnb hz hz2;go_wp2;go_ret;exact ⟨_,_,_,rfl,by rw [HG.out];exact H1.out.toWd,HB.out⟩
theorem mZ (w:World) (A n c l) (wa:Wd w A n c l) (hn:n≤1099511627000) (A' n' c' l') (wb:Wd w A' n' c' l') (hn':n'≤1099511627000) :
 Calls Tryz.prog 214 #[.slice A n c,.slice A' n' c'] w (eK w (aj (Nat.gcd (val l) (val l')))):=by
 by_cases h:val l=0
 ·exact mi w A n c l wa hn A' n' c' l' wb hn' (.inl h)
 by_cases h':val l'=0
 ·exact mi w A n c l wa hn A' n' c' l' wb hn' (.inr h')
 exact re w 1099511627000 Qr A n c l wa hn A' n' c' l' wb hn' h h'
theorem rf {w w':World}{A:Option Addr}{n c:Nat}{l:List Nat}{A':Option Addr}{n' c':Nat}{l':List Nat}{N:Nat}(h:Wd w A n c l) (h':Wd w' A' n' c' l') (hn:n≤N) (hn':n'≤N):(aj (Nat.gcd (val l) (val l'))).length≤N:=az (lB (h.vlt hn) (h'.vlt hn'))
theorem rg (w:World) (b:Bool) (A n c l) (wa:Wd w A n c l) (hn:n≤1099511627000) (b':Bool) (A' n' c' l') (wb:Wd w A' n' c' l') (hn':n'≤1099511627000) :
 Calls Tryz.prog 172 #[.agg #[.bool b,.slice A n c],.agg #[.bool b',.slice A' n' c']] w (eC w (wh (Nat.gcd (WD.z ⟨b,l⟩).natAbs (WD.z ⟨b',l'⟩).natAbs:Nat))):=by
 have HL:=Qh wa.2.1;have HL':=Qh wb.2.1;rw [gn,gn];go_in;go_wp2_with fail;have b0:Below w.heap.size w (((w.alloc (.cells #[.bool b,.slice A n c] 194)).alloc (.cells #[.bool b',.slice A' n' c'] 194)).alloc (.cells #[.bool false,.slice none 0 0] 194)):=((((Below.refl _ _).alloc Qr _).alloc (by simp) _).alloc (by simp;omega) _);generalize hW0:(((w.alloc (.cells #[.bool b,.slice A n c] 194)).alloc (.cells #[.bool b',.slice A' n' c'] 194)).alloc (.cells #[.bool false,.slice none 0 0] 194))=W0 at b0 ⊢;have c00:W0.cell? ⟨w.heap.size,0,none⟩=some (.bool b):=by subst hW0;simp [go_sem]
 have f00:W0.frozen? ⟨w.heap.size,0,none⟩=false:=by subst hW0;simp [go_sem]
 have c01:W0.cell? ⟨w.heap.size,1,none⟩=some (.slice A n c):=by subst hW0;simp [go_sem]
 have f01:W0.frozen? ⟨w.heap.size,1,none⟩=false:=by subst hW0;simp [go_sem]
 have c10:W0.cell? ⟨w.heap.size+1,0,none⟩=some (.bool b'):=by subst hW0;simp [go_sem]
 have f10:W0.frozen? ⟨w.heap.size+1,0,none⟩=false:=by subst hW0;simp [go_sem]
 have c11:W0.cell? ⟨w.heap.size+1,1,none⟩=some (.slice A' n' c'):=by subst hW0;simp [go_sem]
 have f11:W0.frozen? ⟨w.heap.size+1,1,none⟩=false:=by subst hW0;simp [go_sem]
 have c20:W0.cell? ⟨w.heap.size+1+1,0,none⟩=some (.bool false):=by subst hW0;simp [go_sem]
 have f20:W0.frozen? ⟨w.heap.size+1+1,0,none⟩=false:=by subst hW0;simp [go_sem]
 have c21:W0.cell? ⟨w.heap.size+1+1,1,none⟩=some (.slice none 0 0):=by subst hW0;simp [go_sem]
 have f21:W0.frozen? ⟨w.heap.size+1+1,1,none⟩=false:=by subst hW0;simp [go_sem]
 have x0:Box W0 w.heap.size 194:=by subst hW0;exact ((bi _ _ _ (by simp)).alloc _).alloc _
 have x1:Box W0 (w.heap.size+1) 194:=by subst hW0;exact (bi _ _ _ (by simp)).alloc _
 have x2:Box W0 (w.heap.size+1+1) 194:=by subst hW0;exact bi _ _ _ (by simp)
 have hm0:fx (w.heap.size+1+1) (w.heap.size+1+1+1) 2 W0:=by subst hW0;exact iI (by simp)
 have hs0:w.heap.size+1+1+1≤W0.heap.size:=by subst hW0;simp
 clear hW0;have wa:=wa.belw b0;have wb:=wb.belw b0;have r0:Below W0.heap.size W0 W0:=ae _;have hRB:w.heap.size+1+1≤w.heap.size+1+1+1:=by omega
 go_region_held3 (fun w'=>Sees (w.heap.size+1+1) W0 w') (first | exact Sees.of (Nat.le_trans hRB hs0) (by assumption) | exact Sees.of (Nat.le_trans hRB hs0) (aa (by assumption) _) | exact (Sees.set (Sees.of (Nat.le_trans hRB hs0) (by assumption)) (by simp)) | exact (Sees.set (Sees.set (Sees.of (Nat.le_trans hRB hs0) (by assumption)) (by simp)) (by simp)))
  (first
   | (go_at_call 215;(with_reducible refine (bR _ b A n c l ?_ ?_).mono ?_);(exact wa);(omega);rintro e w1 ⟨A1,n1,c1,rfl,h1,hb1⟩;replace hb1:=af (aa (ae _) 1) hb1;have r1:=af r0 hb1;replace wa:=wa.belw hb1;replace wb:=wb.belw hb1)
   | (go_at_call 215;(with_reducible refine (bR _ b' A' n' c' l' ?_ ?_).mono ?_);(exact wb);(omega);rintro e w2 ⟨A2,n2,c2,rfl,h2,hb2⟩;have r2:=af r1 hb2;replace wa:=wa.belw hb2;replace wb:=wb.belw hb2;replace h1:=h1.belw hb2)
   | (go_at_call 214;(with_reducible refine (mZ _ A1 n1 c1 (WD.m ⟨b,l⟩) ?_ ?_ A2 n2 c2 (WD.m ⟨b',l'⟩) ?_ ?_).mono ?_);(exact h1);(exact h1.m_len (by rw [← HL.out];exact hn));(exact h2);(exact h2.m_len (by rw [← HL'.out];exact hn'));rintro e w3 ⟨A3,n3,c3,rfl,h3,hb3⟩;have r3:=af r2 hb3;replace wa:=wa.belw hb3;replace wb:=wb.belw hb3;replace h1:=h1.belw hb3;replace h2:=h2.belw hb3)
   | (go_at_call 213;(with_reducible refine (bS _ false A3 n3 c3 (aj (Nat.gcd (val (WD.m ⟨b,l⟩)) (val (WD.m ⟨b',l'⟩)))) (Nat.gcd (val (WD.m ⟨b,l⟩)) (val (WD.m ⟨b',l'⟩)):Nat) ?_ ?_ ?_).mono ?_);(exact h3);(rw [h3.2.1];exact rf h1 h2 (Nat.le_trans (h1.m_len (by rw [← HL.out];exact hn)) (by decide)) (Nat.le_trans (h2.m_len (by rw [← HL'.out];exact hn')) (by decide)));(rw [ah];rfl);rintro e w4 ⟨A4,n4,c4,rfl,h4,hb4⟩;have r4:=af r3 hb4;replace wa:=wa.belw hb4;replace wb:=wb.belw hb4;replace h1:=h1.belw hb4;replace h2:=h2.belw hb4;replace h3:=h3.belw hb4;obtain ⟨⟨sc,sf⟩,sr,sz⟩:=bf.of (by omega) hs0 hm0 r4))
 clear hRB;go_wp2_with fail;refine bodyPost_ret (v:=.agg #[.bool _,.slice A4 n4 c4]) (by simp [results,Tryz.results172,go_sem,sr];rfl) rfl ?_;have x:=x2.below r4;refine fw ?_ ?_ ?_
 ·rfl
 ·exact h4.keep (kp2 x (by decide) _ _ _ _)
 exact ((b0.trans (r4.mono b0.size)).setCell (by dsimp only;omega) _).setCell (by dsimp only;omega) _
theorem mj (w:World) (b A n c z k) (h:IZ w b A n c z k) (b' A' n' c' z' k') (h':IZ w b' A' n' c' z' k') (hk:k+k'≤1000000000):Calls Tryz.prog 172 #[.agg #[.bool b,.slice A n c],.agg #[.bool b',.slice A' n' c']] w (eP w (Nat.gcd z.natAbs z'.natAbs:Nat) (k+k')):=by
 have hz:=h.mono (Nat.le_add_right k k') |>.lt
 have hz':=h'.mono (Nat.le_add_left k' k) |>.lt
 obtain ⟨l,h1,rfl,h3⟩:=h;obtain ⟨l',h1',rfl,h3'⟩:=h';exact (rg w b A n c l h1 (by omega) b' A' n' c' l' h1' (by omega)).mono fun _ _ r=>r.i (by simpa using lB hz hz')
theorem si (w:World)  :
 Calls Tryz.prog 173 #[] w (eP w 1 1):=by
 go_in;go_wp2_with fail;(with_reducible refine (qZ _ (1) ?_ ?_).mono ?_);(omega);(omega);rintro e w1 ⟨b1,A1,n1,c1,rfl,h1,hb1⟩;have q1:=hb1.q1;have x1a:Blk w1 w.heap.size 194 #[.bool false,.slice none 0 0]:=(ai _ _ _ (by simp)).below hb1 (by simp);have bw1:=(ae w).trans (q1.mono (ae w).size);have lw1:=hb1.l1;clear q1;have cx1a:=x1a.c2;have fx1a:=x1a.f2;have lx1a:=dj x1a.lt;go_wp2_with fail;refine bodyPost_ret (v:=.agg #[.bool b1,.slice A1 n1 c1]) (by simp [results,Tryz.results173,go_sem, *] <;> trivial) rfl ?_;exact ⟨b1,A1,n1,c1,rfl,h1.keep (((Kp.refl w1).sb w.heap.size 0 x1a.box (by decide) (.bool b1)).sb w.heap.size 1 (x1a.box.set ⟨w.heap.size,0,none⟩ (.bool b1)) (by decide) (.slice A1 n1 c1)),((bw1.sc w.heap.size 0 (by omega) (.bool b1)).sc w.heap.size 1 (by omega) (.slice A1 n1 c1))⟩
theorem m5 (w:World) (b A n c z k) (h:IZ w b A n c z k) (b' A' n' c' z' k') (h':IZ w b' A' n' c' z' k') (s:Int) (hs:co z z'=s) (hk:k+k'≤999999999) :
 Calls Tryz.prog 171 #[.agg #[.bool b,.slice A n c],.agg #[.bool b',.slice A' n' c']] w (aw w (.int .i64 s)):=by subst hs;exact rb w b A n c z k h b' A' n' c' z' k' h' hk

def db (l:List Nat):Bool:=l != [] && last0 l
theorem rh {l:List Nat}(h:l≠[]):db l=last0 l:=by unfold db;have:(l != [])=true:=bne_iff_ne.2 h;rw [this];rfl
theorem iT (w:World) (A:Option Addr) (n c:Nat) (l:List Nat) (v:Bool) (h:Wd w A n c l) (hv:db l=v) (hn:n≤1000000000) :
 Calls Tryz.prog 170 #[.slice A n c] w (aw w (.bool v)):=by
 have HL:=Qh h.2.1;have HV:=Qh hv;clear hv;by_cases h0:n=0
 ·subst h0
  have hl:l=[]:=List.eq_nil_of_length_eq_zero HL.out.symm;have HE:=Qh (show v=false by rw [← HV.out,hl];rfl);clear hl;go_in;go_wp2;go_ret;exact bp HE.out.symm (Below.refl _ _)
 obtain ⟨g,o,rfl,hgl,hc⟩:=h.at2 (by omega);have hck:=hc (n - 1) (by omega);have hlt:=h.lt (n - 1);have hne:l≠[]:=by rintro rfl;have:=HL.out;simp at this;omega
 have he:v=(wd l (n - 1) != 0):=by rw [← HV.out,rh hne];unfold last0;rw [← HL.out]
 have HE:=Qh he;have hp:0 < n:=by omega
 clear hc h0 he hne;generalize hgx:wd l (n - 1)=x at *;clear hgx;go_in;go_wp2;go_ret;refine bp ?_ (Below.refl _ _);rw [HE.out];by_cases hz:x=0
 ·subst hz;rfl
 have h1:(x != 0)=true:=bne_iff_ne.2 hz;have h2:((x:Int) != 0)=true:=bne_iff_ne.2 (by omega)
 first | rw [h1,h2] | simp [hz]
theorem t6 {w:World}{b:Bool}{A:Option Addr}{n c:Nat}{D:Option Addr}{m e:Nat}{a:RD}{k:Nat}(h:QD w b A n c D m e a k) (h0:0 < n∨0 < m):a.ok=(db a.num && db a.den && Nat.gcd (val a.num) (val a.den) == 1):=by
 unfold RD.ok db;rw [if_neg (by intro x;rcases h0 with h1 | h1;exact h.num_ne h1 x.1;exact h.den_ne_ h1 x.2)];cases (a.num != []) <;> cases (a.den != []) <;> cases (last0 a.num) <;> cases (last0 a.den) <;> simp
theorem kq {l:List Nat}(h:db l=true):WD.ok ⟨false,l⟩=true:=by
 unfold db at h;have h1:l≠[]:=by rintro rfl;exact absurd h (by decide)
 rw [oZ h1];exact ((Bool.and_eq_true _ _).mp h).2
theorem m6 (w:World) (b A n c D m e a k) (h:QD w b A n c D m e a k) (hk:k≤300000000) (h1:n=0) (h2:m=0) :
 Calls Tryz.prog 135 #[.agg #[.bool b,.slice A n c,.slice D m e]] w (aw w (.bool a.ok)):=by
 have HR:=Qh (show a.ok=!b from sh h h1 h2);have HK:=Qh hk;subst h1 h2;clear h hk;go_in;go_wp2;go_ret;exact bp (by rw [HR.out]) ((Below.refl _ _).alloc Qr _)
theorem ri (w:World) (b A n c D m e a k) (h:QD w b A n c D m e a k) (hk:k≤300000000):Calls Tryz.prog 135 #[.agg #[.bool b,.slice A n c,.slice D m e]] w (aw w (.bool a.ok)):=by
 by_cases h0:n=0∧m=0
 ·exact m6 w b A n c D m e a k h hk h0.1 h0.2
 have hok:=t6 h (by omega);have hnk:=h.2.2.2.1;have hmk:=h.2.2.2.2;obtain ⟨u,hu⟩:∃ u,db a.num=u:=⟨_,rfl⟩;obtain ⟨v,hv⟩:∃ v,db a.den=v:=⟨_,rfl⟩;rw [hok,hu,hv];have HU:=Qh hu;have HV:=Qh hv;have H:=Qh h;clear hok hu hv h;go_in;go_upto_region 1 with fail;refine gq ?_;intro w1 hw1;have x1:Blk w1 w.heap.size 65 #[.bool b,.slice A n c,.slice D m e]:=by rw [hw1];exact Blk.new w _ _
 have bw1:Below w.heap.size w w1:=by rw [hw1];exact (ae w).alloc Qr _
 clear hw1;have y:=x1.v3;go_cut [12] (fun s12 wx=>s12=.bool false∧Blk wx w.heap.size 65 #[.bool b,.slice A n c,.slice D m e]∧Below w.heap.size w wx)
 case first =>
  rcases Nat.eq_zero_or_pos n with h1 | h1
  ·have e1:((n:Int) == 0)=true:=by simp [h1]
   have e2:((m:Int) == 0)=false:=by simp;omega
   go_wp2_with fail;go_meet;exact ⟨rfl,x1,bw1⟩
  have e1:((n:Int) == 0)=false:=by simp;omega
  go_wp2_with fail;go_meet;exact ⟨rfl,x1,bw1⟩
 case rest =>
  clear x1 bw1 y h0;obtain ⟨rfl,x1,bw1⟩:=hcut;have y:=x1.v3;go_wp2_with fail;(refine (iT _ A n c a.num u (H.out.2.1.belw bw1) HU.out (by omega)).mono ?_);rintro e w3 ⟨rfl,hb3⟩;replace bw1:=bw1.trans (hb3.mono bw1.size);replace x1:=x1.b hb3;clear hb3 y;cases u
  ·go_wp2
   go_ret;exact ⟨rfl,bw1⟩
  have y:=x1.v3;go_wp2_with fail;(refine (iT _ D m e a.den v (H.out.2.2.1.belw bw1) HV.out (by omega)).mono ?_);rintro e' w4 ⟨rfl,hb4⟩;replace bw1:=bw1.trans (hb4.mono bw1.size);replace x1:=x1.b hb4;clear hb4 y;cases v
  ·go_wp2
   go_ret;exact ⟨rfl,bw1⟩
  have hN:=(H.out.num_z (kq HU.out)).belw bw1;have hD:=(H.out.den_z (kq HV.out)).belw bw1;have y:=x1.v3;go_wp2_with fail;(refine (mj _ false A n c _ k hN false D m e _ k hD (by omega)).mono ?_);rintro e' w5 ⟨b9,A9,n9,c9,rfl,h9,hb5⟩;replace bw1:=bw1.trans (hb5.mono bw1.size);clear hb5 y hN hD x1;go_wp2_with fail;(refine (si _).mono ?_);rintro e' w6 ⟨b8,A8,n8,c8,rfl,h8,hb6⟩;replace bw1:=bw1.trans (hb6.mono bw1.size);replace h9:=h9.belw hb6;clear hb6;obtain ⟨s,hs⟩:∃ s,co ((Nat.gcd ((val a.num:Int)).natAbs ((val a.den:Int)).natAbs:Nat)) 1=s:=⟨_,rfl⟩;have HS:=Qh hs;clear hs;go_wp2_with fail;(refine (m5 _ b9 A9 n9 c9 _ (k+k) h9.iz b8 A8 n8 c8 1 1 h8.iz s HS.out (by omega)).mono ?_);rintro e' w7 ⟨rfl,hb7⟩;go_wp2;go_ret;exact bp (mf HS.out rfl) (bw1.trans (hb7.mono bw1.size))

section
variable {w:World}{b:Bool}{A:Option Addr}{n c:Nat}{D:Option Addr}{m e:Nat}{a:RD}{k:Nat}
theorem sj (h:a.ok=false∨a.num=[]):a.q.num=0∧(a.q.den:Int)=1:=by
 have e1:(a.ok && a.num != [])=false:=by rcases h with h | h <;> simp [h]
 have e2:a.q=0:=by unfold RD.q RD.n RD.d;rw [e1];simp
 rw [e2];exact ⟨rfl,rfl⟩
theorem t7 (hn:Wds a.num) (hd:Wds a.den) (ho:a.ok=true) (h0:a.num≠[]):a.num=(wh a.q.num).mag∧a.neg=(wh a.q.num).neg∧a.den=(wh (a.q.den:Int)).mag:=by
 have h1:=kb hn hd ho
 have h2:a.q.num≠0:=by
  intro e;have:(rd a.q).num=[]:=by unfold rd;simp [e,am]
  rw [h1] at this;exact h0 this
 have h3:(rd a.q).den=aj a.q.den:=by unfold rd;simp [h2]
 refine ⟨?_,?_,?_⟩
 ·have:(rd a.q).num=aj a.q.num.natAbs:=rfl
  rw [h1] at this;exact this
 ·have:(rd a.q).neg=decide (a.q.num < 0):=rfl
  rw [h1] at this;exact this
 rw [h1] at h3;exact h3
theorem pg (h:QD w b A n c D m e a k) (ho:a.ok=true) (h0:a.num≠[]):0 < m:=by
 rcases Nat.eq_zero_or_pos m with h1 | h1
 ·have e2:a.den=[]:=List.eq_nil_of_length_eq_zero (by rw [← h.2.2.1.2.1,h1])
  unfold RD.ok at ho;rw [if_neg (by intro x;exact h0 x.1)] at ho;simp [e2] at ho
 exact h1
end
abbrev bB (G g2 g3:Nat) (v0 v1:Value) (W0 W:World):Prop:=((∀ b o,b < G→b≠g2→b≠g3→W.cell? ⟨b,o,none⟩=W0.cell? ⟨b,o,none⟩)∧(∀ b o,b < G→W.frozen? ⟨b,o,none⟩=W0.frozen? ⟨b,o,none⟩))∧G≤W.heap.size∧W.cell? ⟨g2,0,none⟩=some v0∧W.cell? ⟨g2,1,none⟩=some v1
theorem bB.of {G g2 g3:Nat}{v0 v1:Value}{W0 W:World}(h:G≤W0.heap.size) (hb:Below W0.heap.size W0 W) (hg:g2 < W0.heap.size) (h0:W0.cell? ⟨g2,0,none⟩=some v0) (h1:W0.cell? ⟨g2,1,none⟩=some v1):bB G g2 g3 v0 v1 W0 W :=
 ⟨⟨fun b o hlt _ _=>(bq hb).1 b o (Nat.lt_of_lt_of_le hlt h),fun b o hlt=>(bq hb).2 b o (Nat.lt_of_lt_of_le hlt h)⟩,Nat.le_trans h hb.size,((bq hb).1 _ _ hg).trans h0,((bq hb).1 _ _ hg).trans h1⟩
theorem eh {w:World}{p:Addr}{u:Value}(v:Value) (h:w.cell? p=some u) (hp:p.spot=none):(w.setCell p v).cell? p=some v:=by
 obtain ⟨b,o,s⟩:=p;simp only at hp;subst hp;unfold World.cell? at h ⊢;simp only [World.setCell,Array.getElem?_modify,if_true] at h ⊢
 cases hh:w.heap[b]? with
 | none=>rw [hh] at h;simp at h
 | some ob =>
  rw [hh] at h;cases ob <;> simp_all;obtain ⟨hl,_⟩:=Array.getElem?_eq_some_iff.1 h;simp [hl]
theorem bB.set2 {G g2 g3:Nat}{v0 v1:Value}{W0 W:World}(h:bB G g2 g3 v0 v1 W0 W) {i:Nat}{u:Value}(hi:(i=0∧u=v0)∨(i=1∧u=v1)):bB G g2 g3 v0 v1 W0 (W.setCell ⟨g2,i,none⟩ u):=by
 refine ⟨⟨fun b o hlt hne h3=>?_,fun b o hlt=>?_⟩,?_,?_,?_⟩
 ·rw [← h.1.1 b o hlt hne h3];unfold World.cell?;rw [Below.heap_setCell _ _ _ b hne]
 ·rw [← h.1.2 b o hlt];exact World.frozen?_setCell ..
 ·have:=h.2.1;simp [World.setCell];exact this
 ·rcases hi with ⟨rfl,rfl⟩ | ⟨rfl,rfl⟩
  ·exact eh _ h.2.2.1 rfl
  rw [World.cell?_setCell_other _ _ _ _ (by simp)];exact h.2.2.1
 rcases hi with ⟨rfl,rfl⟩ | ⟨rfl,rfl⟩
 ·rw [World.cell?_setCell_other _ _ _ _ (by simp)];exact h.2.2.2
 exact eh _ h.2.2.2 rfl
theorem bB.set3 {G g2 g3:Nat}{v0 v1:Value}{W0 W:World}(h:bB G g2 g3 v0 v1 W0 W) {i:Nat}{u:Value}(hg:g2≠g3):bB G g2 g3 v0 v1 W0 (W.setCell ⟨g3,i,none⟩ u):=by
 refine ⟨⟨fun b o hlt hne h3=>?_,fun b o hlt=>?_⟩,?_,?_,?_⟩
 ·rw [← h.1.1 b o hlt hne h3];unfold World.cell?;rw [Below.heap_setCell _ _ _ b h3]
 ·rw [← h.1.2 b o hlt];exact World.frozen?_setCell ..
 ·have:=h.2.1;simp [World.setCell];exact this
 ·rw [World.cell?_setCell_other _ _ _ _ (by simp <;> omega)];exact h.2.2.1
 rw [World.cell?_setCell_other _ _ _ _ (by simp <;> omega)];exact h.2.2.2
theorem dS (w:World) (b:Bool) (A:Option Addr) (n c:Nat) (D:Option Addr) (m e:Nat) (a:RD) (k:Nat) (v:Bool) (h:QD w b A n c D m e a k) (hk:k≤300000000) (hv:a.ok=v) :
 Calls Tryz.prog 112 #[.agg #[.bool b,.slice A n c,.slice D m e]] w (aw w (.bool v)):=by subst hv;exact qV w b A n c D m e a k h hk
theorem B3.p2 {W w:World}{gs t0 t1 t2:Nat}{c0 c1:Array Value}{a0 a1:Value}(h:B3 W gs t0 c0 t1 c1 t2 #[a0,a1] w) (u0 u1:Value):B3 W gs t0 c0 t1 c1 t2 #[u0,u1] ((w.setCell ⟨gs+1+1,0,none⟩ u0).setCell ⟨gs+1+1,1,none⟩ u1) :=
 ⟨(h.s.far (p:=⟨gs+1+1,0,none⟩) (by show gs≠gs+1+1;omega) u0).far (p:=⟨gs+1+1,1,none⟩) (by show gs≠gs+1+1;omega) u1,(h.t.far (p:=⟨gs+1+1,0,none⟩) (by show gs+1≠gs+1+1;omega) u0).far (p:=⟨gs+1+1,1,none⟩) (by show gs+1≠gs+1+1;omega) u1,(h.r.set_ 0 u0).set_ 1 u1,(h.q.setCell (p:=⟨gs+1+1,0,none⟩) (by show gs≤gs+1+1;omega) u0).setCell (p:=⟨gs+1+1,1,none⟩) (by show gs≤gs+1+1;omega) u1⟩
theorem iU (w:World) (b A n c D m e a k) (h:QD w b A n c D m e a k) (h0:0 < k) (hk:k≤300000000) (ho:a.ok=false∨n=0):Calls Tryz.prog 181 #[.agg #[.bool b,.slice A n c,.slice D m e]] w (iP w a.q.num a.q.den k):=by
 obtain ⟨v,hv⟩:∃ v,a.ok=v:=⟨_,rfl⟩;have hq:a.q.num=0∧(a.q.den:Int)=1:=sj (ho.imp id fun hn=>List.eq_nil_of_length_eq_zero (by rw [← h.2.1.2.1,hn]));rw [hq.1,hq.2];have en:v=true→((n:Int) == 0)=true:=fun e=>by rcases ho with h | h;rw [h] at hv;rw [← hv] at e;cases e;simp [h]
 have HV:=Qh hv;have H:=Qh h;clear hq hv ho h;go_in;go_upto_region 1 with fail;refine gq ?_;intro w1 hw1;have k1:B3 w w.heap.size 65 #[.bool b,.slice A n c,.slice D m e] 194 #[.bool false,.slice none 0 0] 194 #[.bool false,.slice none 0 0] w1:=by rw [hw1];exact ⟨((Blk.new w _ _).alloc _).alloc _,(ai _ _ _ (by simp)).alloc _,ai _ _ _ (by simp),(((ae w).alloc Qr _).alloc (by simp) _).alloc (by simp <;> omega) _⟩
 clear hw1;have y:=k1.s.v3;go_wp2_with fail;(refine (dS _ b A n c D m e a k v (H.out.belw k1.q) hk HV.out).mono ?_);rintro e w2 ⟨rfl,hb2⟩;replace k1:=k1.call hb2;clear hb2 y;have y:=k1.s.v3;have key:∀ {P:Prop},(v=false→P)→(v=true→((n:Int) == 0)=true→P)→P:=fun h1 h2=>by cases v;exact h1 rfl;exact h2 rfl (en rfl)
 clear en;refine key (fun hv=>?_) (fun hv e1=>?_)
 all_goals
  subst hv;go_wp2_with fail;(refine (mg _).mono ?_);rintro e w3 ⟨b2,A2,n2,c2,rfl,h2,hb3⟩;replace k1:=k1.call hb3;clear hb3 y;have y:=And.intro k1.t.v2 k1.r.v2;go_wp2_with fail;refine bodyPost_ret (v:=.tuple #[.agg #[.bool false,.slice none 0 0],.agg #[.bool b2,.slice A2 n2 c2]]) (by simp [results,Tryz.results181,go_sem, *] <;> trivial) rfl ?_;have k2:=k1.p1 (.bool false) (.slice none 0 0);exact ⟨_,_,_,_,_,_,_,_,rfl,IV.zero _ _,(h2.keep ((k1.t.k2 (by decide) _ _).trans (k2.r.k2 (by decide) _ _))).mono (by omega),(k2.p2 _ _).q⟩
theorem m7 (w:World) (b A n c D m e a k) (h:QD w b A n c D m e a k) (h0:0 < k) (hk:k≤300000000) (ho:a.ok=true) (hn:a.num≠[]) :
 Calls Tryz.prog 181 #[.agg #[.bool b,.slice A n c,.slice D m e]] w (iP w a.q.num a.q.den k):=by
 have HK:=Qh hk;have HO:=Qh ho;obtain ⟨e1,e2,e3⟩:=t7 h.2.1.1 h.2.2.1.1 ho hn;have HE:=Qh (And.intro e1 (And.intro e2 e3));have hnp:0 < n:=by rcases Nat.eq_zero_or_pos n with h1 | h1;exact absurd (List.eq_nil_of_length_eq_zero (by rw [← h.2.1.2.1,h1])) hn;exact h1
 have hmp:0 < m:=pg h ho hn;have en:((n:Int) == 0)=false:=by simp;omega
 have hkn:n≤300000000:=Nat.le_trans h.2.2.2.1 hk;have hkm:m≤300000000:=Nat.le_trans h.2.2.2.2 hk;obtain ⟨i0,hi0,hz0,hz1,hz2⟩:=info_parts cl;obtain ⟨gA,oA,eA,hlA,_⟩:=h.2.1.at2 hnp;obtain ⟨gD,oD,eD,hlD,_⟩:=h.2.2.1.at2 hmp;subst eA eD;clear ho hn e1 e2 e3 hk;go_in;go_wp2_with fail;(with_reducible refine (dS _ b (some ⟨gA,oA,none⟩) n c (some ⟨gD,oD,none⟩) m e a k true ?_ ?_ ?_).mono ?_);(exact h.belw (((((Below.refl _ _).alloc Qr _).alloc (by simp) _).alloc (by simp <;> omega) _)));(exact HK.out);(exact HO.out);rintro e w1 ⟨rfl,hb1⟩;have q1:=hb1.q3;replace h:=h.belw q1;have x1a:Blk w1 w.heap.size 65 #[.bool b,.slice (some ⟨gA,oA,none⟩) n c,.slice (some ⟨gD,oD,none⟩) m e]:=(((ai _ _ _ (by simp)).alloc _).alloc _).below hb1 (by simp <;> omega);have x1b:=((ai _ _ _ (g:=w.heap.size+1) (by simp)).alloc _).below hb1 (by simp <;> omega);have x1c:=(ai _ _ _ (g:=w.heap.size+1+1) (by simp)).below hb1 (by simp);have bw1:=(ae w).trans (q1.mono (ae w).size);have lw1:=hb1.l3;clear q1;obtain ⟨cx1aa,cx1ab,cx1ac⟩:=x1a.c3;obtain ⟨lx1aa,lx1ab,lx1ac,lx1ad⟩:=dj x1a.lt;have cx1b:=x1b.c2;have fx1b:=x1b.f2;have lx1b:=dY x1b.lt;obtain ⟨cx1ca,cx1cb⟩:=x1c.c2;obtain ⟨fx1ca,fx1cb⟩:=x1c.f2;obtain ⟨lx1ca,lx1cb,lx1cc,lx1cd⟩:=om x1c.lt;go_wp2_with fail;have howna:=World.ownsRow_lit (e:=58) (size:=1) w1 #[] 0 Qr (by simp [maxLen]) rfl;have hnewsa:=((h.2.1).keep ((Kp.refl w1).alloc (.cells #[] 58))).news (by omega) Qr;have hnla:(words (a.num.take n)).length=n * 1:=by rw [bH,List.length_take];have:=(h.2.1).2.1;omega
 have HOa:=Qh howna;have HNa:=Qh hnewsa;have HNLa:=Qh hnla;clear howna hnewsa hnla;have nf0:¬ w.heap.size=w.heap.size+1:=by omega
 have nf2:¬ w.heap.size+1+1=w.heap.size+1:=by omega
 have nfa:¬ w1.heap.size=w.heap.size+1:=by have:=x1b.lt;omega
 go_region_held3 (fun w'=>SeesX w1.heap.size (w.heap.size+1) w1 w') (first | exact SeesX.of Qr (aa (ae _) 1) | exact SeesX.of Qr ((aa (ae _) 1).alloc Qr _) | exact SeesX.of Qr (((ae _).alloc Qr _).drew) | exact SeesX.of Qr (by assumption) | exact SeesX.set (SeesX.of Qr (by assumption)) | exact SeesX.set (SeesX.set (SeesX.of Qr (by assumption)))) ((refine step_append_lies _ rfl _ _ _ rfl w1.heap.size 58 i0 (.int .u32 0) 1 4 Tryz.underlying63 hi0 hz0 hz1 hz2 rfl (by omega) _ 0 [] rfl (by first | exact HOa.out | exact HOa.out.drew) ⟨gA,oA,none⟩ n c (words (a.num.take n)) rfl HNLa.out HNa.out (dh _) (by omega) (by unfold maxLen;omega) (by omega) (by simp) (w1.heap.size+1) (by simp) ?_;intro ga capa va howna hgrowa hata hlta;have qa:Below w1.heap.size w1 va:=(((Below.refl _ _).alloc Qr _).drew).grown hgrowa (by simp) (fun b hb=>Nat.le_of_eq (Option.some.inj hb));have y1:Blk va (w.heap.size+1) 194 #[.bool false,.slice none 0 0]:=x1b.below qa x1b.lt;obtain ⟨cy10,cy11⟩:=y1.c2;obtain ⟨fy10,fy11⟩:=y1.f2));simp only [Nat.zero_add,List.nil_append] at howna
 have hwa:Wd va (some ⟨ga,0,none⟩) n capa a.num:=by
  have x:=Wd.of_own howna (Wds.take (h.2.1).1 n);rwa [List.take_of_length_le (Nat.le_of_eq (h.2.1).2.1.symm)] at x
 clear howna hgrowa hata HOa HNa HNLa;clear cx1aa cx1ab cx1ac lx1aa lx1ab lx1ac lx1ad cx1b fx1b lx1b cx1ca fx1ca cx1cb fx1cb lx1ca lx1cb lx1cc lx1cd;clear cy10 cy11 fy10 fy11 nfa nf0 nf2;replace x1a:=x1a.b qa;replace x1c:=x1c.b qa;replace h:=h.belw qa;have bwa:Below w.heap.size w va:=bw1.trans (qa.mono bw1.size);have lwa:w1.heap.size≤va.heap.size:=qa.size;clear x1b;go_wp2_with fail;have p5:=(((Kp.refl va).sb (w.heap.size+1) 0 y1.box (by decide) (.bool b)).sb (w.heap.size+1) 1 (y1.box.set ⟨w.heap.size+1,0,none⟩ (.bool b)) (by decide) (.slice (some ⟨ga,0,none⟩) n capa));have bw5:=((bwa.sc (w.heap.size+1) 0 (by omega) (.bool b)).sc (w.heap.size+1) 1 (by omega) (.slice (some ⟨ga,0,none⟩) n capa));replace x1a:=((x1a.fr (w.heap.size+1) 0 (by omega) (.bool b)).fr (w.heap.size+1) 1 (by omega) (.slice (some ⟨ga,0,none⟩) n capa));replace y1:Blk ((va.setCell ⟨w.heap.size+1,0,none⟩ (.bool b)).setCell ⟨w.heap.size+1,1,none⟩ (.slice (some ⟨ga,0,none⟩) n capa)) (w.heap.size+1) 194 #[.bool b,.slice (some ⟨ga,0,none⟩) n capa]:=((y1.set_at 0 (.bool b) #[.bool b,.slice none 0 0] (by simp)).set_at 1 (.slice (some ⟨ga,0,none⟩) n capa) #[.bool b,.slice (some ⟨ga,0,none⟩) n capa] (by simp));replace x1c:=((x1c.fr (w.heap.size+1) 0 (by omega) (.bool b)).fr (w.heap.size+1) 1 (by omega) (.slice (some ⟨ga,0,none⟩) n capa));have lw5:va.heap.size+0≤((va.setCell ⟨w.heap.size+1,0,none⟩ (.bool b)).setCell ⟨w.heap.size+1,1,none⟩ (.slice (some ⟨ga,0,none⟩) n capa)).heap.size:=by simp
 generalize hE5:((va.setCell ⟨w.heap.size+1,0,none⟩ (.bool b)).setCell ⟨w.heap.size+1,1,none⟩ (.slice (some ⟨ga,0,none⟩) n capa))=w5 at p5 bw5 lw5 x1a y1 x1c ⊢;clear hE5;replace h:=h.keep p5;replace hwa:=hwa.keep p5;obtain ⟨cx1aa,cx1ab,cx1ac⟩:=x1a.c3;obtain ⟨lx1aa,lx1ab,lx1ac,lx1ad⟩:=dj x1a.lt;obtain ⟨cy1_0,cy1_1⟩:=y1.c2;have fy1:=y1.f2;have ly1:=dY y1.lt;obtain ⟨cx1ca,cx1cb⟩:=x1c.c2;obtain ⟨fx1ca,fx1cb⟩:=x1c.f2;obtain ⟨lx1ca,lx1cb,lx1cc,lx1cd⟩:=om x1c.lt;have hownd:=World.ownsRow_lit (e:=58) (size:=1) w5 #[] 0 Qr (by simp [maxLen]) rfl;have hnewsd:=((h.2.2.1).keep ((Kp.refl w5).alloc (.cells #[] 58))).news (by omega) Qr;have hnld:(words (a.den.take m)).length=m * 1:=by rw [bH,List.length_take];have:=(h.2.2.1).2.1;omega
 have HOd:=Qh hownd;have HNd:=Qh hnewsd;have HNLd:=Qh hnld;clear hownd hnewsd hnld;have nf0:¬ w.heap.size=w.heap.size+1:=by omega
 have nf1:¬ w.heap.size=w.heap.size+2:=by omega
 have nf2:¬ w.heap.size+1=w.heap.size+1+1:=by omega
 have nf3:¬ w.heap.size=w.heap.size+1:=by omega
 clear nf3;go_region_held3 (fun w'=>bB w5.heap.size (w.heap.size+1) (w.heap.size+1+1) (.bool b) (.slice (some ⟨ga,0,none⟩) n capa) w5 w') (first | with_reducible exact bB.of Qr ((ae _).drew) y1.lt cy1_0 cy1_1 | with_reducible exact bB.of Qr (((ae _).alloc Qr _).drew) y1.lt cy1_0 cy1_1 | with_reducible exact bB.of Qr (by assumption) y1.lt cy1_0 cy1_1 | with_reducible exact (bB.set2 (bB.of Qr (by assumption) y1.lt cy1_0 cy1_1) (.inl ⟨rfl,rfl⟩)) | with_reducible exact (bB.set2 (bB.set2 (bB.of Qr (by assumption) y1.lt cy1_0 cy1_1) (.inl ⟨rfl,rfl⟩)) (.inr ⟨rfl,rfl⟩)) | with_reducible exact (bB.set3 (bB.set2 (bB.set2 (bB.of Qr (by assumption) y1.lt cy1_0 cy1_1) (.inl ⟨rfl,rfl⟩)) (.inr ⟨rfl,rfl⟩)) (by omega)) | with_reducible exact (bB.set3 (bB.set3 (bB.set2 (bB.set2 (bB.of Qr (by assumption) y1.lt cy1_0 cy1_1) (.inl ⟨rfl,rfl⟩)) (.inr ⟨rfl,rfl⟩)) (by omega)) (by omega))) ((refine step_append_lies _ rfl _ _ _ rfl w5.heap.size 58 i0 (.int .u32 0) 1 4 Tryz.underlying63 hi0 hz0 hz1 hz2 rfl (by omega) _ 0 [] rfl (by first | exact HOd.out | exact HOd.out.drew) ⟨gD,oD,none⟩ m e (words (a.den.take m)) rfl HNLd.out HNd.out (dh _) (by omega) (by unfold maxLen;omega) (by omega) (by simp) (w5.heap.size+1) (by simp) ?_;intro gd capd vd hownd hgrowd hatd hltd;have qd:Below w5.heap.size w5 vd:=(((Below.refl _ _).alloc Qr _).drew).grown hgrowd (by simp) (fun b hb=>Nat.le_of_eq (Option.some.inj hb));have z1:Blk vd (w.heap.size+1) 194 #[.bool b,.slice (some ⟨ga,0,none⟩) n capa]:=y1.below qd y1.lt;obtain ⟨cz10,cz11⟩:=z1.c2;obtain ⟨fz10,fz11⟩:=z1.f2;have z2:Blk vd (w.heap.size+1+1) 194 #[.bool false,.slice none 0 0]:=x1c.below qd x1c.lt;obtain ⟨cz20,cz21⟩:=z2.c2;obtain ⟨fz20,fz21⟩:=z2.f2));simp only [Nat.zero_add,List.nil_append] at hownd
 have hwd:Wd vd (some ⟨gd,0,none⟩) m capd a.den:=by
  have x:=Wd.of_own hownd (Wds.take (h.2.2.1).1 m);rwa [List.take_of_length_le (Nat.le_of_eq (h.2.2.1).2.1.symm)] at x
 clear hownd hgrowd hatd HOd HNd HNLd;clear cx1aa cx1ab cx1ac lx1aa lx1ab lx1ac lx1ad cy1_0 fy1 cy1_1 ly1 cx1ca fx1ca cx1cb fx1cb lx1ca lx1cb lx1cc lx1cd;replace x1a:=x1a.b qd;replace hwa:=hwa.belw qd;have bwd:Below w.heap.size w vd:=bw5.trans (qd.mono bw5.size);have lwd:w5.heap.size≤vd.heap.size:=qd.size;go_wp2_with fail;refine bodyPost_ret (v:=.tuple #[.agg #[.bool b,.slice (some ⟨ga,0,none⟩) n capa],.agg #[.bool false,.slice (some ⟨gd,0,none⟩) m capd]]) (by simp [results,Tryz.results181,go_sem, *] <;> trivial) rfl ?_;have kp:=(((((Kp.refl vd).sb (w.heap.size+1) 0 z1.box (by decide) (.bool b)).sb (w.heap.size+1) 1 (z1.box.set ⟨w.heap.size+1,0,none⟩ (.bool b)) (by decide) (.slice (some ⟨ga,0,none⟩) n capa)).sb (w.heap.size+1+1) 0 ((z2.box.set ⟨w.heap.size+1,0,none⟩ (.bool b)).set ⟨w.heap.size+1,1,none⟩ (.slice (some ⟨ga,0,none⟩) n capa)) (by decide) (.bool false)).sb (w.heap.size+1+1) 1 (((z2.box.set ⟨w.heap.size+1,0,none⟩ (.bool b)).set ⟨w.heap.size+1,1,none⟩ (.slice (some ⟨ga,0,none⟩) n capa)).set ⟨w.heap.size+1+1,0,none⟩ (.bool false)) (by decide) (.slice (some ⟨gd,0,none⟩) m capd));exact ⟨b,some ⟨ga,0,none⟩,n,capa,false,some ⟨gd,0,none⟩,m,capd,rfl,⟨h.1.symm.trans HE.out.2.1,HE.out.1 ▸ hwa.keep kp,h.2.2.2.1⟩,⟨by simp [wh],HE.out.2.2 ▸ hwd.keep kp,h.2.2.2.2⟩,((((bwd.sc (w.heap.size+1) 0 (by omega) (.bool b)).sc (w.heap.size+1) 1 (by omega) (.slice (some ⟨ga,0,none⟩) n capa)).sc (w.heap.size+1+1) 0 (by omega) (.bool false)).sc (w.heap.size+1+1) 1 (by omega) (.slice (some ⟨gd,0,none⟩) m capd))⟩
theorem fX (w:World) (b A n c D m e q k) (h:QZ w b A n c D m e q k) (h0:0 < k) (hk:k≤300000000) :
 Calls Tryz.prog 181 #[.agg #[.bool b,.slice A n c,.slice D m e]] w (iP w q.num q.den k):=by
 obtain ⟨a,h,rfl⟩:=h;cases ho:a.ok
 ·exact iU w b A n c D m e a k h h0 hk (.inl ho)
 by_cases hn:n=0
 ·exact iU w b A n c D m e a k h h0 hk (.inr hn)
 exact m7 w b A n c D m e a k h h0 hk ho (h.num_ne (by omega))
theorem t8 (w:World) (b A n c D m e q k) (h:QZ w b A n c D m e q k) (b' A' n' c' D' m' e' q' k') (h':QZ w b' A' n' c' D' m' e' q' k') (h0:0 < k) (hk:k≤40000000) (h0':0 < k') (hk':k'≤40000000) :
 Calls Tryz.prog 155 #[.agg #[.bool b,.slice A n c,.slice D m e],.agg #[.bool b',.slice A' n' c',.slice D' m' e']] w (aw w (.int .i64 (co (q.num * q'.den) (q'.num * q.den)))):=by
 go_in;go_wp2_with fail;(with_reducible refine (fX _ b A n c D m e (q) (k) ?_ ?_ ?_).mono ?_);(exact (h.belw (((Below.refl _ _).alloc Qr _).alloc (by simp) _)));(omega);(omega);rintro e w1 ⟨b1,A1,n1,c1,b'1,A'1,n'1,c'1,rfl,h1,h'1,hb1⟩;have q1:=hb1.q2;replace h:=h.belw q1;replace h':=h'.belw q1;have x1a:Blk w1 w.heap.size 65 #[.bool b,.slice A n c,.slice D m e]:=((ai _ _ _ (by simp)).alloc _).below hb1 (by simp <;> omega);have x1b:=(ai _ _ _ (g:=w.heap.size+1) (by simp)).below hb1 (by simp);have bw1:=(ae w).trans (q1.mono (ae w).size);have lw1:=hb1.l2;clear q1;have cx1b:=x1b.c3;obtain ⟨lx1ba,lx1bb,lx1bc,lx1bd⟩:=dY x1b.lt;go_wp2_with fail;(with_reducible refine (fX _ b' A' n' c' D' m' e' (q') (k') ?_ ?_ ?_).mono ?_);(exact (h'.belw (((Below.refl _ _).alloc Qr _).alloc (by simp) _)));(omega);(omega);rintro e w2 ⟨b2,A2,n2,c2,b'2,A'2,n'2,c'2,rfl,h2,h'2,hb2⟩;clear cx1b lx1ba lx1bb lx1bc lx1bd;have q2:=hb2.q2;replace h:=h.belw q2;replace h':=h'.belw q2;replace h1:=h1.belw q2;replace h'1:=h'1.belw q2;replace x1a:=x1a.b q2;replace x1b:=x1b.b q2;have x2a:Blk w2 w1.heap.size 194 #[.bool b1,.slice A1 n1 c1]:=((ai _ _ _ (by simp)).alloc _).below hb2 (by simp <;> omega);have x2b:=(ai _ _ _ (g:=w1.heap.size+1) (by simp)).below hb2 (by simp);have bw2:=bw1.trans (q2.mono bw1.size);have lw2:=hb2.l2;clear q2 bw1;go_wp2_with fail;have p3:=(((Kp.refl w2).alloc (.cells #[.bool b2,.slice A2 n2 c2] 194)).alloc (.cells #[.bool b'2,.slice A'2 n'2 c'2] 194));have bw3:=((bw2.alloc (by first | omega | (simp <;> omega)) (.cells #[.bool b2,.slice A2 n2 c2] 194)).alloc (by first | omega | (simp <;> omega)) (.cells #[.bool b'2,.slice A'2 n'2 c'2] 194));have x3a:Blk ((w2.alloc (.cells #[.bool b2,.slice A2 n2 c2] 194)).alloc (.cells #[.bool b'2,.slice A'2 n'2 c'2] 194)) w2.heap.size 194 #[.bool b2,.slice A2 n2 c2]:=((ai _ _ _ (by simp)).alloc (.cells #[.bool b'2,.slice A'2 n'2 c'2] 194));have x3b:Blk ((w2.alloc (.cells #[.bool b2,.slice A2 n2 c2] 194)).alloc (.cells #[.bool b'2,.slice A'2 n'2 c'2] 194)) (w2.heap.size+1) 194 #[.bool b'2,.slice A'2 n'2 c'2]:=(ai _ _ _ (by simp));replace x1a:=((x1a.alloc (.cells #[.bool b2,.slice A2 n2 c2] 194)).alloc (.cells #[.bool b'2,.slice A'2 n'2 c'2] 194));replace x1b:=((x1b.alloc (.cells #[.bool b2,.slice A2 n2 c2] 194)).alloc (.cells #[.bool b'2,.slice A'2 n'2 c'2] 194));replace x2a:=((x2a.alloc (.cells #[.bool b2,.slice A2 n2 c2] 194)).alloc (.cells #[.bool b'2,.slice A'2 n'2 c'2] 194));replace x2b:=((x2b.alloc (.cells #[.bool b2,.slice A2 n2 c2] 194)).alloc (.cells #[.bool b'2,.slice A'2 n'2 c'2] 194));have lw3:w2.heap.size+2≤((w2.alloc (.cells #[.bool b2,.slice A2 n2 c2] 194)).alloc (.cells #[.bool b'2,.slice A'2 n'2 c'2] 194)).heap.size:=by simp
 generalize hE3:((w2.alloc (.cells #[.bool b2,.slice A2 n2 c2] 194)).alloc (.cells #[.bool b'2,.slice A'2 n'2 c'2] 194))=w3 at p3 bw3 lw3 x3a x3b x1a x1b x2a x2b ⊢;clear hE3;replace h:=h.keep p3;replace h':=h'.keep p3;replace h1:=h1.keep p3;replace h'1:=h'1.keep p3;replace h2:=h2.keep p3;replace h'2:=h'2.keep p3;clear bw2;have lx1a:=dj x1a.lt;obtain ⟨lx1ba,lx1bb,lx1bc,lx1bd⟩:=dY x1b.lt;have cx2a:=x2a.c2;have lx2a:=dj x2a.lt;have cx2b:=x2b.c2;have lx2b:=dY x2b.lt;have cx3a:=x3a.c2;have lx3a:=dj x3a.lt;have cx3b:=x3b.c2;have lx3b:=dY x3b.lt
 go_region_held3 (fun w'=>Sees w3.heap.size w3 w') (first | with_reducible exact Sees.of Qr (by assumption) | with_reducible exact Sees.of Qr (ae _).drew | exact Sees.of Qr (aa (ae _) 1) | exact Sees.of Qr (aa (by assumption) _))
  (first
   | (go_at_call 199;(with_reducible refine (sg _ b1 A1 n1 c1 ((q).num) ((k)) ?_ b'2 A'2 n'2 c'2 (((q').den:Int)) ((k')) ?_ ?_).mono ?_);(exact h1.iz);(exact h'2.iz);(omega);rintro e w4 ⟨b4,A4,n4,c4,rfl,h4,hb4⟩;replace hb4:=af (aa (ae _) 1) hb4;have q4:Below w3.heap.size w3 w4:=af (ae w3) hb4;replace h:=h.belw hb4;replace h':=h'.belw hb4;replace h1:=h1.belw hb4;replace h'1:=h'1.belw hb4;replace h2:=h2.belw hb4;replace h'2:=h'2.belw hb4)
   | (go_at_call 199;(with_reducible refine (sg _ b2 A2 n2 c2 ((q').num) ((k')) ?_ b'1 A'1 n'1 c'1 (((q).den:Int)) ((k)) ?_ ?_).mono ?_);(exact h2.iz);(exact h'1.iz);(omega);rintro e w5 ⟨b5,A5,n5,c5,rfl,h5,hb5⟩;have q5:Below w3.heap.size w3 w5:=af q4 hb5;replace h:=h.belw hb5;replace h':=h'.belw hb5;replace h1:=h1.belw hb5;replace h'1:=h'1.belw hb5;replace h2:=h2.belw hb5;replace h'2:=h'2.belw hb5;replace h4:=h4.belw hb5)
   | (go_at_call 152;(with_reducible refine (oX _ b4 A4 n4 c4 (((q).num) * (((q').den:Int))) (((k))+((k'))) ?_ b5 A5 n5 c5 (((q').num) * (((q).den:Int))) (((k'))+((k))) ?_ ?_).mono ?_);(exact h4.iz);(exact h5.iz);(omega);rintro e w6 ⟨rfl,hb6⟩;have q6:Below w3.heap.size w3 w6:=af q5 hb6;replace h:=h.belw hb6;replace h':=h'.belw hb6;replace h1:=h1.belw hb6;replace h'1:=h'1.belw hb6;replace h2:=h2.belw hb6;replace h'2:=h'2.belw hb6;replace h4:=h4.belw hb6;replace h5:=h5.belw hb6))
 have bw6:=bw3.trans (q6.mono bw3.size);clear lx1a lx1ba lx1bb lx1bc lx1bd cx2a lx2a cx2b lx2b cx3a lx3a cx3b lx3b;replace x1a:=x1a.b q6;replace x1b:=x1b.b q6;replace x2a:=x2a.b q6;replace x2b:=x2b.b q6;replace x3a:=x3a.b q6;replace x3b:=x3b.b q6;have lw6:=q6.size;go_wp2;go_ret;exact df rfl bw6
end Go.Proofs.YtfilnhompchciaaGreatDoor
namespace Bn
structure TN where
  t:Rat
  h:Bool
deriving DecidableEq
def TN.ok (a:TN):Prop:=a.h=true→a.t=0
/-! ### order -/
def fR (a b:Rat):Int:=if a < b then -1 else if a=b then 0 else 1
theorem bh {a b:Rat}:fR a b=0 ↔ a=b:=by
 unfold fR;split
 ·grind
 split
 ·simpa
 simpa
end Bn

/- Cells that are only read; turns as values. -/
namespace Go.Proofs.YtfilnhompchciaaGreatDoor
open Go Go.RowKit Bn
attribute [local go_sem ↓] Go.wp_at_zero Go.wp_at_succ
def Rd (w:World) (g:Nat) (cs:Array Value):Prop:=g < w.heap.size∧∀ i,i < cs.size→w.cell? ⟨g,i,none⟩=cs[i]?
section
variable {w w':World}{g:Nat}{cs:Array Value}
theorem Rd.lt (h:Rd w g cs):g < w.heap.size:=h.1
theorem Rd.cell (h:Rd w g cs) (i:Nat) (hi:i < cs.size):w.cell? ⟨g,i,none⟩=cs[i]?:=h.2 i hi
theorem Rd.below {B:Nat}(h:Rd w g cs) (hb:Below B w w') (hg:g < B):Rd w' g cs:=by
 refine ⟨?_,fun i hi=>?_⟩
 ·have:=hb.block g hg
  rcases Nat.lt_or_ge g w'.heap.size with h1 | h1
  ·exact h1
  rw [Array.getElem?_eq_none h1,Array.getElem?_eq_getElem h.1] at this;cases this
 rw [← h.2 i hi];unfold World.cell?;rw [hb.block g hg]
theorem Rd.alloc (h:Rd w g cs) (o:Obj):Rd (w.alloc o) g cs:=by
 refine ⟨by have:=h.1;simp;omega,fun i hi=>?_⟩;rw [← h.2 i hi];unfold World.cell?;rw [Below.heap_alloc w o g h.1]
theorem Rd.far (h:Rd w g cs) {p:Addr}(hp:g≠p.block) (u:Value):Rd (w.setCell p u) g cs:=by
 refine ⟨by have:=h.1;simp [World.setCell];exact this,fun i hi=>?_⟩;rw [← h.2 i hi];unfold World.cell?;rw [Below.heap_setCell w p u g hp]
end
abbrev sk (G:Nat) (W0 W:World):Prop:=((∀ b o,b < G→W.cell? ⟨b,o,none⟩=W0.cell? ⟨b,o,none⟩)∧(∀ b o,b < G→W.frozen? ⟨b,o,none⟩=W0.frozen? ⟨b,o,none⟩))∧G≤W.heap.size
theorem sk.of {W0 W:World}(hb:Below W0.heap.size W0 W):sk W0.heap.size W0 W:=Sees.of Qr hb

abbrev kr (G g g':Nat) (W0 W:World):Prop:=((∀ b o,b < G→b≠g→b≠g'→W.cell? ⟨b,o,none⟩=W0.cell? ⟨b,o,none⟩)∧(∀ b o,b < G→W.frozen? ⟨b,o,none⟩=W0.frozen? ⟨b,o,none⟩))∧G≤W.heap.size
theorem kr.of {G g g':Nat}{W0 W:World}(h:G≤W0.heap.size) (hb:Below W0.heap.size W0 W):kr G g g' W0 W :=
 ⟨⟨fun b o hlt _ _=>(bq hb).1 b o (Nat.lt_of_lt_of_le hlt h),fun b o hlt=>(bq hb).2 b o (Nat.lt_of_lt_of_le hlt h)⟩,Nat.le_trans h hb.size⟩
theorem kr.set2 {G g g':Nat}{W0 W:World}(h:kr G g g' W0 W) {i:Nat}{u:Value}:kr G g g' W0 (W.setCell ⟨g',i,none⟩ u):=by
 refine ⟨⟨fun b o hlt hne hne'=>?_,fun b o hlt=>?_⟩,?_⟩
 ·rw [← h.1.1 b o hlt hne hne'];unfold World.cell?;rw [Below.heap_setCell _ _ _ b hne']
 ·rw [← h.1.2 b o hlt];exact World.frozen?_setCell ..
 have:=h.2;simp [World.setCell];exact this
def QK (w:World) (b:Bool) (A:Option Addr) (n c:Nat) (D:Option Addr) (m e:Nat) (q:Rat) (k:Nat):Prop:=∃ a,QD w b A n c D m e a k∧a.q=q∧a.ok=true
section
variable {w w':World}{b x:Bool}{A D:Option Addr}{n c m e k j:Nat}{q:Rat}{t:TN}
theorem QK.qz (h:QK w b A n c D m e q k):QZ w b A n c D m e q k:=by obtain ⟨a,h1,h2,_⟩:=h;exact ⟨a,h1,h2⟩
theorem QV.qk (h:QV w b A n c D m e q k):QK w b A n c D m e q k:=⟨_,h,sy q,oj q⟩
theorem QK.belw (h:QK w b A n c D m e q k) (hb:Below w.heap.size w w'):QK w' b A n c D m e q k:=by obtain ⟨a,h1,h2⟩:=h;exact ⟨a,h1.belw hb,h2⟩
theorem QK.keep (h:QK w b A n c D m e q k) (hb:Kp w w'):QK w' b A n c D m e q k:=by obtain ⟨a,h1,h2⟩:=h;exact ⟨a,h1.keep hb,h2⟩
theorem QK.mono (h:QK w b A n c D m e q k) (hk:k≤j):QK w b A n c D m e q j:=by obtain ⟨a,h1,h2⟩:=h;exact ⟨a,h1.mono hk,h2⟩
def TK (w:World) (b:Bool) (A:Option Addr) (n c:Nat) (D:Option Addr) (m e:Nat) (x:Bool) (t:TN) (k:Nat):Prop:=QK w b A n c D m e t.t k∧x=t.h∧t.ok
def TV (w:World) (b:Bool) (A:Option Addr) (n c:Nat) (D:Option Addr) (m e:Nat) (x:Bool) (t:TN) (k:Nat):Prop:=QV w b A n c D m e t.t k∧x=t.h∧t.ok
theorem TV.tk (h:TV w b A n c D m e x t k):TK w b A n c D m e x t k:=⟨h.1.qk,h.2⟩
theorem TK.belw (h:TK w b A n c D m e x t k) (hb:Below w.heap.size w w'):TK w' b A n c D m e x t k:=⟨h.1.belw hb,h.2⟩
theorem TK.keep (h:TK w b A n c D m e x t k) (hb:Kp w w'):TK w' b A n c D m e x t k:=⟨h.1.keep hb,h.2⟩
theorem TV.belw (h:TV w b A n c D m e x t k) (hb:Below w.heap.size w w'):TV w' b A n c D m e x t k:=⟨h.1.belw hb,h.2⟩
theorem TV.keep (h:TV w b A n c D m e x t k) (hb:Kp w w'):TV w' b A n c D m e x t k:=⟨h.1.keep hb,h.2⟩
theorem TK.mono (h:TK w b A n c D m e x t k) (hk:k≤j):TK w b A n c D m e x t j:=⟨h.1.mono hk,h.2⟩
theorem TK.qk (h:TK w b A n c D m e x t k):QK w b A n c D m e t.t k:=h.1
theorem TK.qz (h:TK w b A n c D m e x t k):QZ w b A n c D m e t.t k:=h.1.qz
theorem TV.qk (h:TV w b A n c D m e x t k):QK w b A n c D m e t.t k:=h.1.qk
theorem TV.qz (h:TV w b A n c D m e x t k):QZ w b A n c D m e t.t k:=h.1.qz
theorem TV.mono (h:TV w b A n c D m e x t k) (hk:k≤j):TV w b A n c D m e x t j:=⟨h.1.mono hk,h.2⟩
end

theorem eV {l:List Bool}{i:Nat}(h:l[i]?=some false):(l.set i true).count false+1=l.count false:=by
 induction l generalizing i with
 | nil=>simp at h
 | cons b l ih =>
  cases i with
  | zero=>simp at h;subst h;simp
  | succ i =>
   simp only [List.getElem?_cons_succ] at h;have:=ih h;simp only [List.set_cons_succ,List.count_cons];omega
section
variable {P:Program}{ops:Array Oper}{Q:Exit→Act→World→Prop}{md:Region.Mode}
theorem iV {L:Array Bool}{i:Nat}(h:i∈Region.ready md ops L):L.toList[i]?=some false:=by
 have h1:=(mem_ready.1 h).1;rcases Nat.lt_or_ge i L.size with h2 | h2
 ·rw [Array.getD_eq_getD_getElem?,Array.getElem?_eq_getElem h2] at h1
  simp only [Option.getD_some] at h1;rw [Array.getElem?_toList,Array.getElem?_eq_getElem h2,h1]
 rw [Array.getD_eq_getD_getElem?,Array.getElem?_eq_none h2] at h1;cases h1
theorem m8 (A:Array Bool→Act→World→Prop)
 (hstep:∀ L a w i,L.size=ops.size→i∈Region.ready md ops L→A L a w→wpOp P ops Q i (A (L.setIfInBounds i true)) a w)
 (hend:∀ L a w,L.size=ops.size→Region.ready md ops L=[]→A L a w→Q .normal a w) :
 ∀ (fuel:Nat) (L:Array Bool) (a:Act) (w:World),L.size=ops.size→L.toList.count false≤fuel→A L a w→wpAny P md ops Q fuel L a w:=by
 intro fuel
 induction fuel with
 | zero =>
  intro L a w hs hc hA
  have hr:Region.ready md ops L=[]:=by
   cases hr:Region.ready md ops L with
   | nil=>rfl
   | cons i r =>
    have h1:=iV (md:=md) (ops:=ops) (L:=L) (i:=i) (by rw [hr];simp);have h2:=eV h1;omega
  exact ⟨hr,hend L a w hs hr hA⟩
 | succ fuel ih =>
  intro L a w hs hc hA;refine ⟨fun hr=>hend L a w hs hr hA,fun i hi=>wpOp_mono (fun a' w' h'=>ih _ _ _ (by simpa using hs) ?_ h') (hstep L a w i hs hi hA)⟩;have h2:=eV (iV hi);rw [Array.toList_setIfInBounds];omega
end
def bN (w:World) (g:Nat):Nat→List Value→World
  | _,[]=>w
  | i,u :: us=>bN (w.setCell ⟨g,i,none⟩ u) g (i+1) us
def rj (c:Array Value):Nat→List Value→Array Value
  | _,[]=>c
  | i,u :: us=>rj (c.setIfInBounds i u) (i+1) us
section
variable {g:Nat}{t:TypeId}
theorem jC {g':Nat}(hg:g'≠g):∀ (us:List Value) (i:Nat) (w:World),(bN w g i us).heap[g']?=w.heap[g']?:=by
 intro us
 induction us with
 | nil=>intro i w;rfl
 | cons u us ih=>intro i w;exact (ih (i+1) _).trans (Below.heap_setCell w ⟨g,i,none⟩ u g' hg)
theorem gz (ht:KT t=false) (us:List Value) (i:Nat) (w:World) (c:Array Value) (hc:noU c=true) (h:Blk w g t c):Kp w (bN w g i us) :=
 fun _ _ _ x=>x.same (jC (x.ne h ht hc) us i w)
theorem fM:∀ (us:List Value) (i:Nat) (w:World) (c:Array Value),Blk w g t c→Blk (bN w g i us) g t (rj c i us):=by
 intro us
 induction us with
 | nil=>intro i w c h;exact h
 | cons u us ih=>intro i w c h;exact ih (i+1) _ _ (h.set_ i u)
theorem cW {g':Nat}{t':TypeId}{c':Array Value}(hg:g'≠g):∀ (us:List Value) (i:Nat) (w:World),Blk w g' t' c'→Blk (bN w g i us) g' t' c':=by
 intro us
 induction us with
 | nil=>intro i w h;exact h
 | cons u us ih=>intro i w h;exact ih (i+1) _ (h.far hg u)
theorem ek {B:Nat}{a:World}(hg:B≤g):∀ (us:List Value) (i:Nat) (w:World),Below B a w→Below B a (bN w g i us):=by
 intro us
 induction us with
 | nil=>intro i w h;exact h
 | cons u us ih=>intro i w h;exact ih (i+1) _ (h.setCell (p:=⟨g,i,none⟩) hg u)
end
theorem eW {g:Nat}:∀ (us:List Value) (i:Nat) (w:World),(bN w g i us).heap.size=w.heap.size:=by
 intro us
 induction us with
 | nil=>intro i w;rfl
 | cons u us ih=>intro i w;rw [bN,ih];simp [World.setCell]
structure Flt where
  a:Nat
  s:Nat
  T:TypeId
  Z:Array Value
  PS:Array Value→World→Prop
  [hZ:NoU Z]
structure Own where
  g:Nat
  s:Nat
  o:Nat
  T:TypeId
  Z:Array Value
  PS:Array Value→World→Prop
  [hZ:NoU Z]
def upd (x:Nat→Value) (i:Nat) (v:Value):Nat→Value:=fun j=>if j=i then v else x j
theorem eX (x:Nat→Value) (i:Nat) (v:Value):upd x i v i=v:=by simp [upd]
theorem bF (x:Nat→Value) {i j:Nat}(v:Value) (h:j≠i):upd x i v j=x j:=by simp [upd,h]

def uJ (ops:Array Oper) (fr:(Nat→Value)→Act) (R:Nat→Value→World→Prop) (es:List Flt) (ow:List Own) (B:Nat) (W:World) (L:Array Bool) (a:Act) (w:World):Prop :=
  ∃ x,a=fr x∧(Kp W w∧Below B W w)∧(∀ i,L.getD i false=true→R i (x i) w) ∧
  (∀ i o,ops[i]?=some o→L.getD i false=true→∀ e∈o.after,Region.binds .any e=true→L.getD e.on false=true) ∧
  (∀ f∈es,L.getD f.a false=true→∃ g c,x f.a=.pointer (some ⟨g,0,none⟩)∧W.heap.size≤g∧Blk w g f.T c∧(L.getD f.s false=false→c=f.Z)∧(L.getD f.s false=true→f.PS c w)) ∧
  (∀ f∈es,∀ f'∈es,f.a≠f'.a→L.getD f.a false=true→L.getD f'.a false=true→x f.a≠x f'.a) ∧
  (∀ f∈ow,∃ c,Blk w f.g f.T c∧(L.getD f.s false=false→c=f.Z)∧(L.getD f.s false=true→f.PS c w))

section
variable (P:Program) (ops:Array Oper) (Q:Exit→Act→World→Prop) (fr:(Nat→Value)→Act) (R:Nat→Value→World→Prop) (es:List Flt) (ow:List Own) (B:Nat) (W:World)
def rk (i:Nat) (o:Oper):Prop:=(∀ f∈es,i≠f.a∧i≠f.s)∧(∀ f∈ow,i≠f.s) ∧
  ∀ x w,Kp W w→(∀ f∈ow,(∀ o',ops[f.s]?=some o'→∃ e∈o'.after,Region.binds .any e=true∧e.on=i)→Blk w f.g f.T f.Z)→(∀ e∈o.after,Region.binds .any e=true→R e.on (x e.on) w)→∀ K':Act→World→Prop,Shut (∀ v w',R i v w'→Below w.heap.size w w'→K' ((fr x).put o.dst v) w') →
    if Region.wanted o (yielded ops (fr x).tmps)=true then Oper.wp P o (fr x) w K' Q else K' ((fr x).put o.dst undef) w
def m9 (i:Nat) (o:Oper):Prop:=∃ f∈es,i=f.a∧(∀ f'∈es,i≠f'.s)∧(∀ f'∈ow,i≠f'.s)∧(∀ f'∈es,f'.a=i→f'=f)∧(∀ v w,R i v w) ∧
  ∀ x w,∀ K':Act→World→Prop,Shut (K' ((fr x).put o.dst (.pointer (some ⟨w.heap.size,0,none⟩))) (w.alloc (.cells f.Z f.T))) →
    if Region.wanted o (yielded ops (fr x).tmps)=true then Oper.wp P o (fr x) w K' Q else K' ((fr x).put o.dst undef) w
def nc (i:Nat) (o:Oper):Prop:=∃ f∈es,i=f.s∧(∀ f'∈es,i≠f'.a)∧(∀ f'∈ow,i≠f'.s)∧(∀ f'∈es,f'.s=i→f'=f)∧(∀ f'∈es,f'.a=f.a→f'=f)∧KT f.T=false∧(∀ v w,R i v w)∧(∃ e∈o.after,Region.binds .any e=true∧e.on=f.a) ∧
  ∀ x w g,x f.a=.pointer (some ⟨g,0,none⟩)→Blk w g f.T f.Z→(∀ e∈o.after,Region.binds .any e=true→R e.on (x e.on) w) →
    ∃ us,(∀ w',Kp w w'→f.PS (rj f.Z 0 us) w')∧∀ K':Act→World→Prop,Shut (∀ v,K' ((fr x).put o.dst v) (bN w g 0 us)) →
      if Region.wanted o (yielded ops (fr x).tmps)=true then Oper.wp P o (fr x) w K' Q else K' ((fr x).put o.dst undef) w
def rl (i:Nat) (o:Oper):Prop:=∃ f∈ow,i=f.s∧(∀ f'∈es,i≠f'.a∧i≠f'.s)∧(∀ f'∈ow,f'.s=i→f'=f)∧KT f.T=false∧(∀ v w,R i v w) ∧
  ∀ x w,Blk w f.g f.T f.Z→(∀ e∈o.after,Region.binds .any e=true→R e.on (x e.on) w) →
    ∃ us,(∀ w',Kp w w'→f.PS (rj f.Z f.o us) w')∧∀ K':Act→World→Prop,Shut (∀ v,K' ((fr x).put o.dst v) (bN w f.g f.o us)) →
      if Region.wanted o (yielded ops (fr x).tmps)=true then Oper.wp P o (fr x) w K' Q else K' ((fr x).put o.dst undef) w
end
theorem ax {L:Array Bool}{i j:Nat}(hi:i < L.size):(L.setIfInBounds i true).getD j false=(decide (j=i) || L.getD j false):=by
 rw [Array.getD_eq_getD_getElem?,Array.getD_eq_getD_getElem?,Array.getElem?_setIfInBounds];by_cases h:i=j
 ·subst h;simp [hi]
 rw [if_neg h];simp [show ¬ j=i from fun e=>h e.symm]
section
variable {P:Program}{ops:Array Oper}{Q:Exit→Act→World→Prop}{fr:(Nat→Value)→Act}{R:Nat→Value→World→Prop}{es:List Flt}{ow:List Own}{B:Nat}
theorem iq {id:Nat}{w:World}{x0:Nat→Value}(hm:P.follows .mixedOrders=true)
 (hput:∀ i o,ops[i]?=some o→∀ x v,(fr x).put o.dst v=fr (upd x i v))
 (hac:∀ i o,ops[i]?=some o→∀ e∈o.after,Region.binds .any e=true→e.on < i)
 (hR:∀ i v w w',R i v w→Kp w w'→R i v w')
 (hPS:∀ f∈es,∀ c w w',f.PS c w→Kp w w'→f.PS c w')
 (hPO:∀ f∈ow,∀ c w w',f.PS c w→Kp w w'→f.PS c w')
 (hfs:∀ f∈es,f.a < ops.size∧f.s < ops.size)
 (hB:B≤w.heap.size)
 (hO:∀ f∈ow,Blk w f.g f.T f.Z∧B≤f.g)
 (hOd:∀ f∈ow,∀ f'∈ow,f.g=f'.g→f=f')
 (hstep:∀ i o,ops[i]?=some o→rk P ops Q fr R es ow w i o∨m9 P ops Q fr R es ow i o∨nc P ops Q fr R es ow i o∨rl P ops Q fr R es ow i o)
 (hend:∀ x w',Kp w w'→Below B w w'→w.heap.size≤w'.heap.size→(∀ f∈ow,∃ c,Blk w' f.g f.T c∧(ops.size≤f.s→c=f.Z)∧(f.s < ops.size→f.PS c w'))→(∀ i,i < ops.size→R i (x i) w')→(∀ f∈es,∃ g c,x f.a=.pointer (some ⟨g,0,none⟩)∧w.heap.size≤g∧Blk w' g f.T c∧f.PS c w')→(∀ f∈es,∀ f'∈es,f.a≠f'.a→x f.a≠x f'.a)→Q .normal (fr x) w') :
 (Code.region id ops true).wp P Q (fr x0) w:=by
 refine wp_region_any hm (m8 (fun L a w'=>w.heap.size≤w'.heap.size∧uJ ops fr R es ow B w L a w') ?_ ?_ _ _ _ _ (by simp) ?_ ?_)
 ·rintro L a w1 i hs hi ⟨hsz,x,rfl,⟨hkW,hb⟩,hr,hcl,hf,hd,how⟩
  obtain ⟨hun,o,ho,hall⟩:=mem_ready.1 hi
  have hlt:i < L.size:=by
   rcases Nat.lt_or_ge i L.size with h | h
   ·exact h
   rw [Array.getD_eq_getD_getElem?,Array.getElem?_eq_none h] at hun;cases hun
  have hunf:L.getD i false=false:=by
   rw [Array.getD_eq_getD_getElem?,Array.getElem?_eq_getElem hlt] at hun ⊢;exact hun
  have hdep:∀ e∈o.after,Region.binds .any e=true→R e.on (x e.on) w1:=fun e he hbd=>hr _ (hall e he hbd)
  have hcl':∀ i' o',ops[i']?=some o'→(L.setIfInBounds i true).getD i' false=true→∀ e∈o'.after,Region.binds .any e=true→(L.setIfInBounds i true).getD e.on false=true:=by
   intro i' o' ho' hl e he hbd;rw [ax hlt] at hl ⊢;by_cases h:i'=i
   ·subst h;rw [ho] at ho';injection ho' with ho';subst ho'
    rw [hall e he hbd];simp
   have:L.getD i' false=true:=by simpa [h] using hl
   rw [hcl i' o' ho' this e he hbd];simp
  refine wpOp_step ho fun K' hK=>?_
  have hsno:∀ f∈ow,(∀ o',ops[f.s]?=some o'→∃ e∈o'.after,Region.binds .any e=true∧e.on=i)→Blk w1 f.g f.T f.Z:=by
   intro f hfo hdd;obtain ⟨c,c1,c2,_⟩:=how f hfo
   have:L.getD f.s false=false:=by
    cases h:L.getD f.s false
    ·rfl
    exfalso
    have hlt2:f.s < ops.size:=by
     rcases Nat.lt_or_ge f.s L.size with h2 | h2
     ·omega
     rw [Array.getD_eq_getD_getElem?,Array.getElem?_eq_none h2] at h;cases h
    obtain ⟨e,he,hbd,hea⟩:=hdd _ (Array.getElem?_eq_getElem hlt2);have:=hcl f.s _ (Array.getElem?_eq_getElem hlt2) h e he hbd;rw [hea,hunf] at this;cases this
   rw [← c2 this];exact c1
  have howk:∀ w',Kp w1 w'→(∀ g t c,Blk w1 g t c→(∃ f∈ow,f.g=g)→Blk w' g t c)→(∀ f∈ow,i≠f.s)→∀ f∈ow,∃ c,Blk w' f.g f.T c∧((L.setIfInBounds i true).getD f.s false=false→c=f.Z)∧((L.setIfInBounds i true).getD f.s false=true→f.PS c w'):=by
   intro w' hkp hbl hne f hfo;obtain ⟨c,c1,c2,c3⟩:=how f hfo;have n2:=hne f hfo;refine ⟨c,hbl _ _ _ c1 ⟨f,hfo,rfl⟩,fun h=>c2 ?_,fun h=>hPO f hfo _ _ _ (c3 ?_) hkp⟩
   ·rw [ax hlt] at h;simpa [Ne.symm n2] using h
   rw [ax hlt] at h;simpa [Ne.symm n2] using h
  rcases hstep i o ho with ⟨hno,hnow,hv⟩ | ⟨f,hf1,rfl,hnos,hnow,huniq,hRi,hv⟩ | ⟨f,hf1,rfl,hnoa,hnow,huniq,huniqa,hT,hRi,⟨e,he,hbd,hea⟩,hv⟩ | ⟨f,hf1,rfl,hnoe,huniq,hT,hRi,hv⟩
  ·refine hv x w1 hkW hsno hdep K' (fun v w' hRv hbw=>hK _ _ ?_)
   have hkp:Kp w1 w':=(Kp.refl w1).below hbw;refine ⟨Nat.le_trans hsz hbw.size,upd x i v,hput i o ho x v,⟨hkW.trans hkp,hb.trans (hbw.mono (Nat.le_trans hB hsz))⟩,fun j hj=>?_,hcl',fun f hfe hfa=>?_,fun f hfe f' hfe' hne h1 h2=>?_,howk w' hkp (fun g t c h _=>h.below hbw h.lt) hnow⟩
   ·by_cases h:j=i
    ·subst h;rw [eX];exact hRv
    rw [bF _ _ h];rw [ax hlt] at hj;exact hR _ _ _ _ (hr j (by simpa [h] using hj)) hkp
   ·rw [ax hlt] at hfa
    have n1:=(hno f hfe).1;have n2:=(hno f hfe).2;rw [bF _ _ (Ne.symm n1)];obtain ⟨g,c,e1,e2,e3,e4,e5⟩:=hf f hfe (by simpa [Ne.symm n1] using hfa);refine ⟨g,c,e1,e2,e3.below hbw e3.lt,fun h=>e4 ?_,fun h=>hPS f hfe _ _ _ (e5 ?_) hkp⟩
    ·rw [ax hlt] at h;simpa [Ne.symm n2] using h
    rw [ax hlt] at h;simpa [Ne.symm n2] using h
   rw [ax hlt] at h1 h2;have n1:=(hno f hfe).1;have n2:=(hno f' hfe').1;rw [bF _ _ (Ne.symm n1),bF _ _ (Ne.symm n2)];exact hd f hfe f' hfe' hne (by simpa [Ne.symm n1] using h1) (by simpa [Ne.symm n2] using h2)
  ·refine hv x w1 K' (hK _ _ ?_)
   have hkp:Kp w1 (w1.alloc (.cells f.Z f.T)):=(Kp.refl w1).alloc _
   have hsl:L.getD f.s false=false:=by
    cases h:L.getD f.s false
    ·rfl
    exfalso;obtain ⟨o',ho'⟩:∃ o',ops[f.s]?=some o':=⟨_,Array.getElem?_eq_getElem (hfs f hf1).2⟩;rcases hstep f.s o' ho' with ⟨hno,_⟩ | ⟨f2,hf2,e2,hnos2,_⟩ | ⟨f2,hf2,e2,_,_,hu2,_,_,_,⟨e,he,hbd,hea⟩,_⟩ | ⟨f2,hf2,e2,hno2,_⟩
    ·exact (hno f hf1).2 rfl
    ·exact hnos2 f hf1 rfl
    ·have:=hu2 f hf1 rfl
     subst this;have:=hcl f.s o' ho' h e he hbd;rw [hea] at this;rw [this] at hunf;cases hunf
    exact (hno2 f hf1).2 rfl
   refine ⟨by simp;omega,upd x f.a _,hput f.a o ho x _,⟨hkW.alloc _,hb.alloc (Nat.le_trans hB hsz) _⟩,fun j hj=>?_,hcl',fun f' hfe hfa=>?_,fun f1 hfe f2 hfe' hne h1 h2=>?_,howk _ hkp (fun g t c h _=>h.alloc _) hnow⟩
   ·by_cases h:j=f.a
    ·subst h;exact hRi _ _
    rw [bF _ _ h];rw [ax hlt] at hj;exact hR _ _ _ _ (hr j (by simpa [h] using hj)) hkp
   ·by_cases h:f'.a=f.a
    ·have:=huniq f' hfe h
     subst this;rw [eX];refine ⟨_,_,rfl,hsz,Blk.new _ _ _,fun _=>rfl,fun h'=>?_⟩;rw [ax hlt,hsl] at h';have:f'.s=f'.a:=by simpa using h'
     exact absurd this.symm (hnos f' hfe)
    rw [bF _ _ h];rw [ax hlt] at hfa;have n2:=hnos f' hfe;obtain ⟨g,c,e1,e2,e3,e4,e5⟩:=hf f' hfe (by simpa [h] using hfa);refine ⟨g,c,e1,e2,e3.alloc _,fun h=>e4 ?_,fun h=>hPS f' hfe _ _ _ (e5 ?_) hkp⟩
    ·rw [ax hlt] at h;simpa [Ne.symm n2] using h
    rw [ax hlt] at h;simpa [Ne.symm n2] using h
   rw [ax hlt] at h1 h2
   have fresh:∀ f3∈es,f3.a≠f.a→L.getD f3.a false=true→x f3.a≠.pointer (some ⟨w1.heap.size,0,none⟩):=by
    intro f3 h3 hne3 hl3 heq;obtain ⟨g,c,e1,e2,e3,_⟩:=hf f3 h3 hl3;rw [e1] at heq;have hg:=e3.lt;injection heq with heq;injection heq with heq;injection heq with heq;omega
   by_cases c1:f1.a=f.a
   ·have c2:f2.a≠f.a:=fun h=>hne (c1.trans h.symm)
    rw [c1,eX,bF _ _ c2];exact (fresh f2 hfe' c2 (by simpa [c2] using h2)).symm
   rw [bF _ _ c1];by_cases c2:f2.a=f.a
   ·rw [c2,eX];exact fresh f1 hfe c1 (by simpa [c1] using h1)
   rw [bF _ _ c2];exact hd f1 hfe f2 hfe' hne (by simpa [c1] using h1) (by simpa [c2] using h2)
  ·have hal:L.getD f.a false=true:=by rw [← hea];exact hall e he hbd
   obtain ⟨g,c,e1,e2,e3,e4,e5⟩:=hf f hf1 hal;have hc:=e4 hunf;subst hc;obtain ⟨us,hus,hv⟩:=hv x w1 g e1 e3 hdep;refine hv K' (fun v=>hK _ _ ?_);have hkp:Kp w1 (bN w1 g 0 us):=gz hT us 0 w1 _ f.hZ.h e3;have hnb:∀ f3∈es,f3.a≠f.s:=fun f3 h3 h=>hnoa f3 h3 h.symm
   refine ⟨Nat.le_trans hsz (Nat.le_of_eq (eW us 0 w1).symm),upd x f.s v,hput f.s o ho x v,⟨hkW.trans hkp,ek (Nat.le_trans hB e2) us 0 w1 hb⟩,fun j hj=>?_,hcl',fun f' hfe hfa=>?_,fun f1 hfe f2 hfe' hne h1 h2=>?_,howk _ hkp (fun g2 t c h hex=>cW (by obtain ⟨f2,h2,rfl⟩:=hex;have:=(hO f2 h2).1.lt;omega) us 0 w1 h) hnow⟩
   ·by_cases h:j=f.s
    ·subst h;exact hRi _ _
    rw [bF _ _ h];rw [ax hlt] at hj;exact hR _ _ _ _ (hr j (by simpa [h] using hj)) hkp
   ·rw [bF _ _ (hnb f' hfe)]
    rw [ax hlt] at hfa;by_cases h:f'.a=f.a
    ·have:=huniqa f' hfe h
     subst this;refine ⟨g,_,e1,e2,fM us 0 w1 _ e3,fun h'=>?_,fun _=>hus _ hkp⟩;rw [ax hlt] at h';simp at h'
    have n2:f'.s≠f.s:=fun h2=>h (by rw [huniq f' hfe h2])
    obtain ⟨g',c',d1,d2,d3,d4,d5⟩:=hf f' hfe (by simpa [hnb f' hfe] using hfa)
    have hgg:g'≠g:=by
     rintro rfl;exact hd f' hfe f hf1 h (by simpa [hnb f' hfe] using hfa) hal (d1.trans e1.symm)
    refine ⟨g',c',d1,d2,cW hgg us 0 w1 d3,fun h=>d4 ?_,fun h=>hPS f' hfe _ _ _ (d5 ?_) hkp⟩
    ·rw [ax hlt] at h;simpa [n2] using h
    rw [ax hlt] at h;simpa [n2] using h
   rw [ax hlt] at h1 h2;rw [bF _ _ (hnb f1 hfe),bF _ _ (hnb f2 hfe')];exact hd f1 hfe f2 hfe' hne (by simpa [hnb f1 hfe] using h1) (by simpa [hnb f2 hfe'] using h2)
  obtain ⟨c,c1,c2,_⟩:=how f hf1;have hc:=c2 hunf;subst hc;obtain ⟨us,hus,hv⟩:=hv x w1 c1 hdep;refine hv K' (fun v=>hK _ _ ?_);have hkp:Kp w1 (bN w1 f.g f.o us):=gz hT us f.o w1 _ f.hZ.h c1;have hna:∀ f3∈es,f3.a≠f.s:=fun f3 h3 h=>(hnoe f3 h3).1 h.symm
  have hns:∀ f3∈es,f3.s≠f.s:=fun f3 h3 h=>(hnoe f3 h3).2 h.symm
  have hgl:=(hO f hf1).1.lt;refine ⟨Nat.le_trans hsz (Nat.le_of_eq (eW us f.o w1).symm),upd x f.s v,hput f.s o ho x v,⟨hkW.trans hkp,ek (hO f hf1).2 us f.o w1 hb⟩,fun j hj=>?_,hcl',fun f' hfe hfa=>?_,fun f1 hfe f2 hfe' hne h1 h2=>?_,fun f' hfo=>?_⟩
  ·by_cases h:j=f.s
   ·subst h;exact hRi _ _
   rw [bF _ _ h];rw [ax hlt] at hj;exact hR _ _ _ _ (hr j (by simpa [h] using hj)) hkp
  ·rw [bF _ _ (hna f' hfe)]
   rw [ax hlt] at hfa;have n2:=hns f' hfe;obtain ⟨g',c',d1,d2,d3,d4,d5⟩:=hf f' hfe (by simpa [hna f' hfe] using hfa);refine ⟨g',c',d1,d2,cW (by omega) us f.o w1 d3,fun h=>d4 ?_,fun h=>hPS f' hfe _ _ _ (d5 ?_) hkp⟩
   ·rw [ax hlt] at h;simpa [n2] using h
   rw [ax hlt] at h;simpa [n2] using h
  ·rw [ax hlt] at h1 h2
   rw [bF _ _ (hna f1 hfe),bF _ _ (hna f2 hfe')];exact hd f1 hfe f2 hfe' hne (by simpa [hna f1 hfe] using h1) (by simpa [hna f2 hfe'] using h2)
  by_cases h:f'.s=f.s
  ·have:=huniq f' hfo h
   subst this;refine ⟨_,fM us f'.o w1 _ c1,fun h'=>?_,fun _=>hus _ hkp⟩;rw [ax hlt] at h';simp at h'
  obtain ⟨c',d3,d4,d5⟩:=how f' hfo;have hgg:f'.g≠f.g:=fun h2=>h (by rw [hOd f' hfo f hf1 h2])
  refine ⟨c',cW hgg us f.o w1 d3,fun h2=>d4 ?_,fun h2=>hPO f' hfo _ _ _ (d5 ?_) hkp⟩
  ·rw [ax hlt] at h2;simpa [h] using h2
  rw [ax hlt] at h2;simpa [h] using h2
 ·rintro L a w1 hs hr0 ⟨hsz,x,rfl,⟨hkW,hb⟩,hr,hcl,hf,hd,how⟩
  have hallL:∀ i,i < ops.size→L.getD i false=true:=by
   intro i
   induction i using Nat.strongRecOn with
   | ind i ih =>
    intro hi;cases h:L.getD i false
    ·exfalso
     have:i∈Region.ready .any ops L:=by
      refine mem_ready.2 ⟨?_,ops[i],Array.getElem?_eq_getElem hi,fun e he hbd=>?_⟩
      ·rw [Array.getD_eq_getD_getElem?,Array.getElem?_eq_getElem (by omega)] at h ⊢;exact h
      have h1:=hac i _ (Array.getElem?_eq_getElem hi) e he hbd;exact ih e.on h1 (by omega)
     rw [hr0] at this;cases this
    rfl
  refine hend x w1 hkW hb hsz (fun f hfo=>?_) (fun i hi=>hr i (hallL i hi)) (fun f hfe=>?_) (fun f hfe f' hfe' hne=>hd f hfe f' hfe' hne (hallL _ (hfs f hfe).1) (hallL _ (hfs f' hfe').1))
  ·obtain ⟨c,c1,c2,c3⟩:=how f hfo
   refine ⟨c,c1,fun h=>c2 ?_,fun h=>c3 (hallL _ h)⟩;rw [Array.getD_eq_getD_getElem?,Array.getElem?_eq_none (by omega)];rfl
  obtain ⟨g,c,e1,e2,e3,_,e5⟩:=hf f hfe (hallL _ (hfs f hfe).1);exact ⟨g,c,e1,e2,e3,e5 (hallL _ (hfs f hfe).2)⟩
 ·simp
 ·have hz:∀ j,(Array.replicate ops.size false).getD j false=false:=by
   intro j;rw [Array.getD_eq_getD_getElem?,Array.getElem?_replicate];split <;> rfl
  refine ⟨Qr,x0,rfl,⟨(Kp.refl w).drew,(Below.refl B w).drew⟩,fun i h=>?_,fun i o _ h=>?_,fun f _ h=>?_,fun f _ f' _ _ h=>?_,fun f hfo=>⟨_,(hO f hfo).1.drew,fun _=>rfl,fun h=>?_⟩⟩ <;> rw [hz] at h <;> cases h
end

theorem rm {ow:List Own}(h:ow.Pairwise (fun f f'=>f.g≠f'.g)):∀ f∈ow,∀ f'∈ow,f.g=f'.g→f=f':=by
 induction ow with
 | nil=>intro f hf;cases hf
 | cons a l ih =>
  obtain ⟨h1,h2⟩:=List.pairwise_cons.1 h;intro f hf f' hf' he;rcases List.mem_cons.1 hf with h3 | h3
  ·rcases List.mem_cons.1 hf' with h4 | h4
   ·rw [h3,h4]
   exact absurd (h3 ▸ he) (h1 _ h4)
  rcases List.mem_cons.1 hf' with h4 | h4
  ·exact absurd (h4 ▸ he).symm (h1 _ h3)
  exact ih h2 f h3 f' h4 he
def eY (S:Nat→Oper→Prop):Nat→List Oper→Prop
  | _,[]=>True
  | k,o :: l=>S k o∧eY S (k+1) l
theorem nf {S:Nat→Oper→Prop}:∀ (l:List Oper) (k:Nat),eY S k l→∀ i o,l[i]?=some o→S (k+i) o:=by
 intro l
 induction l with
 | nil=>intro k _ i o h;simp at h
 | cons a l ih =>
  intro k h i o ho
  cases i with
  | zero=>simp at ho;subst ho;exact h.1
  | succ i =>
   have:=ih (k+1) h.2 i o (by simpa using ho);rw [show k+(i+1)=k+1+i by omega];exact this
theorem jD {S:Nat→Oper→Prop}{l:List Oper}(h:eY S 0 l):∀ i o,(l.toArray)[i]?=some o→S i o:=fun i o ho=>by
 have:=nf l 0 h i o (by simpa using ho);rwa [Nat.zero_add] at this
def ph:Nat→List Oper→Bool
  | _,[]=>true
  | k,o :: l=>o.after.all (fun e=>!Region.binds .any e || decide (e.on < k)) && ph (k+1) l
theorem ng:∀ (l:List Oper) (k:Nat),ph k l=true→eY (fun i o=>∀ e∈o.after,Region.binds .any e=true→e.on < i) k l:=by
 intro l
 induction l with
 | nil=>intro k _;trivial
 | cons a l ih =>
  intro k h;simp only [ph,Bool.and_eq_true] at h;refine ⟨fun e he hb=>?_,ih _ h.2⟩;have:=(Array.all_eq_true_iff_forall_mem.1 h.1) e he;rw [hb] at this;simpa using this
def pi (p:Value→World→Prop):Prop:=∀ v w w',p v w→Kp w w'→p v w'
def fY:List (Value→World→Prop)→Prop
  | []=>True
  | p :: l=>pi p∧fY l
theorem fY.get:∀ (l:List (Value→World→Prop)),fY l→∀ i v w w',l.getD i (fun _ _=>True) v w→Kp w w'→l.getD i (fun _ _=>True) v w':=by
 intro l
 induction l with
 | nil=>intro _ i v w w' _ _;simp
 | cons p l ih =>
  intro h i v w w' hp hk
  cases i with
  | zero=>exact h.1 v w w' hp hk
  | succ i=>exact ih h.2 i v w w' hp hk
def PEq (u:Value):Value→World→Prop:=fun v _=>v=u
def ua:Value→World→Prop:=fun _ _=>True
def VI (z:Int) (k:Nat):Value→World→Prop:=fun v w=>∃ b A n c,v=.agg #[.bool b,.slice A n c]∧IV w b A n c z k
def VQ (q:Rat) (k:Nat):Value→World→Prop:=fun v w=>∃ b A n c D m e,v=.agg #[.bool b,.slice A n c,.slice D m e]∧QV w b A n c D m e q k
theorem nh (u:Value):pi (PEq u):=fun _ _ _ h _=>h
theorem ub:pi ua:=fun _ _ _ h _=>h
theorem stI (z:Int) (k:Nat):pi (VI z k):=fun _ _ _ ⟨b,A,n,c,e,h⟩ hk=>⟨b,A,n,c,e,h.keep hk⟩
theorem stQ (q:Rat) (k:Nat):pi (VQ q k):=fun _ _ _ ⟨b,A,n,c,D,m,e,h0,h⟩ hk=>⟨b,A,n,c,D,m,e,h0,h.keep hk⟩
def CQ (q:Rat) (k:Nat):Array Value→World→Prop:=fun v w=>∃ b A n c D m e,v=#[.bool b,.slice A n c,.slice D m e]∧QV w b A n c D m e q k
def ks:Array Value→World→Prop:=fun _ _=>True
theorem iW:∀ c w w',ks c w→Kp w w'→ks c w':=fun _ _ _ h _=>h
theorem scQ (q:Rat) (k:Nat):∀ c w w',CQ q k c w→Kp w w'→CQ q k c w':=fun _ _ _ ⟨b,A,n,c,D,m,e,h0,h⟩ hk=>⟨b,A,n,c,D,m,e,h0,h.keep hk⟩
def PV (w:World) (b:Bool) (A:Option Addr) (n c:Nat) (D:Option Addr) (m e:Nat) (b':Bool) (A':Option Addr) (n' c':Nat) (D':Option Addr) (m' e':Nat) (q:Rat) (k:Nat) (r:Rat) (j:Nat):Prop:=QV w b A n c D m e q k∧QV w b' A' n' c' D' m' e' r j
theorem PV.keep {w w':World}{b b':Bool}{A D A' D':Option Addr}{n c m e n' c' m' e' k j:Nat}{q r:Rat}(h:PV w b A n c D m e b' A' n' c' D' m' e' q k r j) (hk:Kp w w'):PV w' b A n c D m e b' A' n' c' D' m' e' q k r j:=⟨h.1.keep hk,h.2.keep hk⟩
theorem PV.belw {w w':World}{b b':Bool}{A D A' D':Option Addr}{n c m e n' c' m' e' k j:Nat}{q r:Rat}(h:PV w b A n c D m e b' A' n' c' D' m' e' q k r j) (hk:Below w.heap.size w w'):PV w' b A n c D m e b' A' n' c' D' m' e' q k r j:=⟨h.1.belw hk,h.2.belw hk⟩
theorem dT (w:World) (b:Bool) (A:Option Addr) (n c:Nat) (D:Option Addr) (m e:Nat) (a:RD) (k:Nat) (v:Bool) (h:QD w b A n c D m e a k) (hk:k≤300000000) (hv:a.ok=v) :
 Calls Tryz.prog 135 #[.agg #[.bool b,.slice A n c,.slice D m e]] w (aw w (.bool v)):=by subst hv;exact ri w b A n c D m e a k h hk
theorem iX (w:World) (b A n c D m e a k) (h:QD w b A n c D m e a k) (h0:0 < k) (hk:k≤300000000) (ho:a.ok=false∨n=0):Calls Tryz.prog 184 #[.agg #[.bool b,.slice A n c,.slice D m e]] w (iP w a.q.num a.q.den k):=by
 obtain ⟨v,hv⟩:∃ v,a.ok=v:=⟨_,rfl⟩;have hq:a.q.num=0∧(a.q.den:Int)=1:=sj (ho.imp id fun hn=>List.eq_nil_of_length_eq_zero (by rw [← h.2.1.2.1,hn]));rw [hq.1,hq.2];have en:v=true→((n:Int) == 0)=true:=fun e=>by rcases ho with h | h;rw [h] at hv;rw [← hv] at e;cases e;simp [h]
 have HV:=Qh hv;have H:=Qh h;clear hq hv ho h;go_in;go_upto_region 1 with fail;refine gq ?_;intro w1 hw1;have k1:B3 w w.heap.size 65 #[.bool b,.slice A n c,.slice D m e] 194 #[.bool false,.slice none 0 0] 194 #[.bool false,.slice none 0 0] w1:=by rw [hw1];exact ⟨((Blk.new w _ _).alloc _).alloc _,(ai _ _ _ (by simp)).alloc _,ai _ _ _ (by simp),(((ae w).alloc Qr _).alloc (by simp) _).alloc (by simp <;> omega) _⟩
 clear hw1;have y:=k1.s.v3;go_wp2_with fail;(refine (dT _ b A n c D m e a k v (H.out.belw k1.q) hk HV.out).mono ?_);rintro e w2 ⟨rfl,hb2⟩;replace k1:=k1.call hb2;clear hb2 y;have y:=k1.s.v3;have key:∀ {P:Prop},(v=false→P)→(v=true→((n:Int) == 0)=true→P)→P:=fun h1 h2=>by cases v;exact h1 rfl;exact h2 rfl (en rfl)
 clear en;refine key (fun hv=>?_) (fun hv e1=>?_)
 all_goals
  subst hv;go_wp2_with fail;(refine (si _).mono ?_);rintro e w3 ⟨b2,A2,n2,c2,rfl,h2,hb3⟩;replace k1:=k1.call hb3;clear hb3 y;have y:=And.intro k1.t.v2 k1.r.v2;go_wp2_with fail;refine bodyPost_ret (v:=.tuple #[.agg #[.bool false,.slice none 0 0],.agg #[.bool b2,.slice A2 n2 c2]]) (by simp [results,Tryz.results184,go_sem, *] <;> trivial) rfl ?_;have k2:=k1.p1 (.bool false) (.slice none 0 0);exact ⟨_,_,_,_,_,_,_,_,rfl,IV.zero _ _,(h2.keep ((k1.t.k2 (by decide) _ _).trans (k2.r.k2 (by decide) _ _))).mono (by omega),(k2.p2 _ _).q⟩
theorem ni (w:World) (b A n c D m e a k) (h:QD w b A n c D m e a k) (_:0 < k) (hk:k≤300000000) (ho:a.ok=true) (hn:a.num≠[]):Calls Tryz.prog 184 #[.agg #[.bool b,.slice A n c,.slice D m e]] w (iP w a.q.num a.q.den k):=by
 have HE:=Qh (t7 h.2.1.1 h.2.2.1.1 ho hn);have hnp:0 < n:=by rcases Nat.eq_zero_or_pos n with h1 | h1;exact absurd (List.eq_nil_of_length_eq_zero (by rw [← h.2.1.2.1,h1])) hn;exact h1
 have en:((n:Int) == 0)=false:=by simp;omega
 have HO:=Qh ho;clear ho hn;go_in;go_upto_region 1 with fail;refine gq ?_;intro w1 hw1;have k1:B3 w w.heap.size 65 #[.bool b,.slice A n c,.slice D m e] 194 #[.bool false,.slice none 0 0] 194 #[.bool false,.slice none 0 0] w1:=by rw [hw1];exact ⟨((Blk.new w _ _).alloc _).alloc _,(ai _ _ _ (by simp)).alloc _,ai _ _ _ (by simp),(((ae w).alloc Qr _).alloc (by simp) _).alloc (by simp <;> omega) _⟩
 clear hw1;have y:=k1.s.v3;go_wp2_with fail;(refine (dT _ b A n c D m e a k true (h.belw k1.q) hk HO.out).mono ?_);rintro e' w2 ⟨rfl,hb2⟩;replace k1:=k1.call hb2;replace h:=h.belw k1.q;clear hb2 y;have y:=And.intro k1.s.v3 (And.intro k1.t.v2 k1.r.v2);go_wp2_with fail;have k2:=(k1.p1 (.bool b) (.slice A n c)).p2 (.bool false) (.slice D m e);have kp:=(k1.t.k2 (by decide) (.bool b) (.slice A n c)).trans ((k1.p1 (.bool b) (.slice A n c)).r.k2 (by decide) (.bool false) (.slice D m e));have k3:=(k1.p2 (.bool false) (.slice D m e)).p1 (.bool b) (.slice A n c);have kp3:=(k1.r.k2 (by decide) (.bool false) (.slice D m e)).trans ((k1.p2 (.bool false) (.slice D m e)).t.k2 (by decide) (.bool b) (.slice A n c));go_region
 all_goals
  go_wp2_with fail;refine bodyPost_ret (v:=.tuple #[.agg #[.bool b,.slice A n c],.agg #[.bool false,.slice D m e]]) (by simp [results,Tryz.results184,go_sem, *] <;> trivial) rfl ?_;obtain ⟨e1,e2,e3⟩:=HE.out
  first
   | exact ⟨b,A,n,c,false,D,m,e,rfl,⟨h.1.symm.trans e2,e1 ▸ h.2.1.keep kp,h.2.2.2.1⟩,⟨by simp [wh],e3 ▸ h.2.2.1.keep kp,h.2.2.2.2⟩,k2.q⟩
   | exact ⟨b,A,n,c,false,D,m,e,rfl,⟨h.1.symm.trans e2,e1 ▸ h.2.1.keep kp.drew,h.2.2.2.1⟩,⟨by simp [wh],e3 ▸ h.2.2.1.keep kp.drew,h.2.2.2.2⟩,k2.q.drew⟩
   | exact ⟨b,A,n,c,false,D,m,e,rfl,⟨h.1.symm.trans e2,e1 ▸ h.2.1.keep kp3.drew,h.2.2.2.1⟩,⟨by simp [wh],e3 ▸ h.2.2.1.keep kp3.drew,h.2.2.2.2⟩,k3.q.drew⟩
theorem fZ (w:World) (b A n c D m e q k) (h:QZ w b A n c D m e q k) (h0:0 < k) (hk:k≤300000000) :
 Calls Tryz.prog 184 #[.agg #[.bool b,.slice A n c,.slice D m e]] w (iP w q.num q.den k):=by
 obtain ⟨a,h,rfl⟩:=h;cases ho:a.ok
 ·exact iX w b A n c D m e a k h h0 hk (.inl ho)
 by_cases hn:n=0
 ·exact iX w b A n c D m e a k h h0 hk (.inr hn)
 exact ni w b A n c D m e a k h h0 hk ho (h.num_ne (by omega))
theorem sZ (w:World) (b A n c D m e q k) (h:QZ w b A n c D m e q k) (h0:0 < k) (hk:k≤40000000) :
 Calls Tryz.prog 174 #[.agg #[.bool b,.slice A n c,.slice D m e]] w (aw w (.int .i64 q.num.sign)):=by
 go_in;go_wp2_with fail;(with_reducible refine (fZ _ b A n c D m e (q) (k) ?_ ?_ ?_).mono ?_);(exact (h.belw ((Below.refl _ _).alloc Qr _)));(omega);(omega);rintro e w1 ⟨b1,A1,n1,c1,b'1,A'1,n'1,c'1,rfl,h1,h'1,hb1⟩;have q1:=hb1.q1;replace h:=h.belw q1;have x1a:Blk w1 w.heap.size 65 #[.bool b,.slice A n c,.slice D m e]:=(ai _ _ _ (by simp)).below hb1 (by simp);have bw1:=(ae w).trans (q1.mono (ae w).size);have lw1:=hb1.l1;clear q1;go_wp2_with fail;(with_reducible refine (gy _ b1 A1 n1 c1 ((q).num) ((k)) ?_ ?_).mono ?_);(exact (h1.belw (((Below.refl _ _).alloc Qr _).alloc (by simp) _)).iz);(omega);rintro e w2 ⟨rfl,hb2⟩;have q2:=hb2.q2;replace h:=h.belw q2;replace h1:=h1.belw q2;replace h'1:=h'1.belw q2;replace x1a:=x1a.b q2;have x2a:Blk w2 w1.heap.size 194 #[.bool b1,.slice A1 n1 c1]:=((ai _ _ _ (by simp)).alloc _).below hb2 (by simp <;> omega);have x2b:=(ai _ _ _ (g:=w1.heap.size+1) (by simp)).below hb2 (by simp);have bw2:=bw1.trans (q2.mono bw1.size);have lw2:=hb2.l2;clear q2 bw1;go_wp2;go_ret;exact df rfl bw2
theorem QK.qv {w:World}{b:Bool}{A D:Option Addr}{n c m e k:Nat}{q:Rat}(h:QK w b A n c D m e q k):QV w b A n c D m e q k:=by
 obtain ⟨a,h1,rfl,h2⟩:=h;unfold QV;rw [kb h1.2.1.1 h1.2.2.1.1 h2];exact h1
theorem TK.tv {w:World}{b x:Bool}{A D:Option Addr}{n c m e k:Nat}{t:TN}(h:TK w b A n c D m e x t k):TV w b A n c D m e x t k:=⟨h.1.qv,h.2⟩
def Ts (w:World) (g n k:Nat):Prop:=g < w.heap.size∧∀ i,i < n→∃ b A m c D m' e x t,w.cell? ⟨g,i * 4,none⟩=some (.bool b)∧w.cell? ⟨g,i * 4+1,none⟩=some (.slice A m c)∧w.cell? ⟨g,i * 4+2,none⟩=some (.slice D m' e)∧w.cell? ⟨g,i * 4+3,none⟩=some (.bool x)∧TK w b A m c D m' e x t k
theorem Ts.belw {w w':World}{g n k:Nat}(h:Ts w g n k) (hb:Below w.heap.size w w'):Ts w' g n k:=by
 obtain ⟨hg,h⟩:=h;have hc:=(bq hb).1;refine ⟨Nat.lt_of_lt_of_le hg hb.size,fun i hi=>?_⟩;obtain ⟨b,A,m,c,D,m',e,x,t,h1,h2,h3,h4,h5⟩:=h i hi;exact ⟨b,A,m,c,D,m',e,x,t,(hc _ _ hg).trans h1,(hc _ _ hg).trans h2,(hc _ _ hg).trans h3,(hc _ _ hg).trans h4,h5.belw hb⟩
def Rs (w:World) (g N:Nat) (ns ms:Nat→Nat):Prop:=g < w.heap.size∧∀ i,i < N→∃ b A c D e,w.cell? ⟨g,i * 3,none⟩=some (.bool b)∧w.cell? ⟨g,i * 3+1,none⟩=some (.slice A (ns i) c)∧w.cell? ⟨g,i * 3+2,none⟩=some (.slice D (ms i) e)
theorem Rs.belw {w w':World}{g N:Nat}{ns ms:Nat→Nat}(h:Rs w g N ns ms) (hb:Below w.heap.size w w'):Rs w' g N ns ms:=by
 obtain ⟨hg,h⟩:=h;have hc:=(bq hb).1;refine ⟨Nat.lt_of_lt_of_le hg hb.size,fun i hi=>?_⟩;obtain ⟨b,A,c,D,e,h1,h2,h3⟩:=h i hi;exact ⟨b,A,c,D,e,(hc _ _ hg).trans h1,(hc _ _ hg).trans h2,(hc _ _ hg).trans h3⟩
def Gs (w:World) (g N k:Nat) (rs:Nat→RD) (xs:Nat→Bool):Prop:=g < w.heap.size∧∀ i,i < N→∃ b A m c D m' e,w.cell? ⟨g,i * 4,none⟩=some (.bool b)∧w.cell? ⟨g,i * 4+1,none⟩=some (.slice A m c)∧w.cell? ⟨g,i * 4+2,none⟩=some (.slice D m' e)∧w.cell? ⟨g,i * 4+3,none⟩=some (.bool (xs i))∧QD w b A m c D m' e (rs i) k
theorem Gs.belw {w w':World}{g N k:Nat}{rs:Nat→RD}{xs:Nat→Bool}(h:Gs w g N k rs xs) (hb:Below w.heap.size w w'):Gs w' g N k rs xs:=by
 obtain ⟨hg,h⟩:=h;have hc:=(bq hb).1;refine ⟨Nat.lt_of_lt_of_le hg hb.size,fun i hi=>?_⟩;obtain ⟨b,A,m,c,D,m',e,h1,h2,h3,h4,h5⟩:=h i hi;exact ⟨b,A,m,c,D,m',e,(hc _ _ hg).trans h1,(hc _ _ hg).trans h2,(hc _ _ hg).trans h3,(hc _ _ hg).trans h4,h5.belw hb⟩
end Go.Proofs.YtfilnhompchciaaGreatDoor
namespace Bn
open Go.Lib
theorem pj {q d:Nat}(hq:0 < q) (hd:d < 10):decDigits (q * 10+d)=decDigits q ++ [UInt8.ofNat (48+d)]:=by
 rw [decDigits,dif_neg (by omega),show (q * 10+d) / 10=q by omega,show (q * 10+d) % 10=d by omega]
def kt:Nat→Nat→List UInt8
  | 0,_=>[]
  | k+1,r=>kt k (r / 10) ++ [UInt8.ofNat (48+r % 10)]
theorem ml:∀ (k:Nat) {q r:Nat},0 < q→r < 10 ^ k→decDigits (q * 10 ^ k+r)=decDigits q ++ kt k r
 | 0,q,r,_,hr=>by
  have:r=0:=by simpa using hr
  subst this;simp [kt]
 | k+1,q,r,hq,hr=>by
  have h1:r / 10 < 10 ^ k:=by rw [Nat.pow_succ] at hr;omega
  have h2:0 < q * 10 ^ k:=Nat.mul_pos hq (Nat.pow_pos (by omega))
  have e:q * 10 ^ (k+1)+r=(q * 10 ^ k+r / 10) * 10+r % 10:=by
   rw [Nat.pow_succ,← Nat.mul_assoc];generalize q * 10 ^ k=P;omega
  rw [e,pj (by omega) (Nat.mod_lt _ (by omega)),ml k hq h1,kt,List.append_assoc]
theorem jE:∀ {k u:Nat},0 < k→u < 10 ^ k→nDigits u≤k
 | 0,_,h,_=>absurd h (by omega)
 | k+1,u,_,hu=>by
  by_cases h:u < 10
  ·rw [nDigits_small h];omega
  rw [nDigits_big h];have h0:k≠0:=by rintro rfl;exact h (by simpa using hu)
  have:=jE (k:=k) (u:=u / 10) (by omega) (by rw [Nat.pow_succ] at hu;omega);omega
theorem ku:∀ k,kt k 0=repeatL [48] k
 | 0=>rfl
 | k+1=>by rw [kt,ku k,repeatL_add,repeatL_one];rfl
theorem pk:∀ {k r:Nat},0 < k→r < 10 ^ k→kt k r=repeatL [48] (k - nDigits r) ++ decDigits r
 | 0,_,h,_=>absurd h (by omega)
 | k+1,r,_,hr=>by
  rw [kt];by_cases h:r < 10
  ·rw [Nat.div_eq_of_lt h,ku,nDigits_small h,decDigits_one h,Nat.mod_eq_of_lt h];rfl
  have h0:k≠0:=by rintro rfl;exact h (by simpa using hr)
  rw [pk (k:=k) (r:=r / 10) (by omega) (by rw [Nat.pow_succ] at hr;omega),nDigits_big h,List.append_assoc];congr 1
  ·congr 1;omega
  conv=>rhs;rw [decDigits,dif_neg h]
def fS (N q:Nat) (ps:List (List UInt8)):Prop:=(0 < q→decDigits N=decDigits q ++ ps.flatten)∧(q=0→decDigits N=ps.flatten)∧ps.length≤ps.flatten.length
theorem fS.start {N:Nat}(h:0 < N):fS N N []:=⟨fun _=>by simp,fun e=>absurd e (by omega),by simp⟩
theorem fS.more {N q:Nat}{ps:List (List UInt8)}(h:fS N q ps) (hq:0 < q / 1000000000) :
 fS N (q / 1000000000) ((repeatL [48] (9 - nDigits (q % 1000000000)) ++ decDigits (q % 1000000000)) :: ps):=by
 have hr:q % 1000000000 < 10 ^ 9:=Nat.mod_lt _ (by omega);have e:q / 1000000000 * 10 ^ 9+q % 1000000000=q:=by rw [Nat.mul_comm];exact Nat.div_add_mod q 1000000000
 refine ⟨fun _=>?_,fun e=>absurd e (by omega),?_⟩
 ·rw [h.1 (by omega),List.flatten_cons,← List.append_assoc,← pk (by omega) hr,← ml 9 hq hr,e]
 have h3:=h.2.2;have h4:=nDigits_pos (q % 1000000000);simp only [List.length_cons,List.flatten_cons,List.length_append,decDigits_length];omega
theorem fS.last {N q:Nat}{ps:List (List UInt8)}(h:fS N q ps) (h0:0 < q) (hq:q / 1000000000=0) :
 fS N (q / 1000000000) (decDigits (q % 1000000000) :: ps):=by
 have e:q % 1000000000=q:=Nat.mod_eq_of_lt (by omega);rw [e];refine ⟨fun e=>absurd e (by omega),fun _=>?_,?_⟩
 ·rw [h.1 h0,List.flatten_cons]
 have h3:=h.2.2;have h4:=nDigits_pos q;simp only [List.length_cons,List.flatten_cons,List.length_append,decDigits_length];omega
theorem fS.len {N q:Nat}{ps:List (List UInt8)}(h:fS N q ps):ps.flatten.length≤nDigits N∧ps.length≤nDigits N:=by
 have h3:=h.2.2
 have:ps.flatten.length≤nDigits N:=by
  rw [← decDigits_length];rcases Nat.eq_zero_or_pos q with e | e
  ·rw [h.2.1 e];exact Qr
  rw [h.1 e,List.length_append];omega
 exact ⟨this,by omega⟩
theorem lD {N n:Nat}(hn:0 < n) (h:N < 4294967296 ^ n):nDigits N≤10 * n:=by
 refine jE (by omega) (Nat.lt_of_lt_of_le h ?_);rw [Nat.pow_mul];exact Nat.pow_le_pow_left (by omega) n
theorem dH {N n K:Nat}(hK:n≤K) (h0:0 < K) (h:N < 4294967296 ^ n):nDigits N≤10 * K :=
 lD h0 (Nat.lt_of_lt_of_le h (Nat.pow_le_pow_right (by omega) hK))
theorem nk (ps:List (List UInt8)):join ps []=ps.flatten:=by
 cases ps with
 | nil=>rfl
 | cons x r=>rw [join_cons,joinTail];simp
theorem gB (z:Int):itoa z=(if z < 0 then [45] else []) ++ decDigits z.natAbs:=by
 unfold itoa;split
 ·rfl
 rw [show z.toNat=z.natAbs by omega];rfl
end Bn

/- Digits one by one; texts read as numbers: plain. -/
namespace Bn
open Go.Lib
def dg (V:Nat):List UInt8:=if V=0 then [] else decDigits V
theorem rn {V:Nat}(h:0 < V):dg V=dg (V / 10) ++ [UInt8.ofNat (48+V % 10)]:=by
 unfold dg;rw [if_neg (by omega)];by_cases h1:V < 10
 ·rw [if_pos (by omega),decDigits_one h1,Nat.mod_eq_of_lt h1];rfl
 rw [if_neg (by omega)];conv=>lhs;rw [decDigits,dif_neg h1]
def DgI (N q k r:Nat) (s:List UInt8):Prop:=decDigits N=dg (q * 10 ^ (9 - k)+r) ++ s∧r < 10 ^ (9 - k)
theorem DgI.start {N Q:Nat}{s:List UInt8}(h:decDigits N=dg Q ++ s):DgI N (Q / 1000000000) 0 (Q % 1000000000) s:=by
 refine ⟨?_,Nat.mod_lt _ (by decide)⟩;rw [show Q / 1000000000 * 10 ^ (9 - 0)+Q % 1000000000=Q by rw [Nat.mul_comm];exact Nat.div_add_mod Q 1000000000];exact h
theorem DgI.step {N q k r:Nat}{s:List UInt8}(h:DgI N q k r s) (hk:k < 9) (h0:0 < r∨0 < q):DgI N q (k+1) (r / 10) ([UInt8.ofNat (48+r % 10)] ++ s):=by
 obtain ⟨h1,h2⟩:=h;have e:10 ^ (9 - k)=10 ^ (9 - (k+1)) * 10:=by rw [← Nat.pow_succ];congr 1;omega
 rw [e] at h1 h2;have hp:0 < 10 ^ (9 - (k+1)):=Nat.pow_pos (by omega);unfold DgI;generalize 10 ^ (9 - (k+1))=P at *;have e2:q * (P * 10)+r=(q * P+r / 10) * 10+r % 10:=by rw [← Nat.mul_assoc];omega
 have h3:0 < q * (P * 10)+r:=by
  rcases h0 with h | h
  ·omega
  have:=Nat.mul_pos h (show 0 < P * 10 by omega);omega
 refine ⟨?_,by omega⟩;rw [h1,rn h3,e2,show ((q * P+r / 10) * 10+r % 10) / 10=q * P+r / 10 by omega,show ((q * P+r / 10) * 10+r % 10) % 10=r % 10 by omega,List.append_assoc]
theorem s7 {N Q:Nat}{s:List UInt8}(h:decDigits N=dg Q ++ s):s.length≤nDigits N:=by
 rw [← decDigits_length,h,List.length_append];omega
theorem DgI.len {N q k r:Nat}{s:List UInt8}(h:DgI N q k r s):s.length≤nDigits N:=s7 h.1

/-! ### Texts read -/
def bA (c:UInt8):Bool:=decide (48≤c.toNat) && decide (c.toNat≤57)
def jF (c:UInt8):Nat:=c.toNat - 48
def aP (l:List UInt8):Nat:=l.foldl (fun a c=>a * 10+jF c) 0
theorem nl (l:List UInt8):∀ a,l.foldl (fun a c=>a * 10+jF c) a=a * 10 ^ l.length+aP l:=by
 unfold aP
 induction l with
 | nil=>intro a;simp
 | cons x r ih =>
  intro a;rw [List.foldl_cons,ih,List.foldl_cons,ih (0 * 10+jF x),List.length_cons,Nat.pow_succ,Nat.add_mul];rw [Nat.zero_mul,Nat.zero_add,Nat.mul_assoc,Nat.mul_comm 10,Nat.add_assoc]
theorem gC (a b:List UInt8):aP (a ++ b)=aP a * 10 ^ b.length+aP b:=by
 conv=>lhs;unfold aP
 rw [List.foldl_append,nl];rfl
theorem fN (a:List UInt8) (c:UInt8):aP (a ++ [c])=aP a * 10+jF c:=by
 rw [gC];simp [aP]
def eZ (l:List UInt8):List UInt8:=match l with | 45 :: r=>r | l=>l
def pl (l:List UInt8):Bool:=match l with | 45 :: _=>true | _=>false
def okZ (l:List UInt8):Bool:=decide (eZ l≠[]) && (eZ l).all bA && !(decide ((eZ l).head?=some 48) && (decide (1 < (eZ l).length) || pl l))
def jG (l:List UInt8):Int:=if pl l then -(aP (eZ l):Int) else aP (eZ l)
theorem kw {d:Nat}(h:d < 10):bA (UInt8.ofNat (48+d))=true∧jF (UInt8.ofNat (48+d))=d:=by
 have e:(UInt8.ofNat (48+d)).toNat=48+d:=by simp;omega
 unfold bA jF;rw [e];simp;omega
theorem mm (n:Nat):(decDigits n).all bA=true∧aP (decDigits n)=n:=by
 induction n using Nat.strongRecOn with
 | ind n ih =>
  by_cases h:n < 10
  ·rw [decDigits_one h]
   have h1:=kw h;generalize UInt8.ofNat (48+n)=c at h1;refine ⟨by rw [List.all_cons,h1.1];rfl,?_⟩;rw [← List.nil_append [c],fN,h1.2];simp [aP]
  ·have e:decDigits n=decDigits (n / 10) ++ [UInt8.ofNat (48+n % 10)]:=by
    conv=>lhs;rw [decDigits,dif_neg h]
   have h1:=ih (n / 10) (by omega);have h2:=kw (Nat.mod_lt n (show 0 < 10 by omega));generalize UInt8.ofNat (48+n % 10)=c at h2 e;refine ⟨by rw [e,List.all_append,h1.1,List.all_cons,h2.1];rfl,?_⟩;rw [e,fN,h1.2,h2.2];omega
end Bn

/- Texts read as numbers: what the library's functions give on digits. Plain. -/
namespace Bn
open Go.Lib
theorem kx {c:UInt8}(h:bA c=true):digitVal c=some (jF c):=by
 unfold bA at h;rw [Bool.and_eq_true,decide_eq_true_eq,decide_eq_true_eq] at h;unfold digitVal jF;rw [if_pos h]
theorem lF:∀ {l:List UInt8},l.all bA=true→∀ acc,decFrom acc l=some (l.foldl (fun a c=>a * 10+jF c) acc):=by
 intro l
 induction l with
 | nil=>intro _ acc;rfl
 | cons x r ih =>
  intro h acc;rw [List.all_cons,Bool.and_eq_true] at h;rw [decFrom,kx h.1,List.foldl_cons];exact ih h.2 _
theorem pm {l:List UInt8}(h:l.all bA=true) (h0:l≠[]):atoi l=some (aP l:Int):=by
 cases l with
 | nil=>exact absurd rfl h0
 | cons x r =>
  have hx:bA x=true:=by rw [List.all_cons,Bool.and_eq_true] at h;exact h.1
  have h1:(x == 45)=false:=by
   apply Bool.eq_false_iff.2;intro e;rw [beq_iff_eq] at e;subst e;exact absurd hx (by decide)
  have h2:(x == 43)=false:=by
   apply Bool.eq_false_iff.2;intro e;rw [beq_iff_eq] at e;subst e;exact absurd hx (by decide)
  unfold atoi;dsimp only;rw [h1,h2];simp only [Bool.false_eq_true,if_false];unfold decNat;rw [if_neg (by simp),lF h];rfl
theorem em {p:UInt8→Bool}:∀ {l:List UInt8},l.dropWhile p=[] ↔ l.all p=true:=by
 intro l
 induction l with
 | nil=>simp
 | cons x r ih =>
  by_cases h:p x=true
  ·rw [List.dropWhile_cons_of_pos h,ih,List.all_cons,h];simp
  rw [List.dropWhile_cons_of_neg h];simp [h]
def lG (t pre rest:List UInt8):Prop:=t=pre ++ rest∧(pre=[]∨rest.length % 9=0)
theorem lG.step {t pre rest:List UInt8}{n:Nat}(h:lG t pre rest) (h0:0 < rest.length) (hn:(rest.length - 1) % 9+1=n) :
 n≤rest.length∧n≤9∧0 < n∧lG t (pre ++ rest.take n) (rest.drop n)∧aP (pre ++ rest.take n)=aP pre * 1000000000+aP (rest.take n):=by
 have h1:n≤rest.length:=by have:=Nat.mod_le (rest.length - 1) 9;omega
 refine ⟨h1,by have:=Nat.mod_lt (rest.length - 1) (show 0 < 9 by omega);omega,by omega,⟨?_,?_⟩,?_⟩
 ·rw [List.append_assoc,List.take_append_drop];exact h.1
 ·right;rw [List.length_drop];omega
 rw [gC,List.length_take,Nat.min_eq_left h1];rcases h.2 with e | e
 ·subst e;simp [aP]
 have:n=9:=by omega
 subst this;rfl
theorem lG.start (t:List UInt8):lG t [] t:=⟨rfl,.inl rfl⟩
theorem lG.fin {t pre:List UInt8}(h:lG t pre []):pre=t:=by have:=h.1;rw [List.append_nil] at this;exact this.symm
end Bn

/- Division bit by bit: plain numbers. -/
namespace Bn
theorem po {l:List Nat}(h:Wds l) (j:Nat):wd l j=val l / 4294967296 ^ j % 4294967296:=by
 have e:=aK l (show l.length≤j+(l.length+1) by omega);have h1:Sm (wd l) j < 4294967296 ^ j:=cU (fun i _=>aU h i);rw [lw,j8] at e;simp only [Nat.add_zero] at e;generalize Sm (fun i=>wd l (j+(i+1))) l.length=X at e;rw [← e,Nat.add_mul_div_left _ _ (eJ j),Nat.div_eq_of_lt h1,Nat.zero_add,Nat.add_mul_mod_self_left];exact (Nat.mod_eq_of_lt (aU h j)).symm
theorem fC (i:Nat):4294967296 ^ (i / 32) * 2 ^ (i % 32)=2 ^ i:=by
 have:(4294967296:Nat) ^ (i / 32)=2 ^ (32 * (i / 32)):=by rw [Nat.pow_mul]
 rw [this,← Nat.pow_add,Nat.div_add_mod]
theorem s8 {l:List Nat}(h:Wds l) (i:Nat):wd l (i / 32) / 2 ^ (i % 32) % 2=val l / 2 ^ i % 2:=by
 rw [po h,← fC i,← Nat.div_div_eq_div_mul];generalize val l / 4294967296 ^ (i / 32)=x;have hs:i % 32 < 32:=Nat.mod_lt _ (by decide);generalize i % 32=s at *;have h1:=Nat.testBit_mod_two_pow x 32 s;simp only [hs,decide_true,Bool.true_and,Nat.testBit_eq_decide_div_mod_eq] at h1;have h2:(x % 2 ^ 32 / 2 ^ s % 2=1) ↔ (x / 2 ^ s % 2=1):=by simpa using h1
 have e:(2:Nat) ^ 32=4294967296:=by decide
 rw [e] at h2;omega
theorem ro (L:List Nat) (j x:Nat) (h:j < L.length):val (L.set j x)+wd L j * 4294967296 ^ j=val L+x * 4294967296 ^ j:=by
 have:=bX L j x L.length h h;rw [aK (L.set j x) (by simp),aK L Qr] at this;exact this
theorem pq {x s:Nat}(hx:x % 2 ^ (s+1)=0):x ||| 2 ^ s=x+2 ^ s:=by
 have h:=Nat.shiftLeft_add_eq_or_of_lt (b:=2 ^ s) (i:=s+1) (Nat.pow_lt_pow_right (by omega) (by omega)) (x / 2 ^ (s+1));rw [Nat.shiftLeft_eq,Nat.div_mul_cancel (Nat.dvd_of_mod_eq_zero hx)] at h;exact h.symm
theorem s9 {L:List Nat}(h:Wds L) (i:Nat) (hi:i / 32 < L.length) {m:Nat}(hv:val L=m * 2 ^ (i+1)) :
 wd L (i / 32) ||| 2 ^ (i % 32)=wd L (i / 32)+2 ^ (i % 32)∧wd L (i / 32)+2 ^ (i % 32) < 4294967296∧val (L.set (i / 32) (wd L (i / 32)+2 ^ (i % 32)))=val L+2 ^ i:=by
 have hs:i % 32 < 32:=Nat.mod_lt _ (by decide)
 have hx:wd L (i / 32) % 2 ^ (i % 32+1)=0:=by
  rw [po h,hv,Nat.pow_succ,← fC i];have e1:m * (4294967296 ^ (i / 32) * 2 ^ (i % 32) * 2)=4294967296 ^ (i / 32) * (m * 2 ^ (i % 32+1)):=by rw [Nat.pow_succ];grind
  rw [e1,Nat.mul_div_cancel_left _ (eJ _)];have e2:(4294967296:Nat)=2 ^ (i % 32+1) * 2 ^ (31 - i % 32):=by rw [← Nat.pow_add,show i % 32+1+(31 - i % 32)=32 by omega]
  rw [e2,Nat.mod_mul_right_mod,Nat.mul_mod_left]
 refine ⟨pq hx,?_,?_⟩
 ·have h1:wd L (i / 32) ||| 2 ^ (i % 32) < 2 ^ 32:=Nat.or_lt_two_pow (aU h _) (Nat.pow_lt_pow_right (by omega) hs)
  rw [pq hx] at h1;exact h1
 have h1:=ro L (i / 32) (wd L (i / 32)+2 ^ (i % 32)) hi;rw [Nat.add_mul,Nat.mul_comm (2 ^ (i % 32)),fC] at h1;omega
theorem ky (a k:Nat):a / 2 ^ k=2 * (a / 2 ^ (k+1))+a / 2 ^ k % 2:=by
 rw [Nat.pow_succ,← Nat.div_div_eq_div_mul];omega
theorem ta {a v k r:Nat}(hr:r=2 * (a / 2 ^ (k+1) % v)+a / 2 ^ k % 2) (h:v≤r) (hv:0 < v) :
 a / 2 ^ k / v=2 * (a / 2 ^ (k+1) / v)+1∧a / 2 ^ k % v=r - v:=by
 have e:=ky a k;generalize a / 2 ^ (k+1)=hi at *;generalize hb:a / 2 ^ k % 2=b at *;have hb1:b≤1:=by omega
 rw [e];have hm:=Nat.mod_lt hi hv;have hd:=Nat.div_add_mod hi v
 have e2:2 * hi+b=v * (2 * (hi / v)+1)+(r - v):=by
  rw [Nat.mul_add,Nat.mul_one];have:v * (2 * (hi / v))=2 * (v * (hi / v)):=by grind
  omega
 have hlt:r - v < v:=by omega
 rw [e2];constructor
 ·rw [Nat.mul_add_div hv,Nat.div_eq_of_lt hlt,Nat.add_zero]
 rw [Nat.mul_add_mod,Nat.mod_eq_of_lt hlt]
theorem rq {a v k r:Nat}(hr:r=2 * (a / 2 ^ (k+1) % v)+a / 2 ^ k % 2) (h:r < v) :
 a / 2 ^ k / v=2 * (a / 2 ^ (k+1) / v)∧a / 2 ^ k % v=r:=by
 have hv:0 < v:=by omega
 have e:=ky a k;generalize a / 2 ^ (k+1)=hi at *;generalize hb:a / 2 ^ k % 2=b at *;rw [e];have hd:=Nat.div_add_mod hi v
 have e2:2 * hi+b=v * (2 * (hi / v))+r:=by
  have:v * (2 * (hi / v))=2 * (v * (hi / v)):=by grind
  omega
 rw [e2];constructor
 ·rw [Nat.mul_add_div hv,Nat.div_eq_of_lt h,Nat.add_zero]
 rw [Nat.mul_add_mod,Nat.mod_eq_of_lt h]
def ir (l L:List Nat) (b k cr:Nat):Prop:=(∀ i,k≤i→wd L i=wd l i)∧Sm (wd L) k+cr * 4294967296 ^ k=2 * Sm (wd l) k+b
theorem ir.start (l:List Nat) (b:Nat):ir l l b 0 b:=⟨fun _ _=>rfl,by simp [Sm]⟩
theorem kz {x c:Nat}(hc:c≤1) (hx:x < 4294967296):(x * 2 % 4294967296 ||| c)=x * 2 % 4294967296+c∧x * 2 % 4294967296+c < 4294967296∧x / 2147483648≤1:=by
 refine ⟨?_,by omega,by omega⟩;have h:=Nat.shiftLeft_add_eq_or_of_lt (b:=c) (i:=1) (by omega) (x * 2 % 4294967296 / 2);rw [Nat.shiftLeft_eq,Nat.pow_one,show x * 2 % 4294967296 / 2 * 2=x * 2 % 4294967296 by omega] at h;exact h.symm
theorem ir.step {l L:List Nat}{b k cr x:Nat}(h:ir l L b k cr) (hx:wd l k=x) (hlt:x < 4294967296) (hk:k < L.length) :
 ir l (L.set k (x * 2 % 4294967296+cr)) b (k+1) (x / 2147483648):=by
 refine ⟨fun i hi=>?_,?_⟩
 ·rw [ba,if_neg (by omega)];exact h.1 i (by omega)
 rw [bE _ _ _ hk,Sm,hx,Nat.pow_succ];have h2:=h.2;have e:x * 2 % 4294967296+x / 2147483648 * 4294967296=2 * x:=by omega
 have e2:x * 2 % 4294967296 * 4294967296 ^ k+x / 2147483648 * (4294967296 ^ k * 4294967296)=2 * (x * 4294967296 ^ k):=by
  have:(x * 2 % 4294967296+x / 2147483648 * 4294967296) * 4294967296 ^ k=2 * x * 4294967296 ^ k:=by rw [e]
  rw [Nat.add_mul] at this;have e3:x / 2147483648 * (4294967296 ^ k * 4294967296)=x / 2147483648 * 4294967296 * 4294967296 ^ k:=by grind
  rw [e3,← Nat.mul_assoc];exact this
 rw [Nat.add_mul];omega
theorem ir.fin {l L:List Nat}{b k cr:Nat}(h:ir l L b k cr) (hl:l.length=k) (hL:L.length=k) (hs:2 * val l+b < 4294967296 ^ k):val L=2 * val l+b:=by
 have h2:=h.2;rw [aK L (by omega),aK l (by omega)] at h2;rcases Nat.eq_zero_or_pos cr with e | e
 ·subst e;omega
 have:1 * 4294967296 ^ k≤cr * 4294967296 ^ k:=Nat.mul_le_mul_right _ e;omega
theorem pr {r v b m:Nat}(hr:r < v) (hv:v < 4294967296 ^ m) (hb:b≤1):2 * r+b < 4294967296 ^ (m+1):=by
 rw [Nat.pow_succ];omega
end Bn

/- Roots: plain numbers. -/
namespace Bn
theorem tb (k:Nat):2 ^ k * 2 ^ k=2 ^ (2 * k):=by rw [← Nat.pow_add];congr 1;omega
def gF (M r i:Nat):Prop:=r * r≤M∧M < (r+2 ^ i) * (r+2 ^ i)
theorem gF.start {M N:Nat}(h:M < 2 ^ N):gF M 0 (N / 2+1):=by
 refine ⟨Nat.zero_le _,?_⟩;rw [Nat.zero_add,tb];exact Nat.lt_of_lt_of_le h (Nat.pow_le_pow_right (by omega) (by omega))
theorem gF.no {M r i:Nat}(h:gF M r (i+1)) (hx:¬ (r+2 ^ i) * (r+2 ^ i)≤M):gF M r i:=⟨h.1,by omega⟩
theorem gF.fin {M r:Nat}(h:gF M r 0):isq M=r:=sx h.1 (by have:=h.2;simpa using this)
end Bn

/- Numbers of bits: plain numbers. -/
namespace Bn
theorem val_rep (n:Nat):val (List.replicate n 0)=0:=by
 induction n with
 | zero=>rfl
 | succ n ih=>rw [List.replicate_succ,val,ih]
end Bn

/- Walks: the reference's number of bits. -/
namespace Go.Proofs.YtfilnhompchciaaGreatDoor
open Go Go.RowKit Bn
attribute [local go_sem ↓] Go.wp_at_zero Go.wp_at_succ

theorem pt {l:List Nat}(h:Wds l) (h0:0 < l.length) {t:Nat}(ht:wd l (l.length - 1) < 2 ^ t):val l < 2 ^ (32 * (l.length - 1)+t):=by
 have e:=aK l Qr;obtain ⟨m,hm⟩:∃ m,l.length=m+1:=⟨l.length - 1,by omega⟩;rw [hm] at e ht ⊢;simp only [Nat.add_sub_cancel] at ht ⊢;rw [Sm] at e;have h1:Sm (wd l) m < 4294967296 ^ m:=cU (fun i _=>aU h i);have h2:(4294967296:Nat) ^ m=2 ^ (32 * m):=by rw [Nat.pow_mul]
 rw [h2] at h1 e;rw [Nat.pow_add,← e];have h3:(wd l m+1) * 2 ^ (32 * m)≤2 ^ t * 2 ^ (32 * m):=Nat.mul_le_mul_right _ ht;rw [Nat.add_mul] at h3;rw [Nat.mul_comm (2 ^ (32 * m)) (2 ^ t)];omega
def uK (w:World) (v n:Nat) (e:Ending) (w':World):Prop:=∃ N:Nat,e=.returned (.int .i64 (N:Nat))∧v < 2 ^ N∧N≤32 * n∧w=w'
theorem pu (w:World) (A n c l) (wa:Wd w A n c l) (hn:n≤1099511627776) :
 Calls Tryz.prog 259 #[.slice A n c] w (uK w (val l) n):=by
 have HL:=Qh wa.2.1;by_cases h0:n=0
 ·subst h0
  have HE:=Qh (show val l=0 by rw [List.eq_nil_of_length_eq_zero HL.out.symm];rfl);clear wa;go_in;go_wp2;go_ret;exact ⟨0,rfl,by rw [HE.out];decide,by omega,rfl⟩
 obtain ⟨g,o,rfl,hgl,hc⟩:=wa.at2 (by omega);have hck:=hc (n - 1) (by omega);have hlt:=wa.lt (n - 1);have hp:0 < n:=by omega
 have HW:=Qh wa.1;obtain ⟨x0,hx0⟩:∃ x,wd l (n - 1)=x:=⟨_,rfl⟩;rw [hx0] at hck hlt;have HX:=Qh hx0;clear hc h0 hx0 wa;have hn0:((n:Int) == 0)=false:=by simp;omega
 go_in;go_wp2_with fail;go_loop [3,4] (fun nv xv=>∃ (t x:Nat),t≤32∧nv=.int .i64 ((32 * (n - 1)+t:Nat):Int)∧xv=.int .u32 (x:Nat)∧x < 4294967296∧x=x0 / 2 ^ t) (fun _ xv=>(intOf xv).toNat)
 case atStart=>exact ⟨0,x0,by omega,by congr 1;omega,rfl,hlt,by simp⟩
 case round =>
  obtain ⟨t,x,ht,rfl,rfl,hx,he⟩:=hrel;have HE:=Qh he;clear he;by_cases hz:x=0
  ·subst hz
   go_wp2;go_ret;refine ⟨32 * (n - 1)+t,rfl,?_,by omega,rfl⟩
   have h1:x0 < 2 ^ t:=by
    have:=HE.out;rcases Nat.lt_or_ge x0 (2 ^ t) with h | h
    ·exact h
    have:=Nat.div_pos h (Nat.pow_pos (by omega));omega
   have:=pt HW.out (by rw [← HL.out];exact hp) (t:=t) (by rw [← HL.out,HX.out];exact h1);rwa [← HL.out] at this
  ·have ht2:t < 32:=by
    rcases Nat.lt_or_ge t 32 with h | h
    ·exact h
    exfalso;have e:t=32:=by omega
    have:=HE.out;rw [e] at this;have:x=0:=by rw [this];exact Nat.div_eq_of_lt hlt
    omega
   have hxp:0 < x:=by omega
   go_wp2;go_round
   case rel=>exact ⟨t+1,x / 2,by omega,by congr 1 <;> omega,by congr 1 <;> omega,by omega,by rw [HE.out,Nat.pow_succ,Nat.div_div_eq_div_mul]⟩
   case measure=>simp [intOf];omega

def iY (w:World) (v:Value) (z:Int) (k:Nat) (e:Ending) (w':World):Prop:=∃ b A n c,e=.returned (.tuple #[.agg #[.bool b,.slice A n c],v])∧IV w' b A n c z k∧Below w.heap.size w w'

def Tab (w : World) : Prop := Lib.TabIs Tryz.prog w "internal/strconv.uint64pow10" .u64 Lib.pow10Tab
theorem Tab.belw {w w':World}(h:Tab w) (hb:Below w.heap.size w w'):Tab w':=Lib.tabBelow_of_tabIs h w' hb
abbrev ag (l:List UInt8):Value:=.string ⟨l.toArray⟩
def strs (ps:List (List UInt8)):List Value:=ps.map ag
theorem e7 (ps:List (List UInt8)):(strs ps).length=ps.length:=by simp [strs]
theorem kA (ps:List (List UInt8)):∀ u∈strs ps,u.oneCell'=true:=by
 intro u hu;simp only [strs,List.mem_map] at hu;obtain ⟨x,_,rfl⟩:=hu;rfl
theorem kB:(Tryz.prog.info? 9).map (fun i=>(i.zero,i.size,i.bytes))=some (some (.string ⟨#[]⟩),1,16):=by kernel_rfl
theorem lH (w:World) (k:Nat) (os:Array Obj):Below w.heap.size w (Sort.grow (w.drewN k) os) :=
 ⟨rfl,rfl,rfl,by simp [Sort.grow],fun j hj=>by simp [Sort.grow,Array.getElem?_append_left hj]⟩
theorem jH (w:World) (n:Int) (h0:-9223372036854775808≤n) (h1:n≤9223372036854775807) (ht:Tab w) :
 Calls Tryz.prog 28 #[.int .i64 n] w (aw w (ag (Lib.itoa n))) :=
 (Tryz.strconv_Itoa n h0 h1 w ht).mono fun e w' ⟨he,k,os,hw⟩=>⟨he,by rw [hw];exact lH w k os⟩
def fD (w:World) (p:Value) (ps:List (List UInt8)):Prop:=(ps=[]∧p=.slice none 0 0)∨(ps≠[]∧∃ g cap,p=.slice (some ⟨g,0,none⟩) ps.length cap∧g < w.heap.size∧ps.length≤cap∧∀ j,j < ps.length→w.cell? ⟨g,j,none⟩=(strs ps)[j]?)
theorem fD.belw {w w':World}{p:Value}{ps:List (List UInt8)}(h:fD w p ps) (hb:Below w.heap.size w w'):fD w' p ps:=by
 rcases h with h | ⟨h0,g,cap,h1,h2,h3,h4⟩
 ·exact .inl h
 refine .inr ⟨h0,g,cap,h1,Nat.lt_of_lt_of_le h2 hb.size,h3,fun j hj=>?_⟩;rw [← h4 j hj];simp only [World.cell?,hb.block g h2]
theorem pw (w:World) (p:Value) (ps:List (List UInt8)) (h:fD w p ps) (hlen:ps.flatten.length≤140737488355328) (hN:ps.length≤140737488355328) :
 Calls Tryz.prog 62 #[p,.string ⟨#[]⟩] w (aw w (ag ps.flatten)):=by
 rcases h with ⟨rfl,rfl⟩ | ⟨h0,g,cap,rfl,h2,h3,h4⟩
 ·exact (Tryz.strings_Join_none none 0 ⟨#[]⟩ w).mono fun e w' ⟨he,hw⟩=>⟨he,hw ▸ Below.refl _ _⟩
 ·have hm:(ps.map fun l=>(⟨l.toArray⟩:ByteArray)).map (·.data.toList)=ps:=by
   rw [List.map_map];exact (List.map_congr_left (fun a _=>by simp)).trans (List.map_id ps)
  have hl:(ps.map fun l=>(⟨l.toArray⟩:ByteArray)).length=ps.length:=by simp
  have hJ:Lib.join ((ps.map fun l=>(⟨l.toArray⟩:ByteArray)).map (·.data.toList)) (⟨#[]⟩:ByteArray).data.toList=ps.flatten:=by rw [hm];exact nk ps
  have:=Tryz.strings_Join g 0 cap (ps.map fun l=>⟨l.toArray⟩) ⟨#[]⟩ w (fun j x hx=>by
   have hj:j < ps.length:=by have:=(List.getElem?_eq_some_iff.1 hx).1;rw [hl] at this;exact this
   rw [Nat.zero_add,h4 j hj];rw [List.getElem?_map] at hx;unfold strs;rw [List.getElem?_map]
   cases hp:ps[j]? with
   | none=>rw [hp] at hx;simp at hx
   | some y=>rw [hp] at hx;simp at hx;subst hx;rfl) h2 (by rw [hl];exact hN) (by rw [hl];exact h3) (by rw [hJ];exact hlen)
  rw [hJ,hl] at this;exact this
theorem iZ (a b:List UInt8):((⟨a.toArray⟩:ByteArray) ++ ⟨b.toArray⟩)=⟨(a ++ b).toArray⟩:=by
 apply ByteArray.ext;simp [ByteArray.data_append]
theorem jI (w:World) (z:Int) (r:Nat) (d:List UInt8) (hz:z=r) (hr:r < 1000000000) (hd:Lib.decDigits r=d) (ht:Tab w) :
 Calls Tryz.prog 28 #[.int .i64 z] w (aw w (ag d)):=by
 subst hz hd;rw [← Lib.itoa_nonneg];exact jH w r (by omega) (by omega) ht
theorem gG (w:World) (z:Int) (j:Nat) (d:List UInt8) (hz:z=j) (hj:j < 1000000) (hd:Lib.repeatL [48] j=d) :
 Calls Tryz.prog 65 #[.string ⟨#[48]⟩,.int .i64 z] w (aw w (ag d)):=by
 subst hz hd;exact Tryz.strings_Repeat ⟨#[48]⟩ j w (by omega) (by show 1 * j≤_;omega)
theorem f7 (w:World) (A:Option Addr) (n c q r q':Nat) (wa:Wd w A n c (aj q)) (hn:n≤1099511627776) (hr:q % 1000000000=r) (hq:q / 1000000000=q') :
 Calls Tryz.prog 220 #[.slice A n c,.int .u32 1000000000] w fun e w'=>∃ A1 n1 c1,e=.returned (.tuple #[.slice A1 n1 c1,.int .u32 (r:Nat)])∧Wd w' A1 n1 c1 (aj q')∧Below w.heap.size w w':=by
 have:=me w A n c (aj q) wa hn 1000000000 (by omega) (by omega);rw [ah,hr,hq] at this;exact this
theorem fD.one (w:World) (S:List UInt8):fD (w.alloc (.cells #[ag S] 9)) (.slice (some ⟨w.heap.size,0,none⟩) 1 1) [S]:=by
 refine .inr ⟨by simp,_,_,rfl,by simp,Qr,fun j hj=>?_⟩;rw [World.cell?_alloc_new];have:j=0:=by simpa using hj
 subst this;rfl
theorem fD.own {w:World}{base g cap:Nat}{S:List UInt8}{ps:List (List UInt8)}(h:w.ownsRow base 9 1 (.slice (some ⟨g,0,none⟩) (1+ps.length) cap) (1+ps.length) ([ag S] ++ strs ps)) (hg:g < w.heap.size) :
 fD w (.slice (some ⟨g,0,none⟩) (1+ps.length) cap) (S :: ps):=by
 refine .inr ⟨by simp,g,cap,by rw [List.length_cons,Nat.add_comm],hg,?_,fun j hj=>?_⟩
 ·rcases h.2 with ⟨e,_⟩ | ⟨g',c',cur,e,_,_,hc,_⟩
  ·exact absurd e (by simp)
  injection e with _ _ e2;rw [List.length_cons];omega
 rw [h.cellAt j (by rw [List.length_cons] at hj;omega)];rfl
def uc (N:Nat) (W0 wr:World) (m p:Value):Prop:=∃ A1 n1 c1 q ps,m=.slice A1 n1 c1∧n1≤1099511627000∧sD (Wd wr A1 n1 c1 (aj q)∧fS N q ps∧fD wr p ps)∧Below W0.heap.size W0 wr
theorem tc (w:World) (b:Bool) (A n c l) (wa:Wd w A n c l) (hn:n≤1000000000) (ht:Tab w) :
 Calls Tryz.prog 182 #[.agg #[.bool b,.slice A n c]] w (aw w (ag (Lib.itoa (WD.z ⟨b,l⟩)))):=by
 have HL:=Qh wa.2.1;have hcm:aF (WD.m ⟨b,l⟩):=WD.canon_m wa.1;obtain ⟨i0,hi0,hz0,hz1,hz2⟩:=info_parts kB;obtain ⟨M,hM⟩:∃ M,WD.m ⟨b,l⟩=aj M:=⟨_,(cK hcm).symm⟩;have hab:(WD.z ⟨b,l⟩).natAbs=M:=by rw [gn,hM,ah]
 obtain ⟨T,hT⟩:∃ T,T=Lib.itoa (WD.z ⟨b,l⟩):=⟨_,rfl⟩;rw [gB,hab] at hT;rw [gB,hab,← hT];have HT:=Qh hT;have HTab:=Qh ht;have HM:=Qh hM;have HA:=Qh hab;clear hT ht hM hab hcm;have b0:Below w.heap.size w (w.alloc (.cells #[.bool b,.slice A n c] 194)):=(Below.refl _ _).alloc Qr _;have x0:Blk (w.alloc (.cells #[.bool b,.slice A n c] 194)) w.heap.size 194 #[.bool b,.slice A n c]:=ai _ _ _ rfl;by_cases hM0:M=0
 ·subst hM0
  have hz:(WD.z ⟨b,l⟩) < 0→False:=by have:=HA.out;omega
  have hT0:T=[48]:=by rw [HT.out,if_neg (fun h=>hz h)];exact Lib.decDigits_one (by omega)
  subst hT0;go_in;go_wp2_with (go_at_call 194;(with_reducible refine (ef _ b A n c l ?_ ?_).mono ?_);(exact wa.belw b0);(omega);rintro e w1 ⟨A1,n1,c1,rfl,h1,hb1⟩;rw [HM.out,am] at h1;obtain rfl:n1=0:=h1.2.1);go_ret;exact ⟨rfl,b0.trans (hb1.mono b0.size)⟩
 have hMp:0 < M:=Nat.pos_of_ne_zero hM0;have HMP:=Qh hMp;clear hM0 hMp;go_in;go_wp2_with (go_at_call 194;(with_reducible refine (ef _ b A n c l ?_ ?_).mono ?_);(exact wa.belw b0);(omega);rintro e w1 ⟨A1,n1,c1,rfl,h1,hb1⟩;have hn1:n1≤1000000000:=h1.m_len (by rw [← HL.out];exact hn);rw [HM.out] at h1;have e1:((n1:Int) == 0)=false:=(by have h9:n1≠0:=(fun e=>by have h8:=h1.2.1;rw [e] at h8;exact absurd (aG.1 (List.eq_nil_of_length_eq_zero h8.symm)) (by have:=HMP.out;omega));simp;exact h9));clear e1;go_loopw [3,4] (fun mv pv wr=>uc M w1 wr mv pv) (fun mv _ wr=>valOf wr mv)
 case atStart=>exact ⟨A1,n1,c1,M,[],rfl,by omega,⟨h1,fS.start HMP.out,.inl ⟨rfl,rfl⟩⟩,ae _⟩
 case round =>
  obtain ⟨A3,n3,c3,q,ps,rfl,hn3,hK,rr⟩:=hrel;have hm5:valOf wr (.slice A3 n3 c3)=q:=by rw [hK.1.valOf,ah]
  by_cases hq0:q=0
  ·subst hq0
   have h0:n3=0:=by have:=hK.1.2.1;rw [am] at this;exact this
   subst h0;have hps:M=M∧Lib.decDigits M=ps.flatten:=⟨rfl,hK.2.1.2.1 rfl⟩;have hln:=hK.2.1.len;have hnd:Lib.nDigits M≤10 * 1000000000:=dH hn1 (by omega) (by have:=h1.vlt Qr;rw [ah] at this;exact this);have x1:Blk w1 w.heap.size 194 #[.bool b,.slice A n c]:=x0.below hb1 (by simp);have x2:=x1.below rr x1.lt;have bw:=((b0.trans (hb1.mono b0.size)).trans (rr.mono (by have:=hb1.size;have:=b0.size;omega)));have HX:=Qh x2;have HP:=Qh hps.2;have HA2:=Qh (show (WD.z ⟨b,l⟩)=sgn (WD.s ⟨b,l⟩) M by rw [WD.z_eq,HM.out,ah]);clear hps x1 x2;cases hs:WD.s ⟨b,l⟩
   ·have HS:=Qh hs
    have HT2:=Qh (show T=ps.flatten by rw [HT.out,HP.out,HA2.out,hs,if_neg (by simp [sgn])];rfl);clear hs
    go_wp2_with (first
     | (go_at_call 62;(with_reducible refine (pw _ _ ps ?_ ?_ ?_).mono ?_);(exact hK.2.2);omega;omega;rintro e w2 ⟨rfl,hb2⟩;have x3:=HX.out.below hb2 HX.out.lt;obtain ⟨c0,c1⟩:=x3.c2)
     | (go_at_call 195;(with_reducible refine (mc _ b A n c l false ?_ ?_ HS.out).mono ?_);(exact wa.belw (bw.trans (hb2.mono bw.size)));omega;rintro e w3 ⟨rfl,hb3⟩))
    go_ret;refine ⟨by rw [HT2.out];rfl,(bw.trans (hb2.mono bw.size)).trans (hb3.mono (by have:=hb2.size;have:=bw.size;omega))⟩
   have HS:=Qh hs;have HT2:=Qh (show T=45 :: ps.flatten by rw [HT.out,HP.out,HA2.out,hs,if_pos (by simp [sgn];have:=HMP.out;omega)];rfl);clear hs;have hsum:(ps.map List.length).sum≤Lib.nDigits M:=by rw [← List.length_flatten];exact hln.1
   go_wp2_with (first
    | (go_at_call 62;(with_reducible refine (pw _ _ ps ?_ ?_ ?_).mono ?_);(exact hK.2.2);omega;omega;rintro e w2 ⟨rfl,hb2⟩;have x3:=HX.out.below hb2 HX.out.lt;obtain ⟨c0,c1⟩:=x3.c2)
    | (go_at_call 195;(with_reducible refine (mc _ b A n c l true ?_ ?_ HS.out).mono ?_);(exact wa.belw (bw.trans (hb2.mono bw.size)));omega;rintro e w3 ⟨rfl,hb3⟩))
   go_ret;refine ⟨?_,(bw.trans (hb2.mono bw.size)).trans (hb3.mono (by have:=hb2.size;have:=bw.size;omega))⟩;rw [HT2.out];exact congrArg (fun x=>Ending.returned (.string x)) (iZ [45] ps.flatten)
  have hqp:0 < q:=Nat.pos_of_ne_zero hq0;have hn30:n3≠0:=fun e=>hq0 (aG.1 (List.eq_nil_of_length_eq_zero (by rw [← hK.1.2.1];exact e)))
  have e1:decide (0 < n3)=true:=by simp;omega
  obtain ⟨r,hr⟩:∃ r,q % 1000000000=r:=⟨_,rfl⟩;have hr9:r < 1000000000:=by rw [← hr];exact Nat.mod_lt _ (by omega)
  obtain ⟨d,hd⟩:∃ d,Lib.decDigits r=d:=⟨_,rfl⟩;obtain ⟨k,hk⟩:∃ k,d.length=k:=⟨_,rfl⟩;have hkn:Lib.nDigits r=k:=by rw [← hk,← hd,Lib.decDigits_length]
  have hk9:k≤9:=by rw [← hkn];exact jE (by omega) hr9
  obtain ⟨j,hj⟩:∃ j,k+j=9:=⟨9 - k,by omega⟩;obtain ⟨z,hz⟩:∃ z,Lib.repeatL [48] j=z:=⟨_,rfl⟩;have hzl:z.length=j:=by rw [← hz,Lib.repeatL_length];simp
  obtain ⟨q',hq'⟩:∃ q',q / 1000000000=q':=⟨_,rfl⟩;have HR:=Qh hr;have HD:=Qh hd;have HZ:=Qh hz;have HQ:=Qh hq';have HQP:=Qh hqp;have HKN:=Qh hkn;have hlt:q' < q:=by rw [← hq'];omega
  have HLT:=Qh hlt;have bw:=((b0.trans (hb1.mono b0.size)).trans (rr.mono (by have:=hb1.size;have:=b0.size;omega)));have hnd:Lib.nDigits M≤10 * 1000000000:=dH hn1 (by omega) (by have:=h1.vlt Qr;rw [ah] at this;exact this);have hln:=hK.2.1.len;clear hr hd hz hq' hq0 hqp hn30 hkn hlt;by_cases h0:q'=0
  ·subst h0
   by_cases hp0:ps=[]
   ·subst hp0
    have hu4:u4=.slice none 0 0:=by
     rcases hK.2.2 with h | h
     ·exact h.2
     exact absurd rfl h.1
    subst hu4
    go_wp2_with (first
     | (go_at_call 220;(with_reducible refine (f7 _ A3 n3 c3 q r 0 ?_ ?_ HR.out HQ.out).mono ?_);(exact hK.1);omega;rintro e w2 ⟨A5,n5,c5,rfl,h5,hb2⟩;obtain rfl:n5=0:=(by have h9:=h5.2.1;rw [am] at h9;exact h9))
     | (go_at_call 28;(with_reducible refine (jI _ _ r d ?_ ?_ HD.out ?_).mono ?_);(first | rfl | omega);omega;(exact HTab.out.belw (bw.trans (hb2.mono bw.size)));rintro e w3 ⟨rfl,hb3⟩)
    )
    have bl:Below wr.heap.size wr w3:=(hb2.mono Qr).trans (hb3.mono hb2.size);have b5:Below w2.heap.size w2 w3:=hb3;go_roundw
    case rel =>
     refine ⟨A5,0,c5,0,[d],rfl,?_,⟨(h5.belw b5).belw ((Below.refl _ _).alloc Qr _),by have:=hK.2.1.last HQP.out HQ.out;rw [HQ.out,HR.out,HD.out] at this;exact this,?_⟩,(rr.trans (bl.mono rr.size)).alloc (Nat.le_trans rr.size bl.size) _⟩
     ·omega
     have:=fD.one w3 d;exact this
    case measure =>
     rw [((h5.belw b5).belw ((Below.refl _ _).alloc Qr _)).valOf,hm5,ah];exact HLT.out
   have hp1:0 < ps.length:=List.length_pos_iff.2 hp0
   obtain ⟨g,cap,hu4,hg,hcap,hcells0⟩:∃ g cap,u4=.slice (some ⟨g,0,none⟩) ps.length cap∧g < wr.heap.size∧ps.length≤cap∧∀ j,j < ps.length→wr.cell? ⟨g,j,none⟩=(strs ps)[j]?:=by
    rcases hK.2.2 with h | h
    ·exact absurd h.1 hp0
    exact h.2
   subst hu4
   have hcells:∀ w',Below wr.heap.size wr w'→∀ S j u,(strs ps)[j]?=some u→(w'.alloc (.cells #[S] 9)).cell? ((⟨g,0,none⟩:Addr).add j)=some u:=by
    intro w' hb S j u hu;have hj:j < ps.length:=by have:=(List.getElem?_eq_some_iff.1 hu).1;rw [e7] at this;exact this
    rw [Lib.add_plain,Nat.zero_add,← hu,← hcells0 j hj];simp only [World.cell?,Below.heap_alloc _ _ _ (Nat.lt_of_lt_of_le hg hb.size),hb.block g hg]
   go_wp2_with (first
    | (go_at_call 220;(with_reducible refine (f7 _ A3 n3 c3 q r 0 ?_ ?_ HR.out HQ.out).mono ?_);(exact hK.1);omega;rintro e w2 ⟨A5,n5,c5,rfl,h5,hb2⟩;obtain rfl:n5=0:=(by have h9:=h5.2.1;rw [am] at h9;exact h9))
    | (go_at_call 28;(with_reducible refine (jI _ _ r d ?_ ?_ HD.out ?_).mono ?_);(first | rfl | omega);omega;(exact HTab.out.belw (bw.trans (hb2.mono bw.size)));rintro e w3 ⟨rfl,hb3⟩)
    | (at_builtin;refine wpList_append_lies _ rfl _ _ _ rfl w3.heap.size 9 i0 (.string ⟨#[]⟩) 1 16 Tryz.underlying113 hi0 hz0 hz1 hz2 rfl (by omega) _ 1 [ag d] rfl (World.ownsRow_lit w3 #[ag d] 1 Qr (by unfold maxLen;omega) rfl) ⟨g,0,none⟩ ps.length cap (strs ps) rfl (by rw [e7,Nat.mul_one]) ?_ (kA ps) hp1 (by unfold maxLen;omega) (by omega) (by simp) (w3.heap.size+1) (by simp) ?_;(exact hcells _ ((hb2.mono Qr).trans (hb3.mono hb2.size)) _);intro gx cap2 w5 hown5 hgrow hat hlt5)
   )
   have bl:Below wr.heap.size wr w3:=(hb2.mono Qr).trans (hb3.mono hb2.size);have b5:Below w2.heap.size w2 w3:=hb3;have bg:Below w3.heap.size w3 w5:=((Below.refl _ _).alloc Qr _).grown hgrow (by simp) (cq (World.ownsRow_lit (e:=9) (size:=1) w3 #[ag d] 1 Qr (by unfold maxLen;omega) rfl));have bgr:Below w1.heap.size w1 w5:=((rr.trans (bl.mono rr.size)).alloc (Nat.le_trans rr.size bl.size) _).grown hgrow (by have:=rr.size;have:=bl.size;simp;omega) (fun k hk=>Nat.le_trans (Nat.le_trans rr.size bl.size) ((cq (World.ownsRow_lit (e:=9) (size:=1) w3 #[ag d] 1 Qr (by unfold maxLen;omega) rfl)) k hk));go_roundw
   case rel =>
    refine ⟨A5,0,c5,0,d :: ps,rfl,?_,⟨(h5.belw b5).belw bg,by have:=hK.2.1.last HQP.out HQ.out;rw [HQ.out,HR.out,HD.out] at this;exact this,?_⟩,bgr⟩
    ·omega
    refine fD.own (base:=w3.heap.size) ?_ hlt5;exact hown5
   case measure =>
    rw [((h5.belw b5).belw bg).valOf,hm5,ah];exact HLT.out
  by_cases hp0:ps=[]
  ·subst hp0
   have hu4:u4=.slice none 0 0:=by
    rcases hK.2.2 with h | h
    ·exact h.2
    exact absurd rfl h.1
   subst hu4
   go_wp2_with (first
    | (go_at_call 220;(with_reducible refine (f7 _ A3 n3 c3 q r q' ?_ ?_ HR.out HQ.out).mono ?_);(exact hK.1);omega;rintro e w2 ⟨A5,n5,c5,rfl,h5,hb2⟩;have e5:decide (0 < n5)=true:=(by have:n5≠0:=(fun e=>h0 (aG.1 (List.eq_nil_of_length_eq_zero (by rw [← h5.2.1];exact e))));simp;omega))
    | (go_at_call 28;(with_reducible refine (jI _ _ r d ?_ ?_ HD.out ?_).mono ?_);(first | rfl | omega);omega;(exact HTab.out.belw (bw.trans (hb2.mono bw.size)));rintro e w3 ⟨rfl,hb3⟩)
    | (go_at_call 65;(with_reducible refine (gG _ _ j z ?_ ?_ HZ.out).mono ?_);omega;omega;rintro e w4 ⟨rfl,hb4⟩)
   )
   have bl:Below wr.heap.size wr w4:=((hb2.mono Qr).trans (hb3.mono hb2.size)).trans (hb4.mono (Nat.le_trans hb2.size hb3.size));have b5:Below w2.heap.size w2 w4:=hb3.trans (hb4.mono hb3.size);go_roundw
   case rel =>
    refine ⟨A5,n5,c5,q',[(z ++ d)],rfl,?_,⟨(h5.belw b5).belw ((Below.refl _ _).alloc Qr _),by have:=hK.2.1.more (by rw [HQ.out];omega);rw [HQ.out,HR.out,HKN.out,HD.out,show 9 - k=j by omega,HZ.out] at this;exact this,?_⟩,(rr.trans (bl.mono rr.size)).alloc (Nat.le_trans rr.size bl.size) _⟩
    ·rw [h5.2.1];exact Nat.le_trans (az (Nat.lt_trans (by first | exact HLT.out | (have:=HLT.out;omega)) (by have:=hK.1.vlt Qr;rw [ah] at this;exact this))) hn3
    have:=fD.one w4 (z ++ d);rw [show ag (z ++ d)=.string (⟨z.toArray⟩ ++ ⟨d.toArray⟩) by rw [iZ]] at this;exact this
   case measure =>
    rw [((h5.belw b5).belw ((Below.refl _ _).alloc Qr _)).valOf,hm5,ah];exact HLT.out
  have hp1:0 < ps.length:=List.length_pos_iff.2 hp0
  obtain ⟨g,cap,hu4,hg,hcap,hcells0⟩:∃ g cap,u4=.slice (some ⟨g,0,none⟩) ps.length cap∧g < wr.heap.size∧ps.length≤cap∧∀ j,j < ps.length→wr.cell? ⟨g,j,none⟩=(strs ps)[j]?:=by
   rcases hK.2.2 with h | h
   ·exact absurd h.1 hp0
   exact h.2
  subst hu4
  have hcells:∀ w',Below wr.heap.size wr w'→∀ S j u,(strs ps)[j]?=some u→(w'.alloc (.cells #[S] 9)).cell? ((⟨g,0,none⟩:Addr).add j)=some u:=by
   intro w' hb S j u hu;have hj:j < ps.length:=by have:=(List.getElem?_eq_some_iff.1 hu).1;rw [e7] at this;exact this
   rw [Lib.add_plain,Nat.zero_add,← hu,← hcells0 j hj];simp only [World.cell?,Below.heap_alloc _ _ _ (Nat.lt_of_lt_of_le hg hb.size),hb.block g hg]
  go_wp2_with (first
   | (go_at_call 220;(with_reducible refine (f7 _ A3 n3 c3 q r q' ?_ ?_ HR.out HQ.out).mono ?_);(exact hK.1);omega;rintro e w2 ⟨A5,n5,c5,rfl,h5,hb2⟩;have e5:decide (0 < n5)=true:=(by have:n5≠0:=(fun e=>h0 (aG.1 (List.eq_nil_of_length_eq_zero (by rw [← h5.2.1];exact e))));simp;omega))
   | (go_at_call 28;(with_reducible refine (jI _ _ r d ?_ ?_ HD.out ?_).mono ?_);(first | rfl | omega);omega;(exact HTab.out.belw (bw.trans (hb2.mono bw.size)));rintro e w3 ⟨rfl,hb3⟩)
   | (go_at_call 65;(with_reducible refine (gG _ _ j z ?_ ?_ HZ.out).mono ?_);omega;omega;rintro e w4 ⟨rfl,hb4⟩)
   | (at_builtin;refine wpList_append_lies _ rfl _ _ _ rfl w4.heap.size 9 i0 (.string ⟨#[]⟩) 1 16 Tryz.underlying113 hi0 hz0 hz1 hz2 rfl (by omega) _ 1 [.string (⟨z.toArray⟩ ++ ⟨d.toArray⟩)] rfl (World.ownsRow_lit w4 #[.string (⟨z.toArray⟩ ++ ⟨d.toArray⟩)] 1 Qr (by unfold maxLen;omega) rfl) ⟨g,0,none⟩ ps.length cap (strs ps) rfl (by rw [e7,Nat.mul_one]) ?_ (kA ps) hp1 (by unfold maxLen;omega) (by omega) (by simp) (w4.heap.size+1) (by simp) ?_;(exact hcells _ (((hb2.mono Qr).trans (hb3.mono hb2.size)).trans (hb4.mono (Nat.le_trans hb2.size hb3.size))) _);intro gx cap2 w5 hown5 hgrow hat hlt5)
  )
  have bl:Below wr.heap.size wr w4:=((hb2.mono Qr).trans (hb3.mono hb2.size)).trans (hb4.mono (Nat.le_trans hb2.size hb3.size));have b5:Below w2.heap.size w2 w4:=hb3.trans (hb4.mono hb3.size);have bg:Below w4.heap.size w4 w5:=((Below.refl _ _).alloc Qr _).grown hgrow (by simp) (cq (World.ownsRow_lit (e:=9) (size:=1) w4 #[.string (⟨z.toArray⟩ ++ ⟨d.toArray⟩)] 1 Qr (by unfold maxLen;omega) rfl));have bgr:Below w1.heap.size w1 w5:=((rr.trans (bl.mono rr.size)).alloc (Nat.le_trans rr.size bl.size) _).grown hgrow (by have:=rr.size;have:=bl.size;simp;omega) (fun k hk=>Nat.le_trans (Nat.le_trans rr.size bl.size) ((cq (World.ownsRow_lit (e:=9) (size:=1) w4 #[.string (⟨z.toArray⟩ ++ ⟨d.toArray⟩)] 1 Qr (by unfold maxLen;omega) rfl)) k hk));go_roundw
  case rel =>
   refine ⟨A5,n5,c5,q',(z ++ d) :: ps,rfl,?_,⟨(h5.belw b5).belw bg,by have:=hK.2.1.more (by rw [HQ.out];omega);rw [HQ.out,HR.out,HKN.out,HD.out,show 9 - k=j by omega,HZ.out] at this;exact this,?_⟩,bgr⟩
   ·rw [h5.2.1];exact Nat.le_trans (az (Nat.lt_trans HLT.out (by have:=hK.1.vlt Qr;rw [ah] at this;exact this))) hn3
   refine fD.own (base:=w4.heap.size) ?_ hlt5;rw [show ag (z ++ d)=.string (⟨z.toArray⟩ ++ ⟨d.toArray⟩) by rw [iZ]];exact hown5
  case measure =>
   rw [((h5.belw b5).belw bg).valOf,hm5,ah];exact HLT.out

theorem aW (l:List UInt8):(⟨l.toArray⟩:ByteArray).toList=l:=by rw [Lib.toList_data]
theorem aq (l:List UInt8):(⟨l.toArray⟩:ByteArray).size=l.length:=rfl
theorem ud (l:List UInt8) (a b:Nat):(⟨l.toArray⟩:ByteArray).extract a b=⟨((l.drop a).take (b - a)).toArray⟩:=by
 apply ByteArray.ext;rw [ByteArray.data_extract];simp
theorem td (w:World) (t:List UInt8) (x:Nat) (hn:t.length≤9) (h0:t≠[]) (ha:t.all bA=true) (hx:aP t=x):Calls Tryz.prog 90 #[ag t] w (aw w (.tuple #[.int .i64 (x:Nat),.nilIface])):=by
 subst hx;refine (Tryz.strconv_Atoi ⟨t.toArray⟩ (aP t:Nat) (by show t.length≤18;omega) (pm ha h0) w).mono fun e w' ⟨he,t,hw⟩=>⟨he,?_⟩
 rw [hw];exact ⟨rfl,rfl,rfl,by rw [Lib.bytesWorld_size];omega,fun j hj=>Lib.bytesWorld_at_old _ _ _ j hj⟩
end Go.Proofs.YtfilnhompchciaaGreatDoor

/- Tokens: plain. -/
namespace Bn
def ct (c:UInt8):Bool:=(decide (97≤c.toNat) && decide (c.toNat≤122)) || (decide (65≤c.toNat) && decide (c.toNat≤90))
def aB (c:UInt8):Bool:=ct c || bA c || c == 95
def sl (c:UInt8):Bool:=c == 123 || c == 125 || c == 59 || c == 46
def fg (c:UInt8):Bool:=c == 32 || c == 9 || c == 13
def bI:List UInt8→Nat
  | []=>0
  | c :: t=>if ct c then 1+(t.takeWhile aB).length else 0
def dl (r:List UInt8):Nat:=(r.takeWhile bA).length
def bU:List UInt8→Nat
  | 45 :: _=>1
  | _=>0
def dI:List UInt8→Nat
  | c :: t=>if (c == 46 || c == 47) && decide (0 < dl t) then 1+dl t else 0
  | []=>0
def dZ (r:List UInt8):Nat:=if dl (r.drop (bU r))=0 then 0 else bU r+dl (r.drop (bU r))+dI (r.drop (bU r+dl (r.drop (bU r))))
def te:List UInt8→Bool
  | c :: _=>ct c || c == 95 || c == 46 || c == 47
  | []=>false
inductive ue where
  | ok (kind n:Nat)
  | err (x:Nat)
def cP (r:List UInt8):ue:=match r with
  | []=>.err 2
  | c :: _=>if sl c then .ok 2 1 else if 0 < bI r then (if 24 < bI r then .err 5 else .ok 0 (bI r))
    else if dZ r=0 then .err 2 else if 60 < dZ r then .err 4 else if te (r.drop (dZ r)) then .err 2 else .ok 1 (dZ r)
structure Tkn where
  kind:Nat
  text:List UInt8
  line:Nat
  col:Nat
deriving DecidableEq
inductive jJ where
  | ok (l:List Tkn)
  | err (x:Nat)
def jJ.push (t:Tkn):jJ→jJ
  | .ok l=>.ok (t :: l)
  | .err x=>.err x
def iu (r:List UInt8):Nat:=(r.takeWhile (fun c=>c != 10)).length
def dz:Nat→List UInt8→Nat→Nat→jJ
  | 0,_,_,_=>.ok []
  | _+1,[],_,_=>.ok []
  | f+1,c :: t,line,col =>
    if c=10 then dz f t (line+1) 1
    else if fg c then dz f t line (col+1)
    else if c=37 then dz f ((c :: t).drop (iu (c :: t))) line (col+iu (c :: t))
    else match cP (c :: t) with
      | .err x=>.err x
      | .ok k n=>(dz f ((c :: t).drop n) line (col+n)).push ⟨k,(c :: t).take n,line,col⟩
theorem px (p:UInt8→Bool) (l:List UInt8):(l.takeWhile p).length≤l.length:=(List.takeWhile_sublist p).length_le
theorem mn (r:List UInt8):dl r≤r.length:=px _ _
theorem gH:∀ (r:List UInt8),bI r≤r.length
 | []=>Qr
 | c :: t=>by
  rw [bI];have:=px aB t;simp only [List.length_cons];split <;> omega
theorem py:∀ (r:List UInt8),dI r≤r.length
 | []=>Qr
 | c :: t=>by
  rw [dI];have:=mn t;simp only [List.length_cons];split <;> omega
theorem rt:∀ (r:List UInt8),bU r≤r.length
 | []=>Qr
 | c :: t=>by unfold bU;split <;> simp
theorem ru (r:List UInt8):dZ r≤r.length:=by
 unfold dZ;split
 ·omega
 have h1:=mn (r.drop (bU r));have h2:=py (r.drop (bU r+dl (r.drop (bU r))));have h3:=rt r;rw [List.length_drop] at h1 h2;omega
theorem jK (r:List UInt8):iu r≤r.length:=px _ _
theorem gI {t:List UInt8}:0 < iu (37 :: t):=by unfold iu;simp
theorem fE {r:List UInt8}{k n:Nat}(h:cP r=.ok k n):0 < n∧n≤r.length:=by
 unfold cP at h;split at h
 ·cases h
 rename_i c t;split at h
 ·injection h with _ h;subst h;simp
 split at h
 ·split at h
  ·cases h
  injection h with _ h;subst h;exact ⟨by assumption,gH _⟩
 split at h
 ·cases h
 split at h
 ·cases h
 split at h
 ·cases h
 injection h with _ h;subst h;exact ⟨by omega,ru _⟩
theorem jc:∀ (f g:Nat) (r:List UInt8) (line col:Nat),r.length < f→r.length < g→dz f r line col=dz g r line col:=by
 intro f
 induction f with
 | zero=>intro g r _ _ h;omega
 | succ f ih =>
  intro g r line col hf hg
  cases g with
  | zero=>omega
  | succ g =>
   cases r with
   | nil=>rfl
   | cons c t =>
    simp only [List.length_cons] at hf hg;unfold dz;split
    ·exact ih g t _ _ (by omega) (by omega)
    split
    ·exact ih g t _ _ (by omega) (by omega)
    split
    ·rename_i h37
     subst h37;have h1:=gI (t:=t);have h2:=jK (37 :: t);simp only [List.length_cons] at h2;exact ih g _ _ _ (by rw [List.length_drop];simp only [List.length_cons];omega) (by rw [List.length_drop];simp only [List.length_cons];omega)
    split
    ·rfl
    rename_i k n h;have h1:=fE h;simp only [List.length_cons] at h1;rw [ih g _ _ _ (by rw [List.length_drop];simp only [List.length_cons];omega) (by rw [List.length_drop];simp only [List.length_cons];omega)]
def jL (s:List UInt8):jJ:=dz (s.length+1) s 1 1
end Bn

/- Tokens of joined texts: plain. -/
namespace Bn
def ry (c:UInt8):Bool:=c == 32 || c == 9 || c == 10 || c == 13 || c == 37
def nq (e:List UInt8):Prop:=e=[]∨∃ c t,e=c :: t∧ry c=true
theorem gJ {c:UInt8}(h:ry c=true):aB c=false∧bA c=false∧(c == 46)=false∧(c == 47)=false∧ct c=false∧(c == 95)=false:=by
 unfold ry at h;simp only [Bool.or_eq_true,beq_iff_eq] at h;rcases h with (((h | h) | h) | h) | h <;> subst h <;> decide
theorem gK {p:UInt8→Bool}:∀ (l:List UInt8),(l.takeWhile p).all p=true:=by
 intro l
 induction l with
 | nil=>rfl
 | cons x r ih =>
  rw [List.takeWhile_cons];split
  ·rename_i h;rw [List.all_cons,h,ih];rfl
  rfl
theorem pz {p:UInt8→Bool}:∀ {a:List UInt8}(e:List UInt8),a.all p=true→(∀ c t,e=c :: t→p c=false)→(a ++ e).takeWhile p=a:=by
 intro a
 induction a with
 | nil =>
  intro e _ he
  cases e with
  | nil=>rfl
  | cons c t=>rw [List.nil_append,List.takeWhile_cons,he c t rfl];rfl
 | cons x r ih =>
  intro e h he;rw [List.all_cons,Bool.and_eq_true] at h;rw [List.cons_append,List.takeWhile_cons,h.1,if_pos rfl,ih e h.2 he]
theorem fh (p:UInt8→Bool) (l:List UInt8):∃ d,l=l.takeWhile p ++ d∧(∀ c t,d=c :: t→p c=false):=by
 refine ⟨l.dropWhile p,(List.takeWhile_append_dropWhile).symm,fun c t h=>?_⟩
 induction l with
 | nil=>simp at h
 | cons x r ih =>
  rw [List.dropWhile_cons] at h;split at h
  ·exact ih h
  injection h with h1 _;subst h1;simp_all
theorem nq.np {e:List UInt8}(h:nq e) (c:UInt8) (t:List UInt8) (he:e=c :: t):ry c=true:=by
 rcases h with h | ⟨c',t',h,hs⟩
 ·rw [h] at he;cases he
 rw [h] at he;injection he with h1 _;rw [← h1];exact hs
theorem jM {l:List UInt8}(h:l.all bA=true):10 ∉ l:=fun h1=>by
 rw [List.all_eq_true] at h;exact absurd (h 10 h1) (by decide)
theorem nr (r:List UInt8):∃ M d,r=M ++ d∧dI r=M.length∧10 ∉ M∧∀ e,nq e→dI (M ++ e)=M.length∧(∀ c t,M ++ e=c :: t→bA c=false):=by
 have hs:∀ e,nq e→dI ([] ++ e)=0∧(∀ c t,([]:List UInt8) ++ e=c :: t→bA c=false):=by
  intro e he;rw [List.nil_append];refine ⟨?_,fun c t h=>(gJ (he.np c t h)).2.1⟩
  cases e with
  | nil=>rfl
  | cons c t =>
   have:=gJ (he.np c t rfl);rw [dI,this.2.2.1,this.2.2.2.1];rfl
 cases r with
 | nil=>exact ⟨[],[],rfl,rfl,by simp,hs⟩
 | cons c t =>
  by_cases h:((c == 46 || c == 47) && decide (0 < dl t))=true
  ·obtain ⟨d,h1,h2⟩:=fh bA t
   have h3:(c == 46 || c == 47)=true:=by rw [Bool.and_eq_true] at h;exact h.1
   have h4:0 < dl t:=by rw [Bool.and_eq_true,decide_eq_true_eq] at h;exact h.2
   refine ⟨c :: t.takeWhile bA,d,by rw [List.cons_append,← h1],?_,?_,?_⟩
   ·rw [dI,h,if_pos rfl,List.length_cons];unfold dl;omega
   ·intro h6
    rcases List.mem_cons.1 h6 with e | e
    ·subst e;exact absurd h3 (by decide)
    exact jM (gK t) e
   intro e he
   have h5:dl (t.takeWhile bA ++ e)=(t.takeWhile bA).length:=by
    unfold dl;rw [pz e (gK t) (fun c t h=>(gJ (he.np c t h)).2.1)]
   refine ⟨?_,fun c' t' h'=>?_⟩
   ·rw [List.cons_append,dI,h5,h3]
    have:0 < (t.takeWhile bA).length:=h4;rw [if_pos (by simp;exact this),List.length_cons];omega
   injection h' with h6 _;subst h6;rw [Bool.or_eq_true,beq_iff_eq,beq_iff_eq] at h3;rcases h3 with e | e <;> subst e <;> decide
  have h':((c == 46 || c == 47) && decide (0 < dl t))=false:=by simpa using h
  exact ⟨[],c :: t,rfl,by rw [dI,h'];rfl,by simp,hs⟩
theorem lI {c:UInt8}{t:List UInt8}(h:bA c=true):bU (c :: t)=0:=by
 unfold bU;split
 ·rename_i h1;injection h1 with h1 _;subst h1;exact absurd h (by decide)
 rfl
theorem pA {r:List UInt8}(h:0 < dZ r):∃ P d c t,r=P ++ d∧P.length=dZ r∧P=c :: t∧(bA c=true∨c=45)∧10 ∉ P∧∀ e,nq e→dZ (P ++ e)=P.length:=by
 have hk:0 < dl (r.drop (bU r)):=by
  rcases Nat.eq_zero_or_pos (dl (r.drop (bU r))) with e | e
  ·unfold dZ at h;rw [if_pos e] at h;omega
  exact e
 obtain ⟨d0,e0,g0⟩:=fh bA (r.drop (bU r));obtain ⟨D,hD⟩:∃ D,(r.drop (bU r)).takeWhile bA=D:=⟨_,rfl⟩;have hDa:D.all bA=true:=by rw [← hD];exact gK _
 have hDl:dl (r.drop (bU r))=D.length:=by unfold dl;rw [hD]
 rw [hD] at e0;rw [hDl] at hk
 obtain ⟨x,D',hx⟩:∃ x D',D=x :: D':=by
  cases D with
  | nil=>simp at hk
  | cons x D'=>exact ⟨x,D',rfl⟩
 have hxd:bA x=true:=by rw [hx,List.all_cons,Bool.and_eq_true] at hDa;exact hDa.1
 have hdd:(r.drop (bU r)).drop D.length=d0:=by rw [e0];simp
 obtain ⟨M,d,e1,e2,e10,e3⟩:=nr d0
 have hn:dZ r=bU r+D.length+M.length:=by
  unfold dZ;rw [hDl,if_neg (by omega),← List.drop_drop,hdd,e2]
 have hmin:(bU r=0∧r=D ++ d0)∨(bU r=1∧r=45 :: (D ++ d0)):=by
  cases r with
  | nil=>simp [bU] at e0;left;exact ⟨rfl,by simpa using e0⟩
  | cons c t =>
   by_cases hc:c=45
   ·subst hc;right;refine ⟨rfl,?_⟩
    have:bU (45 :: t)=1:=rfl;rw [this] at e0;simp at e0;rw [← e0]
   left
   have:bU (c :: t)=0:=by
    unfold bU;split
    ·rename_i h1;injection h1 with h1 _;exact absurd h1 hc
    rfl
   refine ⟨this,?_⟩;rw [this] at e0;simpa using e0
 have key:∀ e,nq e→dl (D ++ (M ++ e))=D.length∧dI (M ++ e)=M.length:=by
  intro e he;obtain ⟨h1,h2⟩:=e3 e he;refine ⟨?_,h1⟩;unfold dl;rw [pz (M ++ e) hDa h2]
 rcases hmin with ⟨m0,hr⟩ | ⟨m1,hr⟩
 ·refine ⟨D ++ M,d,x,D' ++ M,by rw [hr,e1,List.append_assoc],by rw [hn,m0,List.length_append];omega,by rw [hx];rfl,.inl hxd,fun h=>by rcases List.mem_append.1 h with h | h;exact jM hDa h;exact e10 h,fun e he=>?_⟩
  obtain ⟨h1,h2⟩:=key e he;have hm:bU (D ++ M ++ e)=0:=by rw [hx];exact lI hxd
  unfold dZ;rw [hm,List.drop_zero,List.append_assoc,h1,if_neg (by omega),Nat.zero_add,List.drop_left,h2,List.length_append]
 refine ⟨45 :: (D ++ M),d,45,D ++ M,by rw [hr,e1,List.cons_append,List.append_assoc],by rw [hn,m1,List.length_cons,List.length_append];omega,rfl,.inr rfl,fun h=>by rcases List.mem_cons.1 h with h | h;exact absurd h (by decide);rcases List.mem_append.1 h with h | h;exact jM hDa h;exact e10 h,fun e he=>?_⟩;obtain ⟨h1,h2⟩:=key e he;have hm:bU (45 :: (D ++ M) ++ e)=1:=rfl;unfold dZ;rw [hm];rw [show (45 :: (D ++ M) ++ e).drop 1=D ++ (M ++ e) by simp];rw [h1,if_neg (by omega),← List.drop_drop];rw [show (45 :: (D ++ M) ++ e).drop 1=D ++ (M ++ e) by simp];rw [List.drop_left,h2,List.length_cons,List.length_append];omega
theorem lJ {r:List UInt8}{k n:Nat}(h:cP r=.ok k n):10 ∉ r.take n:=by
 unfold cP at h;split at h
 ·cases h
 rename_i c t;split at h
 ·rename_i hs
  injection h with h1 h2;subst h2;intro h3;have h4:(10:UInt8)=c:=by simpa using h3
  subst h4;exact absurd hs (by decide)
 split at h
 ·rename_i hw
  split at h
  ·cases h
  injection h with h1 h2
  have hl:ct c=true:=by
   rw [bI] at hw;split at hw
   ·assumption
   omega
  have hwn:bI (c :: t)=1+(t.takeWhile aB).length:=by rw [bI,hl,if_pos rfl]
  obtain ⟨d,e1,_⟩:=fh aB t
  have ht:(c :: t).take n=c :: t.takeWhile aB:=by
   rw [← h2,hwn,Nat.add_comm,List.take_succ_cons];congr 1;exact (congrArg (List.take _) e1).trans List.take_left
  rw [ht];intro h3;rcases List.mem_cons.1 h3 with e | e
  ·subst e;exact absurd hl (by decide)
  have:=gK (p:=aB) t;rw [List.all_eq_true] at this;exact absurd (this 10 e) (by decide)
 split at h
 ·cases h
 rename_i hn0;split at h
 ·cases h
 split at h
 ·cases h
 injection h with h1 h2;obtain ⟨P,d,x,P',e1,e2,e3,e4,e10,e5⟩:=pA (Nat.pos_of_ne_zero hn0);have hP:(c :: t).take n=P:=by rw [← h2,← e2,e1];exact List.take_left
 rw [hP];exact e10
end Bn

/- Tokens of joined texts, blanks and comments between them: plain. -/
namespace Bn
def tk (r:List UInt8) (line col:Nat):jJ:=dz (r.length+1) r line col
theorem tf (line col:Nat):tk [] line col=.ok []:=rfl
theorem mo (t:List UInt8) (line col:Nat):tk (10 :: t) line col=tk t (line+1) 1:=by
 unfold tk;rw [List.length_cons]
 conv=>lhs;unfold dz
 rw [if_pos rfl]
theorem nt {c:UInt8}(h:fg c=true):c≠10:=by
 rintro rfl;exact absurd h (by decide)
theorem kC {c:UInt8}(h:fg c=true) (t:List UInt8) (line col:Nat):tk (c :: t) line col=tk t line (col+1):=by
 unfold tk;rw [List.length_cons]
 conv=>lhs;unfold dz
 rw [if_neg (nt h),if_pos h]
theorem tg (t:List UInt8) (line col:Nat):tk (37 :: t) line col=tk ((37 :: t).drop (iu (37 :: t))) line (col+iu (37 :: t)):=by
 have h1:=gI (t:=t);have h2:=jK (37 :: t);unfold tk
 conv=>lhs;rw [List.length_cons];unfold dz
 rw [if_neg (by decide),if_neg (by decide),if_pos rfl];simp only [List.length_cons] at h2;refine jc _ _ _ _ _ ?_ ?_ <;> rw [List.length_drop,List.length_cons] <;> omega
theorem kD {c:UInt8}{t:List UInt8}{k n:Nat}(h:cP (c :: t)=.ok k n):c≠10∧fg c=false∧c≠37:=by
 have key:∀ c:UInt8,sl c=false→ct c=false→bA c=false→c≠45→∀ t k n,cP (c :: t)≠.ok k n:=by
  intro c h1 h2 h3 h4 t k n h;have hw:bI (c :: t)=0:=by rw [bI,h2];rfl
  have hm:bU (c :: t)=0:=by
   unfold bU;split
   ·rename_i h5;injection h5 with h5 _;exact absurd h5 h4
   rfl
  have hn:dZ (c :: t)=0:=by
   unfold dZ;rw [hm,List.drop_zero,if_pos (by unfold dl;rw [List.takeWhile_cons,h3];rfl)]
  unfold cP at h;simp [h1,hw,hn] at h
 refine ⟨?_,?_,?_⟩
 ·rintro rfl;exact key 10 (by decide) (by decide) (by decide) (by decide) t k n h
 ·cases hb:fg c
  ·rfl
  exfalso;unfold fg at hb;simp only [Bool.or_eq_true,beq_iff_eq] at hb;rcases hb with (e | e) | e <;> subst e
  ·exact key 32 (by decide) (by decide) (by decide) (by decide) t k n h
  ·exact key 9 (by decide) (by decide) (by decide) (by decide) t k n h
  exact key 13 (by decide) (by decide) (by decide) (by decide) t k n h
 rintro rfl;exact key 37 (by decide) (by decide) (by decide) (by decide) t k n h
theorem th {c:UInt8}{t:List UInt8}{k n:Nat}(h:cP (c :: t)=.ok k n) (line col:Nat) :
 tk (c :: t) line col=(tk ((c :: t).drop n) line (col+n)).push ⟨k,(c :: t).take n,line,col⟩:=by
 obtain ⟨h1,h2,h3⟩:=kD h;have h4:=fE h;unfold tk
 conv=>lhs;rw [List.length_cons];unfold dz
 rw [if_neg h1,if_neg (by rw [h2];simp),if_neg h3,h];simp only [List.length_cons] at h4;dsimp only;rw [jc (t.length+1) (((c :: t).drop n).length+1) _ _ _ (by rw [List.length_drop,List.length_cons];omega) (by omega)]
theorem ti {c:UInt8}{t:List UInt8}{x:Nat}(h:cP (c :: t)=.err x) (h1:c≠10) (h2:fg c=false) (h3:c≠37) (line col:Nat):tk (c :: t) line col=.err x:=by
 unfold tk;rw [List.length_cons];unfold dz;rw [if_neg h1,if_neg (by rw [h2];simp),if_neg h3,h]
def kE (s:List UInt8):Prop:=∀ rest line col,∃ line' col',tk (s ++ rest) line col=tk rest line' col'
theorem kE.nil:kE []:=fun _ line col=>⟨line,col,rfl⟩
theorem kE.line {s:List UInt8}(h:kE s):kE (10 :: s):=fun rest line col=>by
 obtain ⟨a,b,e⟩:=h rest (line+1) 1;exact ⟨a,b,by rw [List.cons_append,mo,e]⟩
theorem kE.blank {c:UInt8}{s:List UInt8}(hc:fg c=true) (h:kE s):kE (c :: s):=fun rest line col=>by
 obtain ⟨a,b,e⟩:=h rest line (col+1);exact ⟨a,b,by rw [List.cons_append,kC hc,e]⟩
def shape:jJ→Option (List (Nat × List UInt8))
  | .ok l=>some (l.map fun t=>(t.kind,t.text))
  | .err _=>none
end Bn

/- Every token stands at its place: plain. -/
namespace Bn
def kF (line col:Nat) (t:Tkn):Prop:=line < t.line∨(line=t.line∧col≤t.col)
theorem kF.mono {line col col':Nat}{t:Tkn}(h:kF line col' t) (hc:col≤col'):kF line col t:=by
 rcases h with h | ⟨h,h1⟩
 ·exact .inl h
 exact .inr ⟨h,Nat.le_trans hc h1⟩
theorem eG:∀ (f:Nat) (r:List UInt8) (line col:Nat) (l:List Tkn),dz f r line col=.ok l→∀ t∈l,kF line col t:=by
 intro f
 induction f with
 | zero=>intro r line col l h t ht;unfold dz at h;injection h with h;subst h;cases ht
 | succ f ih =>
  intro r line col l h t ht
  cases r with
  | nil=>unfold dz at h;injection h with h;subst h;cases ht
  | cons c s =>
   unfold dz at h;split at h
   ·rcases ih _ _ _ _ h t ht with e | ⟨e,_⟩
    ·exact .inl (by omega)
    exact .inl (by omega)
   split at h
   ·exact (ih _ _ _ _ h t ht).mono (by omega)
   split at h
   ·exact (ih _ _ _ _ h t ht).mono (by omega)
   split at h
   ·cases h
   rename_i k n hf
   cases hx:dz f ((c :: s).drop n) line (col+n) with
   | err x=>rw [hx] at h;cases h
   | ok l' =>
    rw [hx] at h;injection h with h;subst h;rcases List.mem_cons.1 ht with e | e
    ·subst e;exact .inr ⟨rfl,Qr⟩
    exact (ih _ _ _ _ hx t e).mono (by omega)
def PlI (s:List UInt8) (l:List Tkn) (i line col k left:Nat):Prop:=k≤l.length∧∃ u rest,s.drop i=u ++ rest∧10 ∉ u∧tk rest line (col+u.length)=.ok (l.drop k)∧(left=u.length∨left=0)
theorem PlI.start {s:List UInt8}{l:List Tkn}(h:jL s=.ok l):PlI s l 0 1 1 0 0:=⟨Nat.zero_le _,[],s,rfl,by simp,h,.inr rfl⟩
theorem PlI.fin {s:List UInt8}{l:List Tkn}{line col k left:Nat}(h:PlI s l s.length line col k left):k=l.length:=by
 obtain ⟨hk,u,rest,h1,_,h2,_⟩:=h;rw [List.drop_length] at h1;have h3:=List.append_eq_nil_iff.1 h1.symm;rw [h3.2,tf] at h2;injection h2 with h2;have:=congrArg List.length h2;rw [List.length_drop] at this;simp at this;omega
def jd (l:List Tkn) (line col k left:Nat):Bool:=decide (left=0) && (match l[k]? with | some t=>decide (t.line=line) && decide (t.col=col) | none=>false)
def dm (c:UInt8) (line:Nat):Nat:=if c=10 then line+1 else line
def dU (c:UInt8) (col:Nat):Nat:=if c=10 then 1 else col+1
theorem gL {l:List Tkn}{line col k left:Nat}{line' col':Nat}(h:∀ t∈l.drop k,kF line' col' t) (hp:line < line'∨(line=line'∧col < col')):jd l line col k left=false:=by
 unfold jd
 cases hk:l[k]? with
 | none=>simp
 | some t =>
  have hm:t∈l.drop k:=by
   obtain ⟨h1,h2⟩:=List.getElem?_eq_some_iff.1 hk;rw [List.drop_eq_getElem_cons h1,h2];simp
  have:=h t hm
  have h3:¬ (t.line=line∧t.col=col):=by
   rintro ⟨a,b⟩;rcases this with e | ⟨e,e2⟩ <;> rcases hp with g | ⟨g,g2⟩ <;> omega
  simp only [Bool.and_eq_false_iff,decide_eq_false_iff_not];right;by_cases ha:t.line=line
  ·right;exact fun hb=>h3 ⟨ha,hb⟩
  left;exact ha
theorem PlI.inner {s:List UInt8}{l:List Tkn}{i line col k left:Nat}{c:UInt8}{t u rest:List UInt8}(hk:k≤l.length) (hd:s.drop i=c :: t) (h1:s.drop i=u ++ rest) (hu:10 ∉ u) (h2:tk rest line (col+u.length)=.ok (l.drop k)) (h3:left=u.length∨left=0) (hne:u≠[]) :
 jd l line col k left=false∧PlI s l (i+1) (dm c line) (dU c col) k (left - 1):=by
 obtain ⟨x,u',rfl⟩:=List.exists_cons_of_ne_nil hne;have hx:x=c∧t=u' ++ rest:=by rw [hd] at h1;injection h1 with a b;exact ⟨a.symm,b⟩
 obtain ⟨rfl,ht⟩:=hx;have hx10:x≠10:=fun e=>hu (by rw [e];simp)
 rw [List.length_cons] at h2 h3;have hd1:s.drop (i+1)=t:=by rw [← List.drop_drop,hd];rfl
 refine ⟨gL (eG _ _ _ _ _ h2) (.inr ⟨rfl,by omega⟩),hk,u',rest,by rw [hd1,ht],fun h=>hu (by simp [h]),?_,by omega⟩;unfold dm dU;rw [if_neg hx10,if_neg hx10,show col+1+u'.length=col+(u'.length+1) by omega];exact h2
theorem PlI.step {s:List UInt8}{l:List Tkn}{i line col k left:Nat}(h:PlI s l i line col k left) {c:UInt8}{t:List UInt8}(hd:s.drop i=c :: t) :
 (jd l line col k left=false∧PlI s l (i+1) (dm c line) (dU c col) k (left - 1)) ∨
 (jd l line col k left=true∧∃ x,l[k]?=some x∧0 < x.text.length∧i+x.text.length≤s.length∧(s.drop i).take x.text.length=x.text∧PlI s l (i+1) (dm c line) (dU c col) (k+1) (x.text.length - 1)):=by
 obtain ⟨hk,u,rest,h1,hu,h2,h3⟩:=h;by_cases hne:u=[]
 ·subst hne
  rw [List.nil_append] at h1;rw [List.length_nil,Nat.add_zero] at h2;have hl0:left=0:=by rcases h3 with e | e <;> simpa using e
  subst hl0;have hd1:s.drop (i+1)=t:=by rw [← List.drop_drop,hd];rfl
  have hr:rest=c :: t:=by rw [← h1,hd]
  subst hr;by_cases h10:c=10
  ·subst h10
   rw [mo] at h2;left;refine ⟨gL (eG _ _ _ _ _ h2) (.inl (by omega)),hk,[],t,by rw [hd1];rfl,by simp,?_,.inr rfl⟩;exact h2
  by_cases hb:fg c=true
  ·rw [kC hb] at h2
   left;refine ⟨gL (eG _ _ _ _ _ h2) (.inr ⟨rfl,by omega⟩),hk,[],t,by rw [hd1];rfl,by simp,?_,.inr rfl⟩;unfold dm dU;rw [if_neg h10,if_neg h10];exact h2
  by_cases h37:c=37
  ·subst h37
   rw [tg] at h2;left;have hp:=gI (t:=t);have hle:=jK (37 :: t);have hlen:((37 :: t).take (iu (37 :: t))).length=iu (37 :: t):=by rw [List.length_take];omega
   refine PlI.inner hk hd (h1.trans (List.take_append_drop _ _).symm) ?_ (by rw [hlen];exact h2) (.inr rfl) (fun e=>by rw [e] at hlen;simp at hlen;omega);intro hm
   have:(37 :: t).take (iu (37 :: t))=(37 :: t).takeWhile (fun c=>c != 10):=by
    obtain ⟨d,e,_⟩:=fh (fun c=>c != 10) (37 :: t);exact (congrArg (List.take _) e).trans List.take_left
   rw [this] at hm;have h4:=gK (p:=fun c=>c != 10) (37 :: t);rw [List.all_eq_true] at h4;exact absurd (h4 10 hm) (by decide)
  cases hf:cP (c :: t) with
  | err x=>rw [ti hf h10 (by simpa using hb) h37] at h2;cases h2
  | ok kk n =>
   rw [th hf] at h2;have hn:=fE hf
   cases hx:tk ((c :: t).drop n) line (col+n) with
   | err x=>rw [hx] at h2;cases h2
   | ok l' =>
    rw [hx] at h2;injection h2 with h2
    have hkl:k < l.length:=by
     rcases Nat.lt_or_ge k l.length with e | e
     ·exact e
     rw [List.drop_eq_nil_of_le e] at h2;cases h2
    rw [List.drop_eq_getElem_cons hkl] at h2;injection h2 with h4 h5;have hlt:((c :: t).take n).length=n:=by rw [List.length_take];omega
    right;have hg:l[k]?=some ⟨kk,(c :: t).take n,line,col⟩:=by rw [List.getElem?_eq_getElem hkl,h4]
    have hlen:i+n≤s.length:=by
     have:=congrArg List.length hd;rw [List.length_drop] at this;have h7:(c :: t).length≤s.length - i:=by omega
     have h8:0 < (c :: t).length:=by simp
     omega
    refine ⟨?_,⟨kk,(c :: t).take n,line,col⟩,hg,by dsimp only;omega,by dsimp only;omega,by dsimp only;rw [hlt,hd],?_⟩
    ·unfold jd;rw [hg];simp
    dsimp only;rw [hlt];obtain ⟨m,rfl⟩:∃ m,n=m+1:=⟨n - 1,by omega⟩;have hno:=lJ hf;rw [List.take_succ_cons] at hno;refine ⟨by omega,t.take m,t.drop m,by rw [hd1,List.take_append_drop],fun h=>hno (by simp [h]),?_,.inl ?_⟩
    ·unfold dm dU
     rw [if_neg h10,if_neg h10];have hm:(t.take m).length=m:=by rw [List.length_take];simp at hn;omega
     rw [hm,← h5];rw [List.drop_succ_cons] at hx;rw [show col+1+m=col+(m+1) by omega];exact hx
    rw [List.length_take];simp at hn;omega
 exact .inl (PlI.inner hk hd h1 hu h2 h3 hne)
end Bn
