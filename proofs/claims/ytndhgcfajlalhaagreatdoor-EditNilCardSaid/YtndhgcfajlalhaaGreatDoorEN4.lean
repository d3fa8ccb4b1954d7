/- Part EN4: lemmas and walks that the claim rests on. No claim is made here. -/
import Derived.BigQuiet
import Derived.Deep.RegionHeld3
import Derived.Deep.DrawnRows
import Derived.Deep.AppendLies
import Derived.Deep.DeepCutAuto
import Derived.Test.YtndhgcfajlalhaaGreatDoorEN3
set_option linter.unusedVariables false
set_option maxHeartbeats 8000000
set_option maxRecDepth 100000
/- Walks: linkages: what is wrong with one: the bodies (program). -/
namespace Go.Proofs.YtndhgcfajlalhaaGreatDoor
open Go Go.RowKit Bn
attribute [local go_sem ↓] Go.wp_at_zero Go.wp_at_succ
theorem de (w:World) (i:Int) (n:Nat) (v:Bool) (hv:inI i n=v):Calls Tryz.prog 97 #[.int .i64 i,.int .i64 (n:Nat)] w (fun e w'=>e=.returned (.bool v)∧w'=w):=by
 subst hv;by_cases h1:0≤i
 ·by_cases h2:i < (n:Int)
  ·have e:inI i n=true:=by unfold inI;simp [h1,h2]
   rw [e];have f1:(0≤i)=True:=eq_true h1;have f2:(i < (n:Int))=True:=eq_true h2;go_in;go_wp2;go_ret;exact ⟨rfl,rfl⟩
  have e:inI i n=false:=by unfold inI;simp [h2]
  rw [e];have f1:(0≤i)=True:=eq_true h1;have f2:(i < (n:Int))=False:=eq_false h2;go_in;go_wp2;go_ret;exact ⟨rfl,rfl⟩
 have e:inI i n=false:=by unfold inI;simp [h1]
 rw [e];have f1:(0≤i)=False:=eq_false h1;go_in;go_wp2;go_ret;exact ⟨rfl,rfl⟩
theorem sI (w:World) (i:Int) (n:Nat) (v:Bool) (hv:inI i n=v):Calls Tryz.prog 97 #[.int .i64 i,.int .i64 (n:Nat)] w (aB w (.bool v)):=(de w i n v hv).mono fun _ _ ⟨h1,h2⟩=>⟨h1,h2 ▸ aa _⟩
theorem uY (w:World) (A:Option Addr) (n c:Nat) (l:List aj) (k:Nat) (h:SlS (eM k) 2 w A n c l) (hk:k≤300000000) (hn:n≤1000) (x:Int) (hx:co bE [] l=x):Calls Tryz.prog 55 #[.slice A n c] w (aB w (be x)):=by
 have hnc:=h.2.1;have HX:=Qh (fu hx);clear hx;go_in;go_wp2_with fail;go_loopw [13] (fun iv wr=>∃ i:Nat,iv=.int .i64 (i:Nat)∧i≤n∧Hid (co bE (l.take i) (l.drop i)=x)∧Below w.heap.size w wr) (fun iv _=>n - (intOf iv).toNat)
 case atStart=>exact ⟨0,rfl,Nat.zero_le _,HX,aa w⟩
 case round =>
  clear HX;obtain ⟨i,rfl,hi,HX,hb⟩:=hrel;rename World=>wa;rcases Nat.lt_or_ge i n with hlt | hge
  ·have hi1:((i:Int) < (n:Int))=True:=by simp;omega
   obtain ⟨g,o,b,e,hg,_,hbi,hB⟩:=(h.bd hb).at_ hlt;subst e;have hstep:=gy HX.out hbi;obtain ⟨A',n',c',c0,c1,hM,hnm⟩:=hB;have HR:=Qh (h.bd hb);have HM:=Qh hM;have HS:=Qh hstep;have HN:=Qh hnm;have HB:=Qh hbi;obtain ⟨v,hv⟩:∃ v,aZ b.name=v:=⟨_,rfl⟩;have HV:=Qh hv;clear h hM hstep hnm hbi hv HX;go_wp2_with fail;(with_reducible refine (kK _ b.name HN.out v HV.out).mono ?_);rintro e w1 ⟨rfl,hb1⟩;have q1:=hb1.q1;have x1:Blk w1 wa.heap.size 51 #[ae b.name,.slice A' n' c']:=(ak _ _ _ (by simp)).below hb1 (by simp);have bw1:=hb.trans (q1.mono hb.size);clear hb1;cases v
   ·have h5:x=5:=by
     have e5:bE (l.take i) b=5:=if_pos HV.out;rcases HS.out with ⟨z,_⟩ | ⟨_,z⟩
     ·rw [e5] at z;cases z
     rw [← z,e5]
    go_wp2;go_ret;exact ⟨by rw [h5];rfl,bw1⟩
   obtain ⟨cB0,cB1⟩:=x1.c2;go_wp2_with fail;clear cB0 cB1;go_loopw [27] (fun jv w2=>∃ j:Nat,jv=.int .i64 (j:Nat)∧j≤i∧Hid (twN ((l.take j).map aj.name) b.name=false)∧Below w1.heap.size w1 w2) (fun jv _=>i - (intOf jv).toNat)
   case atStart=>exact ⟨0,rfl,Nat.zero_le _,Qh rfl,aa w1⟩
   case round =>
    obtain ⟨j,rfl,hj,HT,hb2⟩:=hrel;rename World=>w2;have x2:=x1.below hb2 x1.lt;have bw2:=bw1.trans (hb2.mono bw1.size);obtain ⟨cB0,cB1⟩:=x2.c2;have hlw:wa.heap.size < w2.heap.size:=x2.lt;rcases Nat.lt_or_ge j i with hjl | hjg
    ·have hj1:((j:Int) < (i:Int))=True:=by simp;omega
     have hjn:j < n:=by omega
     obtain ⟨a,ha,hA⟩:=((HR.out.bd q1).bd hb2).rowAt hjn;obtain ⟨A2,n2,c2,d0,d1,hM2,hn2⟩:=hA;have hgw:g < w2.heap.size:=by have:=hb2.size;have:=q1.size;omega
     clear hM2 hn2;have hne1:¬ wa.heap.size=w2.heap.size:=by omega
     have hne2:¬ g=w2.heap.size:=by omega
     have htl:=aV b.name;by_cases heq:a.name=b.name
     ·have h6:x=6:=by
       have e6:bE (l.take i) b=6:=by
        unfold bE;rw [HV.out,if_neg (by decide),if_pos (gB ha hjl heq)]
       rcases HS.out with ⟨z,_⟩ | ⟨_,z⟩
       ·rw [e6] at z;cases z
       rw [← z,e6]
      rw [heq] at d0;have hee:(b.name == b.name)=true:=by simp
      clear heq ha;go_wp2;go_ret;exact ⟨by rw [h6];rfl,bw2.alloc bw2.size _⟩
     have hta:=aV a.name;have HT2:=Qh (iX ha HT.out heq);have hee:(a.name == b.name)=false:=beq_eq_false_iff_ne.2 heq;clear heq ha HT;go_wp2_with fail;go_roundw
     case rel=>exact ⟨j+1,by go_num,by omega,HT2,hb2.alloc hb2.size _⟩
     case measure=>simp [intOf];omega
    have hj1:((j:Int) < (i:Int))=False:=by simp;omega
    obtain rfl:j=i:=by omega
    clear cB0 cB1 c0 c1;have hlen':b.pts.length=n':=HM.out.1;by_cases h8:8 < n'
    ·have f8:((8:Int) < (n':Int))=True:=eq_true (by omega)
     have h4:x=4:=by
      have e4:bE (l.take j) b=4:=by
       unfold bE;rw [HV.out,if_neg (by decide),HT.out,if_neg (by decide),if_pos (by rw [hlen'];exact h8)]
      rcases HS.out with ⟨z,_⟩ | ⟨_,z⟩
      ·rw [e4] at z;cases z
      rw [← z,e4]
     obtain ⟨cB0,cB1⟩:=x2.c2;clear hlen';go_wp2;go_ret;exact ⟨by rw [h4];rfl,bw2⟩
    have f8:((8:Int) < (n':Int))=False:=eq_false (by omega);obtain ⟨y,hy⟩:∃ y,co cq [] b.pts=y:=⟨_,rfl⟩
    have HE:Hid (bE (l.take j) b=y):=Qh (by
     unfold bE;rw [HV.out,if_neg (by decide),HT.out,if_neg (by decide),if_neg (by rw [hlen'];exact h8)]
     exact hy)
    have HP:=Qh (fu hy);have HM2:=Qh ((HM.out.mk_ q1).mk_ hb2);obtain ⟨cB0,cB1⟩:=x2.c2;clear hy hlen' HV HT HM;go_wp2_with fail;clear cB0 cB1;go_loopw [46] (fun pv wr=>∃ p:Nat,pv=.int .i64 (p:Nat)∧p≤n'∧Hid (co cq (b.pts.take p) (b.pts.drop p)=y)∧Below w2.heap.size w2 wr) (fun pv _=>n' - (intOf pv).toNat)
    case atStart=>exact ⟨0,rfl,Nat.zero_le _,HP,aa w2⟩
    case round =>
     clear HP;obtain ⟨p,rfl,hp,HP,hb3⟩:=hrel;rename World=>w3;have x3:=x2.below hb3 x2.lt;have bw3:=bw2.trans (hb3.mono bw2.size);have hlw3:wa.heap.size < w3.heap.size:=x3.lt;rcases Nat.lt_or_ge p n' with hpl | hpg
     ·have hp1:((p:Int) < (n':Int))=True:=by simp;omega
      obtain ⟨g',o',m,e,hg',_,hmp,hMk⟩:=(HM2.out.mk_ hb3).at_ hpl;subst e;have hst:=gy HP.out hmp;obtain ⟨d0,⟨b1,A1,n1,c1,D1,m1,e1,d1,d2,d3,hQ1⟩,⟨b2,A2,n2,c2,D2,m2,e2,d4,d5,d6,hQ2⟩,hmn⟩:=hMk;have d2:w3.cell? ⟨g',o'+p * 7+2,none⟩=some (.slice A1 n1 c1):=d2;have d3:w3.cell? ⟨g',o'+p * 7+3,none⟩=some (.slice D1 m1 e1):=d3;have d5:w3.cell? ⟨g',o'+p * 7+5,none⟩=some (.slice A2 n2 c2):=d5;have d6:w3.cell? ⟨g',o'+p * 7+6,none⟩=some (.slice D2 m2 e2):=d6;obtain ⟨cC0,cC1⟩:=x3.c2;have HST:=Qh hst;have HQ1:=Qh hQ1;have HQ2:=Qh hQ2;have HMN:=Qh hmn;have HMP:=Qh hmp;have HM3:=Qh (HM2.out.mk_ hb3);obtain ⟨v,hv⟩:∃ v,aZ m.name=v:=⟨_,rfl⟩;have HV:=Qh hv;clear hst hQ1 hQ2 hmn hmp hv HM2 HP;go_wp2_with fail;(with_reducible refine (kK _ m.name HMN.out v HV.out).mono ?_);rintro e w4 ⟨rfl,hb4⟩;have q4:=hb4.q1;have x4:Blk w4 w3.heap.size 56 #[ae m.name,.bool b1,.slice A1 n1 c1,.slice D1 m1 e1,.bool b2,.slice A2 n2 c2,.slice D2 m2 e2]:=(ak _ _ _ (by simp)).below hb4 (by simp);have x3b:=x3.below q4 x3.lt;have bw4:=bw3.trans (q4.mono bw3.size);clear hb4 d0 d1 d2 d3 d4 d5 d6 cC0 cC1
      have hxy:∀ z:Int,z≠0→cq (b.pts.take p) m=z→x=z:=fun z hz hm=>by
       have hy:y=z:=by
        rcases HST.out with ⟨u,_⟩ | ⟨_,u⟩
        ·exact absurd (hm.symm.trans u) hz
        exact u.symm.trans hm
       rcases HS.out with ⟨u,_⟩ | ⟨_,u⟩
       ·exact absurd (hy.symm.trans (HE.out.symm.trans u)) hz
       rw [← u,HE.out,hy]
      cases v
      ·have h5:x=5:=hxy 5 (by decide) (if_pos HV.out)
       clear hxy;go_wp2;go_ret;exact ⟨by rw [h5];rfl,bw4⟩
      have HXY:=Qh hxy;clear hxy;obtain ⟨cC0,cC1⟩:=x3b.c2;go_wp2_with fail;clear cC0 cC1;go_loopw [61] (fun jv wr=>∃ r:Nat,jv=.int .i64 (r:Nat)∧r≤p∧Hid (twN ((b.pts.take r).map au.name) m.name=false)∧Below w4.heap.size w4 wr) (fun jv _=>p - (intOf jv).toNat)
      case atStart=>exact ⟨0,rfl,Nat.zero_le _,Qh rfl,aa w4⟩
      case round =>
       obtain ⟨r,rfl,hr,HT,hb5⟩:=hrel;rename World=>w5;have x5:=x4.below hb5 x4.lt;have bw5:=bw4.trans (hb5.mono bw4.size);have cD0:=x5.cell 0;have hlw5:w3.heap.size < w5.heap.size:=x5.lt;rcases Nat.lt_or_ge r p with hrl | hrg
       ·have hr1:((r:Int) < (p:Int))=True:=by simp;omega
        have hrn:r < n':=by omega
        obtain ⟨a,ha,hA⟩:=((HM3.out.mk_ q4).mk_ hb5).rowAt hrn;obtain ⟨d0,⟨b3,A3,n3,c3,D3,m3,e3,d1,d2,d3,hQ3⟩,⟨b4,A4,n4,c4,D4,m4,e4,d4,d5,d6,hQ4⟩,hmn3⟩:=hA;have hgw:g' < w5.heap.size:=by have:=hb5.size;have:=q4.size;omega
        have d2:w5.cell? ⟨g',o'+r * 7+2,none⟩=some (.slice A3 n3 c3):=d2;have d3:w5.cell? ⟨g',o'+r * 7+3,none⟩=some (.slice D3 m3 e3):=d3;have d5:w5.cell? ⟨g',o'+r * 7+5,none⟩=some (.slice A4 n4 c4):=d5;have d6:w5.cell? ⟨g',o'+r * 7+6,none⟩=some (.slice D4 m4 e4):=d6;clear hQ3 hQ4 hmn3;have hne1:¬ w3.heap.size=w5.heap.size:=by omega
        have hne2:¬ g'=w5.heap.size:=by omega
        have htl:=aV m.name;by_cases heq:a.name=m.name
        ·have h6:x=6:=HXY.out 6 (by decide) (by
          unfold cq
          rw [HV.out,if_neg (by decide),if_pos (gB ha hrl heq)])
         rw [heq] at d0;have hee:(m.name == m.name)=true:=by simp
         clear heq ha;go_wp2;go_ret;exact ⟨by rw [h6];rfl,bw5.alloc bw5.size _⟩
        have hta:=aV a.name;have HT2:=Qh (iX ha HT.out heq);have hee:(a.name == m.name)=false:=beq_eq_false_iff_ne.2 heq;clear heq ha HT;go_wp2_with fail;go_roundw
        case rel=>exact ⟨r+1,by go_num,by omega,HT2,hb5.alloc hb5.size _⟩
        case measure=>simp [intOf];omega
       have hr1:((r:Int) < (p:Int))=False:=by simp;omega
       obtain rfl:r=p:=by omega
       have cD1:=x5.cell 1;have cD2:=x5.cell 2;have cD3:=x5.cell 3;obtain ⟨v1,hv1⟩:∃ v,m.x.ok=v:=⟨_,rfl⟩;obtain ⟨v2,hv2⟩:∃ v,m.y.ok=v:=⟨_,rfl⟩;have HV1:=Qh hv1;have HV2:=Qh hv2;clear hv1 hv2;go_wp2_with fail;(with_reducible refine (gi _ b1 A1 n1 c1 D1 m1 e1 m.x k v1 ((HQ1.out.belw q4).belw hb5) hk HV1.out).mono ?_);rintro e w6 ⟨rfl,hb6⟩;have x6:=x5.below hb6 x5.lt;have bw6:=bw5.trans (hb6.mono bw5.size);clear cD0 cD1 cD2 cD3
       have hE3:v1=false∨v2=false→cq (b.pts.take r) m=3:=fun hh=>by
        unfold cq;rw [HV.out,if_neg (by decide),HT.out,if_neg (by decide),HV1.out,HV2.out];rcases hh with e | e
        ·rw [e,if_pos rfl]
        rw [e];cases v1
        ·rfl
        rfl
       have HE3:=Qh hE3;clear hE3;cases v1
       ·have h3:x=3:=HXY.out 3 (by decide) (HE3.out (.inl rfl))
        go_wp2;go_ret;exact ⟨by rw [h3];rfl,bw6⟩
       have cE4:=x6.cell 4;have cE5:=x6.cell 5;have cE6:=x6.cell 6;have hlw6:w3.heap.size < w6.heap.size:=x6.lt;go_wp2_with fail;(with_reducible refine (gi _ b2 A2 n2 c2 D2 m2 e2 m.y k v2 (((HQ2.out.belw q4).belw hb5).belw hb6) hk HV2.out).mono ?_);rintro e w7 ⟨rfl,hb7⟩;have bw7:=bw6.trans (hb7.mono bw6.size);have hb37:Below w2.heap.size w2 w7:=(((hb3.trans (q4.mono hb3.size)).trans (hb5.mono (Nat.le_trans hb3.size q4.size))).trans (hb6.mono (Nat.le_trans (Nat.le_trans hb3.size q4.size) hb5.size))).trans (hb7.mono (Nat.le_trans (Nat.le_trans (Nat.le_trans hb3.size q4.size) hb5.size) hb6.size));clear cE4 cE5 cE6;cases v2
       ·have h3:x=3:=HXY.out 3 (by decide) (HE3.out (.inr rfl))
        go_wp2;go_ret;exact ⟨by rw [h3];rfl,bw7⟩
       ·have h0:cq (b.pts.take r) m=0:=by
         unfold cq;rw [HV.out,if_neg (by decide),HT.out,if_neg (by decide),HV1.out,HV2.out];rfl
        have HP2:Hid (co cq (b.pts.take (r+1)) (b.pts.drop (r+1))=y):=Qh (by
         rcases HST.out with ⟨_,u⟩ | ⟨u,_⟩
         ·exact u
         exact absurd h0 u)
        clear h0;go_wp2_with fail;go_roundw
        case rel=>exact ⟨r+1,by go_num,by omega,HP2,hb37⟩
        case measure=>simp [intOf];omega
     have hp1:((p:Int) < (n':Int))=False:=by simp;omega
     have hy0:y=0:=iW HP.out (by rw [HM2.out.1];exact hpg)
     have HX2:Hid (co bE (l.take (j+1)) (l.drop (j+1))=x):=Qh (by
      rcases HS.out with ⟨_,u⟩ | ⟨u,_⟩
      ·exact u
      exact absurd (HE.out.trans hy0) u)
     clear hy0;go_wp2_with fail;go_roundw
     case rel=>exact ⟨j+1,by go_num,by omega,HX2,bw3⟩
     case measure=>simp [intOf];omega
  have hi1:((i:Int) < (n:Int))=False:=by simp;omega
  have hx0:x=0:=iW HX.out (by rw [h.1];exact hge);go_wp2;go_ret;exact ⟨by rw [hx0];rfl,hb⟩
theorem kL {i:Int}{n:Nat}(h:inI i n=true):∃ m:Nat,i=(m:Int)∧m < n:=by
 unfold inI at h;simp only [Bool.and_eq_true,decide_eq_true_eq] at h;exact ⟨i.toNat,by omega,by omega⟩
theorem sJ (w:World) (A:Option Addr) (n c:Nat) (B:Option Addr) (p d:Nat) (C:Option Addr) (q e:Nat) (nm:List UInt8) (j:aK) (h:j.kind≠0∧j.kind≠1) :
 Calls Tryz.prog 96 #[.agg #[ae nm,.slice A n c,.slice B p d,.slice C q e],.agg #[ae j.name,.int .i64 j.kind,.int .i64 j.a,.int .i64 j.point,.int .i64 j.b,.int .i64 j.on,.int .i64 j.to_]] w (aB w (be 7)):=by
 have e0:(j.kind == 0)=false:=beq_eq_false_iff_ne.2 h.1;have e1:(j.kind == 1)=false:=beq_eq_false_iff_ne.2 h.2;have e2:(j.kind != 0)=true:=bne_iff_ne.2 h.1;have e3:(j.kind != 1)=true:=bne_iff_ne.2 h.2;clear h;go_in;go_wp2;go_ret;exact ⟨rfl,(((aa w).alloc Qr _).alloc (by simp) _)⟩
theorem sK (w:World) (A:Option Addr) (n c:Nat) (B:Option Addr) (p d:Nat) (C:Option Addr) (q e:Nat) (nm:List UInt8) (j:aK) (L:ai) (k:Nat) (h:SlS (eM k) 2 w A n c L.bodies) (hk:k≤10000000) (hk1:0 < k) (hn:n≤1000) (hk0:j.kind=0) (x:Int) (hx:cf L j=x) :
 Calls Tryz.prog 96 #[.agg #[ae nm,.slice A n c,.slice B p d,.slice C q e],.agg #[ae j.name,.int .i64 j.kind,.int .i64 j.a,.int .i64 j.point,.int .i64 j.b,.int .i64 j.on,.int .i64 j.to_]] w (aB w (be x)):=by
 have e0:(j.kind == 0)=true:=beq_iff_eq.2 hk0;have e2:(j.kind != 0)=false:=by rw [hk0];rfl
 have hln:=h.1;have HX:=Qh hx;have HK:=Qh (show ¬ (j.kind≠0∧j.kind≠1) by rw [hk0];decide);have HK0:=Qh hk0;have H:=Qh h;have HL:=Qh hln;obtain ⟨v1,hv1⟩:∃ v,inI j.a n=v:=⟨_,rfl⟩;obtain ⟨v2,hv2⟩:∃ v,inI j.b n=v:=⟨_,rfl⟩;have HV1:=Qh hv1;have HV2:=Qh hv2;clear hx hk0 h hln hv1 hv2;go_in;go_wp2_with fail;(with_reducible refine (sI _ j.a n v1 HV1.out).mono ?_);rintro e' w1 ⟨rfl,hb1⟩;have q1:=hb1.q2;have x1:Blk w1 w.heap.size 26 #[ae nm,.slice A n c,.slice B p d,.slice C q e]:=((ak _ _ _ (by simp)).alloc _).below hb1 (by simp <;> omega);have y1:Blk w1 (w.heap.size+1) 81 #[ae j.name,.int .i64 j.kind,.int .i64 j.a,.int .i64 j.point,.int .i64 j.b,.int .i64 j.on,.int .i64 j.to_]:=(ak _ _ _ (by simp)).below hb1 (by simp);clear hb1;cases v1
 ·have h9:x=9:=by rw [← HX.out];unfold cf;rw [if_neg HK.out,HL.out,if_pos HV1.out]
  go_wp2;go_ret;exact ⟨by rw [h9];rfl,q1⟩
 have cx1:=x1.cell 1;have cy2:=y1.cell 2;have cy4:=y1.cell 4;go_wp2_with fail;(with_reducible refine (sI _ j.b n v2 HV2.out).mono ?_);rintro e' w2 ⟨rfl,hb2⟩;have q2:=q1.trans (hb2.mono q1.size);have x2:=x1.below hb2 x1.lt;have y2:=y1.below hb2 y1.lt;clear cx1 cy2 cy4 hb2 x1 y1;cases v2
 ·have h9:x=9:=by rw [← HX.out];unfold cf;rw [if_neg HK.out,HL.out,if_neg (by rw [HV1.out];decide),if_pos HV2.out]
  go_wp2;go_ret;exact ⟨by rw [h9];rfl,q2⟩
 obtain ⟨an,han,hal⟩:=kL HV1.out;obtain ⟨bn,hbn,hbl⟩:=kL HV2.out;have HA:=Qh han;have HBN:=Qh hbn;have cx1:=x2.cell 1;have cy1:=y2.cell 1;have cy2:=y2.cell 2;have cy3:=y2.cell 3;have cy4:=y2.cell 4;have cy5:=y2.cell 5;have cy6:=y2.cell 6;rw [han] at cy2;rw [hbn] at cy4;clear han hbn;by_cases hab:an=bn
 ·have h13:x=13:=by
   rw [← HX.out];unfold cf;rw [if_neg HK.out,HL.out,if_neg (by rw [HV1.out];decide),if_neg (by rw [HV2.out];decide),if_pos (by rw [HA.out,HBN.out,hab])]
  subst hab;go_wp2;go_ret;exact ⟨by rw [h13];rfl,q2⟩
 have eab:((an:Int) == (bn:Int))=false:=beq_eq_false_iff_ne.2 (by omega);obtain ⟨g,o,bb,e1',hg,hnc,hbb,hBb⟩:=(H.out.bd q2).at_ hbl;subst e1';obtain ⟨ab,hab',hAb⟩:=(H.out.bd q2).rowAt hal;obtain ⟨Ab,nb,cb,k0,k1,hMb,_⟩:=hBb;obtain ⟨Aa,na,ca,l0,l1,hMa,_⟩:=hAb;have hpa:dy L j.a=ab.pts:=by unfold dy;rw [HA.out];show (match L.bodies[an]? with | some b=>b.pts | none=>[])=_;rw [hab']
 have hpb:dy L j.b=bb.pts:=by unfold dy;rw [HBN.out];show (match L.bodies[bn]? with | some b=>b.pts | none=>[])=_;rw [hbb]
 have hla:=hMa.1;have hlb:=hMb.1;have hbn2:((bn:Nat):Int) < ((n:Nat):Int):=by omega
 have han2:((an:Nat):Int) < ((n:Nat):Int):=by omega
 obtain ⟨v3,hv3⟩:∃ v,inI j.point na=v:=⟨_,rfl⟩;obtain ⟨v4,hv4⟩:∃ v,inI j.on nb=v:=⟨_,rfl⟩;have HV3:=Qh hv3;have HV4:=Qh hv4;have HMB:=Qh hMb;have HPA:=Qh hpa;have HPB:=Qh hpb;have HLA:=Qh hla;have HLB:=Qh hlb;have HAB:=Qh (show ¬ j.a=j.b by rw [HA.out,HBN.out];omega);clear hv3 hv4 hMb hMa hpa hpb hla hlb hbb hab' hab;go_wp2_with fail;cases v3
 ·have h9:x=9:=by
   rw [← HX.out];unfold cf;rw [if_neg HK.out,HL.out,if_neg (by rw [HV1.out];decide),if_neg (by rw [HV2.out];decide),if_neg HAB.out,HPA.out,HLA.out,if_pos HV3.out]
  go_quiet ((go_at_call 97;exact Calls.quiet_of_same (de _ j.point na false HV3.out)));go_wp2;go_ret;exact ⟨by rw [h9];rfl,af q2 _⟩
 cases v4
 ·have h9:x=9:=by
   rw [← HX.out];unfold cf;rw [if_neg HK.out,HL.out,if_neg (by rw [HV1.out];decide),if_neg (by rw [HV2.out];decide),if_neg HAB.out,HPA.out,HLA.out,if_neg (by rw [HV3.out];decide),HPB.out,HLB.out,if_pos HV4.out]
  go_quiet ((go_at_call 97;first | with_reducible exact Calls.quiet_of_same (de _ j.point na true HV3.out) | with_reducible exact Calls.quiet_of_same (de _ j.on nb false HV4.out) | fail));go_wp2;go_ret;exact ⟨by rw [h9];rfl,af q2 _⟩
 have hX2:x=(if j.kind=0 then (if j.to_=0 then 0 else 2) else if inI j.to_ nb=false then 9 else if iY bb.pts j.on j.to_=true then 8 else 0):=by
  rw [← HX.out];unfold cf;rw [if_neg HK.out,HL.out,if_neg (by rw [HV1.out];decide),if_neg (by rw [HV2.out];decide),if_neg HAB.out,HPA.out,HLA.out,if_neg (by rw [HV3.out];decide),HPB.out,HLB.out,if_neg (by rw [HV4.out];decide)]
 have HX2:=Qh hX2;clear hX2;by_cases hto:j.to_=0
 ·have hx:x=0:=by rw [HX2.out,if_pos HK0.out,if_pos hto]
  have t0:(j.to_ == 0)=true:=beq_iff_eq.2 hto;have t1:(j.to_ != 0)=false:=by rw [hto];rfl
  clear hto;go_quiet ((go_at_call 97;first | with_reducible exact Calls.quiet_of_same (de _ j.point na true HV3.out) | with_reducible exact Calls.quiet_of_same (de _ j.on nb true HV4.out) | fail));go_wp2;go_ret;exact ⟨by rw [hx];rfl,af q2 _⟩
 have hx:x=2:=by rw [HX2.out,if_pos HK0.out,if_neg hto]
 have t0:(j.to_ == 0)=false:=beq_eq_false_iff_ne.2 hto;have t1:(j.to_ != 0)=true:=bne_iff_ne.2 hto;clear hto;go_quiet ((go_at_call 97;first | with_reducible exact Calls.quiet_of_same (de _ j.point na true HV3.out) | with_reducible exact Calls.quiet_of_same (de _ j.on nb true HV4.out) | fail));go_wp2;go_ret;exact ⟨by rw [hx];rfl,af q2 _⟩
theorem sL (w:World) (A:Option Addr) (n c:Nat) (B:Option Addr) (p d:Nat) (C:Option Addr) (q e:Nat) (nm:List UInt8) (j:aK) (L:ai) (k:Nat) (h:SlS (eM k) 2 w A n c L.bodies) (hk:k≤10000000) (hk1:0 < k) (hn:n≤1000) (hk0:j.kind=1) (x:Int) (hx:cf L j=x) :
 Calls Tryz.prog 96 #[.agg #[ae nm,.slice A n c,.slice B p d,.slice C q e],.agg #[ae j.name,.int .i64 j.kind,.int .i64 j.a,.int .i64 j.point,.int .i64 j.b,.int .i64 j.on,.int .i64 j.to_]] w (aB w (be x)):=by
 have e0:(j.kind == 0)=false:=beq_eq_false_iff_ne.2 (by rw [hk0];decide);have e2:(j.kind != 0)=true:=by rw [hk0];rfl
 have e1:(j.kind == 1)=true:=beq_iff_eq.2 hk0;have e3:(j.kind != 1)=false:=by rw [hk0];rfl
 have hln:=h.1;have HX:=Qh hx;have HK:=Qh (show ¬ (j.kind≠0∧j.kind≠1) by rw [hk0];decide);have HK0:=Qh hk0;have H:=Qh h;have HL:=Qh hln;obtain ⟨v1,hv1⟩:∃ v,inI j.a n=v:=⟨_,rfl⟩;obtain ⟨v2,hv2⟩:∃ v,inI j.b n=v:=⟨_,rfl⟩;have HV1:=Qh hv1;have HV2:=Qh hv2;clear hx hk0 h hln hv1 hv2;go_in;go_wp2_with fail;(with_reducible refine (sI _ j.a n v1 HV1.out).mono ?_);rintro e' w1 ⟨rfl,hb1⟩;have q1:=hb1.q2;have x1:Blk w1 w.heap.size 26 #[ae nm,.slice A n c,.slice B p d,.slice C q e]:=((ak _ _ _ (by simp)).alloc _).below hb1 (by simp <;> omega);have y1:Blk w1 (w.heap.size+1) 81 #[ae j.name,.int .i64 j.kind,.int .i64 j.a,.int .i64 j.point,.int .i64 j.b,.int .i64 j.on,.int .i64 j.to_]:=(ak _ _ _ (by simp)).below hb1 (by simp);clear hb1;cases v1
 ·have h9:x=9:=by rw [← HX.out];unfold cf;rw [if_neg HK.out,HL.out,if_pos HV1.out]
  go_wp2;go_ret;exact ⟨by rw [h9];rfl,q1⟩
 have cx1:=x1.cell 1;have cy2:=y1.cell 2;have cy4:=y1.cell 4;go_wp2_with fail;(with_reducible refine (sI _ j.b n v2 HV2.out).mono ?_);rintro e' w2 ⟨rfl,hb2⟩;have q2:=q1.trans (hb2.mono q1.size);have x2:=x1.below hb2 x1.lt;have y2:=y1.below hb2 y1.lt;clear cx1 cy2 cy4 hb2 x1 y1;cases v2
 ·have h9:x=9:=by rw [← HX.out];unfold cf;rw [if_neg HK.out,HL.out,if_neg (by rw [HV1.out];decide),if_pos HV2.out]
  go_wp2;go_ret;exact ⟨by rw [h9];rfl,q2⟩
 obtain ⟨an,han,hal⟩:=kL HV1.out;obtain ⟨bn,hbn,hbl⟩:=kL HV2.out;have HA:=Qh han;have HBN:=Qh hbn;have cx1:=x2.cell 1;have cy1:=y2.cell 1;have cy2:=y2.cell 2;have cy3:=y2.cell 3;have cy4:=y2.cell 4;have cy5:=y2.cell 5;have cy6:=y2.cell 6;rw [han] at cy2;rw [hbn] at cy4;clear han hbn;by_cases hab:an=bn
 ·have h13:x=13:=by
   rw [← HX.out];unfold cf;rw [if_neg HK.out,HL.out,if_neg (by rw [HV1.out];decide),if_neg (by rw [HV2.out];decide),if_pos (by rw [HA.out,HBN.out,hab])]
  subst hab;go_wp2;go_ret;exact ⟨by rw [h13];rfl,q2⟩
 have eab:((an:Int) == (bn:Int))=false:=beq_eq_false_iff_ne.2 (by omega);obtain ⟨g,o,bb,e1',hg,hnc,hbb,hBb⟩:=(H.out.bd q2).at_ hbl;subst e1';obtain ⟨ab,hab',hAb⟩:=(H.out.bd q2).rowAt hal;obtain ⟨Ab,nb,cb,k0,k1,hMb,_⟩:=hBb;obtain ⟨Aa,na,ca,l0,l1,hMa,_⟩:=hAb;have hpa:dy L j.a=ab.pts:=by unfold dy;rw [HA.out];show (match L.bodies[an]? with | some b=>b.pts | none=>[])=_;rw [hab']
 have hpb:dy L j.b=bb.pts:=by unfold dy;rw [HBN.out];show (match L.bodies[bn]? with | some b=>b.pts | none=>[])=_;rw [hbb]
 have hla:=hMa.1;have hlb:=hMb.1;have hbn2:((bn:Nat):Int) < ((n:Nat):Int):=by omega
 have han2:((an:Nat):Int) < ((n:Nat):Int):=by omega
 obtain ⟨v3,hv3⟩:∃ v,inI j.point na=v:=⟨_,rfl⟩;obtain ⟨v4,hv4⟩:∃ v,inI j.on nb=v:=⟨_,rfl⟩;have HV3:=Qh hv3;have HV4:=Qh hv4;have HMB:=Qh hMb;have HPA:=Qh hpa;have HPB:=Qh hpb;have HLA:=Qh hla;have HLB:=Qh hlb;have HAB:=Qh (show ¬ j.a=j.b by rw [HA.out,HBN.out];omega);clear hv3 hv4 hMb hMa hpa hpb hla hlb hbb hab' hab;go_wp2_with fail;cases v3
 ·have h9:x=9:=by
   rw [← HX.out];unfold cf;rw [if_neg HK.out,HL.out,if_neg (by rw [HV1.out];decide),if_neg (by rw [HV2.out];decide),if_neg HAB.out,HPA.out,HLA.out,if_pos HV3.out]
  go_quiet ((go_at_call 97;exact Calls.quiet_of_same (de _ j.point na false HV3.out)));go_wp2;go_ret;exact ⟨by rw [h9];rfl,af q2 _⟩
 cases v4
 ·have h9:x=9:=by
   rw [← HX.out];unfold cf;rw [if_neg HK.out,HL.out,if_neg (by rw [HV1.out];decide),if_neg (by rw [HV2.out];decide),if_neg HAB.out,HPA.out,HLA.out,if_neg (by rw [HV3.out];decide),HPB.out,HLB.out,if_pos HV4.out]
  go_quiet ((go_at_call 97;first | with_reducible exact Calls.quiet_of_same (de _ j.point na true HV3.out) | with_reducible exact Calls.quiet_of_same (de _ j.on nb false HV4.out) | fail));go_wp2;go_ret;exact ⟨by rw [h9];rfl,af q2 _⟩
 have hX2:x=(if j.kind=0 then (if j.to_=0 then 0 else 2) else if inI j.to_ nb=false then 9 else if iY bb.pts j.on j.to_=true then 8 else 0):=by
  rw [← HX.out];unfold cf;rw [if_neg HK.out,HL.out,if_neg (by rw [HV1.out];decide),if_neg (by rw [HV2.out];decide),if_neg HAB.out,HPA.out,HLA.out,if_neg (by rw [HV3.out];decide),HPB.out,HLB.out,if_neg (by rw [HV4.out];decide)]
 have HX2:=Qh hX2;clear hX2;obtain ⟨v5,hv5⟩:∃ v,inI j.to_ nb=v:=⟨_,rfl⟩;have HV5:=Qh hv5;clear hv5;go_quiet ((go_at_call 97;first | with_reducible exact Calls.quiet_of_same (de _ j.point na true HV3.out) | with_reducible exact Calls.quiet_of_same (de _ j.on nb true HV4.out) | fail));go_wp2_with fail;(with_reducible refine (sI _ j.to_ nb v5 HV5.out).mono ?_);rintro e' w3 ⟨rfl,hb3⟩;have q23:Below w2.heap.size w2 w3:=ah (af (aa _) _) hb3;have q3:=q2.trans (q23.mono q2.size);have x3:=x2.below q23 x2.lt;have y3:=y2.below q23 y2.lt;clear cx1 cy1 cy2 cy3 cy4 cy5 cy6 k0 k1 l0 l1 hb3 x2 y2;cases v5
 ·have hx:x=9:=by rw [HX2.out,if_neg (by rw [HK0.out];decide),if_pos HV5.out]
  go_wp2;go_ret;exact ⟨by rw [hx];rfl,q3⟩
 obtain ⟨on,hon,honl⟩:=kL HV4.out;obtain ⟨tn,htn,htnl⟩:=kL HV5.out;have cy5:=y3.cell 5;have cy6:=y3.cell 6;rw [hon] at cy5;rw [htn] at cy6;obtain ⟨g',o',m,e2',hg',hnc',hm,hM⟩:=(HMB.out.mk_ q23).at_ honl;subst e2';obtain ⟨m',hm',hM'⟩:=(HMB.out.mk_ q23).rowAt htnl;obtain ⟨d0,⟨b1,A1,n1,c1,D1,m1,e1,d1,d2,d3,hQ1⟩,⟨b2,A2,n2,c2,D2,m2,f2,d4,d5,d6,hQ2⟩,_⟩:=hM;obtain ⟨z0,⟨b3,A3,n3,c3,D3,m3,f3,z1,z2,z3,hQ3⟩,⟨b4,A4,n4,c4,D4,m4,f4,z4,z5,z6,hQ4⟩,_⟩:=hM';have d2:w3.cell? ⟨g',o'+on * 7+2,none⟩=some (.slice A1 n1 c1):=d2;have d3:w3.cell? ⟨g',o'+on * 7+3,none⟩=some (.slice D1 m1 e1):=d3;have d5:w3.cell? ⟨g',o'+on * 7+5,none⟩=some (.slice A2 n2 c2):=d5;have d6:w3.cell? ⟨g',o'+on * 7+6,none⟩=some (.slice D2 m2 f2):=d6;have z2:w3.cell? ⟨g',o'+tn * 7+2,none⟩=some (.slice A3 n3 c3):=z2;have z3:w3.cell? ⟨g',o'+tn * 7+3,none⟩=some (.slice D3 m3 f3):=z3;have z5:w3.cell? ⟨g',o'+tn * 7+5,none⟩=some (.slice A4 n4 c4):=z5;have z6:w3.cell? ⟨g',o'+tn * 7+6,none⟩=some (.slice D4 m4 f4):=z6
 have hpe:iY bb.pts j.on j.to_=(decide (m.x.q=m'.x.q) && decide (m.y.q=m'.y.q)):=by
  unfold iY;rw [hon,htn];show (match bb.pts[on]?,bb.pts[tn]? with | some p,some q=>decide (p.x.q=q.x.q) && decide (p.y.q=q.y.q) | _,_=>false)=_;rw [hm,hm']
 have HPE:=Qh hpe;have HQ1:=Qh hQ1;have HQ2:=Qh hQ2;have HQ3:=Qh hQ3;have HQ4:=Qh hQ4;have hon2:((on:Nat):Int) < ((nb:Nat):Int):=by omega
 have htn2:((tn:Nat):Int) < ((nb:Nat):Int):=by omega
 obtain ⟨s1,hs1⟩:∃ s,pJ m.x.q m'.x.q=s:=⟨_,rfl⟩;obtain ⟨s2,hs2⟩:∃ s,pJ m.y.q m'.y.q=s:=⟨_,rfl⟩;have HS1:=Qh hs1;have HS2:=Qh hs2;have hl1:w.heap.size < w3.heap.size:=x3.lt;have hl2:w.heap.size+1 < w3.heap.size:=y3.lt;clear hpe hQ1 hQ2 hQ3 hQ4 hs1 hs2 hm hm' hon htn;go_wp2_with fail
 have hz:∀ z:Bool,(decide (m.x.q=m'.x.q) && decide (m.y.q=m'.y.q))=z→x=if z=true then 8 else 0:=fun z hz=>by
  rw [HX2.out,if_neg (by rw [HK0.out];decide),if_neg (by rw [HV5.out];decide),HPE.out,hz]
 have HZ:=Qh hz;clear hz;go_region
 ·go_wp2_with fail
  (with_reducible refine (kd _ b1 A1 n1 c1 D1 m1 e1 m.x.q k ?_ b3 A3 n3 c3 D3 m3 f3 m'.x.q k ?_ s1 HS1.out hk1 (by omega) hk1 (by omega)).mono ?_);(exact ((HQ1.out.qz).belw (af ((((aa _).alloc Qr _).alloc (by simp) _)) 1)));(exact ((HQ3.out.qz).belw (af ((((aa _).alloc Qr _).alloc (by simp) _)) 1)));rintro e' w4 ⟨rfl,hb4⟩;have xa:=(((ak _ _ _ (g:=w3.heap.size) (by simp)).alloc _).drew).below hb4 (by simp <;> omega);have xb:=((ak _ _ _ (g:=w3.heap.size+1) (by simp)).drew).below hb4 (by simp <;> omega);have q4:Below w3.heap.size w3 w4:=(af ((((aa w3).alloc Qr _).alloc (by simp) _)) 1).trans (hb4.mono (by simp <;> omega));have q24:=q3.trans (q4.mono q3.size);have hla:w3.heap.size < w4.heap.size:=xa.lt;have hlb:w3.heap.size+1 < w4.heap.size:=xb.lt;by_cases hs1:s1=0
  ·have es:(s1 == 0)=true:=beq_iff_eq.2 hs1
   have hqx:m.x.q=m'.x.q:=cO.1 (HS1.out.trans hs1);have HQX:=Qh hqx;clear hs1 hqx;have ca4:=xa.cell 4;have ca5:=xa.cell 5;have ca6:=xa.cell 6;have cb4:=xb.cell 4;have cb5:=xb.cell 5;have cb6:=xb.cell 6;go_wp2_with fail;(with_reducible refine (kd _ b2 A2 n2 c2 D2 m2 f2 m.y.q k ?_ b4 A4 n4 c4 D4 m4 f4 m'.y.q k ?_ s2 HS2.out hk1 (by omega) hk1 (by omega)).mono ?_);(exact (HQ2.out.qz).belw q4);(exact (HQ4.out.qz).belw q4);rintro e' w5 ⟨rfl,hb5⟩;have q5:=q24.trans (hb5.mono q24.size);clear ca4 ca5 ca6 cb4 cb5 cb6;by_cases hs2:s2=0
   ·have es2:(s2 == 0)=true:=beq_iff_eq.2 hs2
    have hqy:m.y.q=m'.y.q:=cO.1 (HS2.out.trans hs2);have h8:x=8:=HZ.out true (by rw [decide_eq_true HQX.out,decide_eq_true hqy];rfl);clear hs2 hqy;go_wp2;go_ret;exact ⟨by rw [h8];rfl,q5⟩
   have es2:(s2 == 0)=false:=beq_eq_false_iff_ne.2 hs2;have h0:x=0:=HZ.out false (by rw [decide_eq_false (fun e=>hs2 (HS2.out.symm.trans (cO.2 e)))];simp);clear hs2;go_wp2;go_ret;exact ⟨by rw [h0];rfl,q5⟩
  have es:(s1 == 0)=false:=beq_eq_false_iff_ne.2 hs1;have h0:x=0:=HZ.out false (by rw [decide_eq_false (fun e=>hs1 (HS1.out.symm.trans (cO.2 e)))];rfl);clear hs1;go_wp2;go_ret;exact ⟨by rw [h0];rfl,q24⟩
 go_wp2_with fail;(with_reducible refine (kd _ b1 A1 n1 c1 D1 m1 e1 m.x.q k ?_ b3 A3 n3 c3 D3 m3 f3 m'.x.q k ?_ s1 HS1.out hk1 (by omega) hk1 (by omega)).mono ?_);(exact ((HQ1.out.qz).belw (af ((((aa _).alloc Qr _).alloc (by simp) _)) 1)));(exact ((HQ3.out.qz).belw (af ((((aa _).alloc Qr _).alloc (by simp) _)) 1)));rintro e' w4 ⟨rfl,hb4⟩;have xa:=(((ak _ _ _ (g:=w3.heap.size) (by simp)).alloc _).drew).below hb4 (by simp <;> omega);have xb:=((ak _ _ _ (g:=w3.heap.size+1) (by simp)).drew).below hb4 (by simp <;> omega);have q4:Below w3.heap.size w3 w4:=(af ((((aa w3).alloc Qr _).alloc (by simp) _)) 1).trans (hb4.mono (by simp <;> omega));have q24:=q3.trans (q4.mono q3.size);have hla:w3.heap.size < w4.heap.size:=xa.lt;have hlb:w3.heap.size+1 < w4.heap.size:=xb.lt;by_cases hs1:s1=0
 ·have es:(s1 == 0)=true:=beq_iff_eq.2 hs1
  have hqx:m.x.q=m'.x.q:=cO.1 (HS1.out.trans hs1);have HQX:=Qh hqx;clear hs1 hqx;have ca4:=xa.cell 4;have ca5:=xa.cell 5;have ca6:=xa.cell 6;have cb4:=xb.cell 4;have cb5:=xb.cell 5;have cb6:=xb.cell 6;go_wp2_with fail;(with_reducible refine (kd _ b2 A2 n2 c2 D2 m2 f2 m.y.q k ?_ b4 A4 n4 c4 D4 m4 f4 m'.y.q k ?_ s2 HS2.out hk1 (by omega) hk1 (by omega)).mono ?_);(exact (HQ2.out.qz).belw q4);(exact (HQ4.out.qz).belw q4);rintro e' w5 ⟨rfl,hb5⟩;have q5:=q24.trans (hb5.mono q24.size);clear ca4 ca5 ca6 cb4 cb5 cb6;by_cases hs2:s2=0
  ·have es2:(s2 == 0)=true:=beq_iff_eq.2 hs2
   have hqy:m.y.q=m'.y.q:=cO.1 (HS2.out.trans hs2);have h8:x=8:=HZ.out true (by rw [decide_eq_true HQX.out,decide_eq_true hqy];rfl);clear hs2 hqy;go_wp2;go_ret;exact ⟨by rw [h8];rfl,q5⟩
  have es2:(s2 == 0)=false:=beq_eq_false_iff_ne.2 hs2;have h0:x=0:=HZ.out false (by rw [decide_eq_false (fun e=>hs2 (HS2.out.symm.trans (cO.2 e)))];simp);clear hs2;go_wp2;go_ret;exact ⟨by rw [h0];rfl,q5⟩
 have es:(s1 == 0)=false:=beq_eq_false_iff_ne.2 hs1;have h0:x=0:=HZ.out false (by rw [decide_eq_false (fun e=>hs1 (HS1.out.symm.trans (cO.2 e)))];rfl);clear hs1;go_wp2;go_ret;exact ⟨by rw [h0];rfl,q24⟩
theorem dW {α:Type}{f:List α→α→Int}:∀ (l prev:List α),co f prev l=0→∀ a∈l,∃ p,f p a=0
 | [],_,_=>by simp
 | a :: r,prev,h=>by
  unfold co at h;split at h
  ·rename_i h0
   intro x hx;rcases List.mem_cons.1 hx with rfl | hx
   ·exact ⟨_,h0⟩
   exact dW r _ h x hx
  rename_i h0;exact absurd h h0
theorem fe {s:List UInt8}(h:aZ s=true):s.length≤24:=by
 unfold aZ at h;simp at h;omega
def uZ (m:au):Prop:=m.name.length≤24∧m.x.ok=true∧m.y.ok=true
theorem qg {p:List au}{m:au}(h:cq p m=0):uZ m:=by
 unfold cq at h
 repeat' split at h
 all_goals first | omega | skip
 rename_i h1 h2 h3 h4;exact ⟨fe (by simpa using h1),by simpa using h3,by simpa using h4⟩
def cU (b:aj):Prop:=b.name.length≤24∧b.pts.length≤8∧∀ m∈b.pts,uZ m
theorem qh {p:List aj}{b:aj}(h:bE p b=0):cU b:=by
 unfold bE at h;split at h
 ·omega
 rename_i h1;split at h
 ·omega
 split at h
 ·omega
 rename_i h3;refine ⟨fe (by simpa using h1),by omega,fun m hm=>?_⟩;obtain ⟨q,hq⟩:=dW _ _ h m hm;exact qg hq
def kf (bs:List aj) (j:aK):Prop:=j.name.length≤24∧∃ (a b p o:Nat) (x y:aj) (m1 m2:au),j.a=(a:Nat)∧j.b=(b:Nat)∧j.point=(p:Nat)∧j.on=(o:Nat)∧bs[a]?=some x∧bs[b]?=some y∧x.pts[p]?=some m1∧y.pts[o]?=some m2 ∧
  ((j.kind=0∧j.to_=0)∨(j.kind=1∧∃ (t:Nat) (m3:au),j.to_=(t:Nat)∧y.pts[t]?=some m3))
theorem jP {α:Type}{l:List α}{i:Int}(h:inI i l.length=true):∃ (n:Nat) (a:α),i=(n:Nat)∧l[n]?=some a:=by
 obtain ⟨n,h1,h2⟩:=kL h;exact ⟨n,l[n],h1,List.getElem?_eq_getElem h2⟩
theorem kg {L:ai}{i:Int}{n:Nat}{b:aj}(h:i=(n:Nat)) (hb:L.bodies[n]?=some b):dy L i=b.pts:=by
 subst h;unfold dy;show (match L.bodies[n]? with | some b=>b.pts | none=>[])=_;rw [hb]
theorem oO {L:ai}{p:List aK}{j:aK}(h:bB L p j=0):kf L.bodies j:=by
 unfold bB at h;split at h
 ·omega
 rename_i h1;split at h
 ·omega
 refine ⟨fe (by simpa using h1),?_⟩;unfold cf at h;split at h
 ·omega
 rename_i hk;split at h
 ·omega
 rename_i ha;split at h
 ·omega
 rename_i hb;split at h
 ·omega
 split at h
 ·omega
 rename_i hp;split at h
 ·omega
 rename_i ho;obtain ⟨a,x,ea,hx⟩:=jP (by simpa using ha);obtain ⟨b,y,eb,hy⟩:=jP (by simpa using hb);rw [kg ea hx] at hp;rw [kg eb hy] at ho;obtain ⟨pn,m1,ep,hm1⟩:=jP (by simpa using hp);obtain ⟨on,m2,eo,hm2⟩:=jP (by simpa using ho);refine ⟨a,b,pn,on,x,y,m1,m2,ea,eb,ep,eo,hx,hy,hm1,hm2,?_⟩;split at h
 ·rename_i h0
  split at h
  ·rename_i ht;exact Or.inl ⟨h0,ht⟩
  omega
 rename_i h0;split at h
 ·omega
 rename_i ht;rw [kg eb hy] at ht;obtain ⟨t,m3,et,hm3⟩:=jP (by simpa using ht);exact Or.inr ⟨by omega,t,m3,et,hm3⟩
def je (bs:List aj) (d:aQ):Prop:=d.name.length≤24∧∃ (i:Nat) (b:aj),d.body=(i:Nat)∧bs[i]?=some b
theorem mP {bs:List aj}{p:List aQ}{d:aQ}(h:aN bs.length p d=0):je bs d:=by
 unfold aN at h;split at h
 ·omega
 rename_i h1;split at h
 ·omega
 split at h
 ·omega
 rename_i hb;obtain ⟨i,b,e,hi⟩:=jP (by simpa using hb);exact ⟨fe (by simpa using h1),i,b,e,hi⟩
structure Ao (L:ai):Prop where
  name:L.name.length≤24
  nb:L.bodies.length≤8
  nj:L.joints.length≤16
  nd:L.drivers.length≤2
  b0:0 < L.bodies.length
  body:∀ b∈L.bodies,cU b
  joint:∀ j∈L.joints,kf L.bodies j
  driver:∀ d∈L.drivers,je L.bodies d
theorem oQ {L:ai}(h:bZ L=0):Ao L:=by
 unfold bZ at h;split at h
 ·omega
 rename_i h1;split at h
 ·omega
 rename_i h2;split at h
 ·omega
 rename_i h3;split at h
 ·rename_i h4;exact absurd h h4
 rename_i h4;split at h
 ·omega
 rename_i h5;split at h
 ·rename_i h6;exact absurd h h6
 rename_i h6;split at h
 ·omega
 rename_i h7;refine ⟨fe (by simpa using h1),by omega,by omega,by omega,by omega,fun b hb=>?_,fun j hj=>?_,fun d hd=>?_⟩
 ·obtain ⟨q,hq⟩:=dW _ _ (by simpa using h4) b hb
  exact qh hq
 ·obtain ⟨q,hq⟩:=dW _ _ (by simpa using h6) j hj
  exact oO hq
 obtain ⟨q,hq⟩:=dW _ _ h d hd;exact mP hq
def fE (bs:List aj) (i j:Int):List UInt8:=match bs[i.toNat]? with
  | some b=>(match b.pts[j.toNat]? with | some m=>b.name ++ 46 :: m.name | none=>[])
  | none=>[]
theorem kh {bs:List aj}{i j:Nat}{b:aj}{m:au}(hb:bs[i]?=some b) (hm:b.pts[j]?=some m):fE bs (i:Nat) (j:Nat)=b.name ++ 46 :: m.name:=by
 unfold fE;show (match bs[i]? with | some b=>(match b.pts[j]? with | some m=>b.name ++ 46 :: m.name | none=>[]) | none=>[])=_;rw [hb];show (match b.pts[j]? with | some m=>b.name ++ 46 :: m.name | none=>[])=_;rw [hm]
def mc (bs:List aj) (i:Int):List UInt8:=match bs[i.toNat]? with | some b=>b.name | none=>[]
theorem mQ {bs:List aj}{i:Nat}{b:aj}(hb:bs[i]?=some b):mc bs (i:Nat)=b.name:=by
 unfold mc;show (match bs[i]? with | some b=>b.name | none=>[])=_;rw [hb]
def cK (bs:List aj) (j:aK):List (List UInt8) :=
  if j.kind=1 then [[115,108,105,100,101],j.name,fE bs j.a j.point,fE bs j.b j.on,fE bs j.b j.to_]
  else [[112,105,110],j.name,fE bs j.a j.point,fE bs j.b j.on]
def aJ (bs:List aj) (j:aK):List UInt8:=fC (cK bs j) ++ [59,10]
def aR (bs:List aj) (d:aQ):List UInt8:=[100,114,105,118,101,114,32] ++ d.name ++ [32] ++ mc bs d.body ++ [59,10]
def oS (nm:List UInt8):List UInt8:=[108,105,110,107,97,103,101,32] ++ nm ++ [59,10]
def bO (b:aj):List UInt8:=fc b ++ [10]
def cG (L:ai):List UInt8:=oS L.name ++ L.bodies.flatMap bO ++ L.joints.flatMap (aJ L.bodies) ++ L.drivers.flatMap (aR L.bodies)
def df (L:ai):Int:=if bZ L≠0 then bZ L else if fQ L.bodies=true∨65536 < (cG L).length then 4 else 0
def dp (L:ai):List UInt8:=if df L=0 then cG L else []
theorem fw {α:Type}(f:α→List UInt8) (K:Nat):∀ (l:List α),(∀ a∈l,(f a).length≤K)→(l.flatMap f).length≤K * l.length
 | [],_=>by simp
 | a :: l,h=>by
  have h1:=h a (by simp);have h2:=fw f K l fun x hx=>h x (by simp [hx])
  simp only [List.flatMap_cons,List.length_append,List.length_cons,Nat.mul_add,Nat.mul_one];omega
theorem mR {b:aj}(hb:b.name.length≤24) (hp:b.pts.length≤8) (h:∀ m∈b.pts,gC m):(bO b).length≤180000:=by
 have:=jO h;unfold bO fc;simp only [List.length_append,List.length_cons,List.length_nil];omega
theorem jQ {bs:List aj}{i j:Int}(h:∀ b∈bs,cU b):(fE bs i j).length≤49:=by
 unfold fE;split
 ·rename_i b hb
  have h1:=h b (List.mem_of_getElem? hb);split
  ·rename_i m hm
   have h2:=h1.2.2 m (List.mem_of_getElem? hm);have:=h1.1;have:=h2.1;simp only [List.length_append,List.length_cons];omega
  simp
 simp
theorem sM {bs:List aj}{i:Int}(h:∀ b∈bs,cU b):(mc bs i).length≤24:=by
 unfold mc;split
 ·rename_i b hb
  exact (h b (List.mem_of_getElem? hb)).1
 simp
theorem gY {bs:List aj}{j:aK}(h:∀ b∈bs,cU b) (hj:j.name.length≤24):(aJ bs j).length≤200:=by
 have h1:=jQ h (i:=j.a) (j:=j.point);have h2:=jQ h (i:=j.b) (j:=j.on);have h3:=jQ h (i:=j.b) (j:=j.to_);unfold aJ cK;split
 ·simp only [fC,List.length_append,List.length_cons,List.length_nil]
  omega
 simp only [fC,List.length_append,List.length_cons,List.length_nil];omega
theorem kM {bs:List aj}{d:aQ}(h:∀ b∈bs,cU b) (hd:d.name.length≤24):(aR bs d).length≤60:=by
 have h1:=sM h (i:=d.body);unfold aR;simp only [List.length_append,List.length_cons,List.length_nil];omega
theorem mS {α:Type}{f:List α→α→Int}:∀ (l prev:List α),co f prev l=0→∀ (i:Nat) (a:α),l[i]?=some a→f (prev ++ l.take i) a=0
 | [],_,_,i,a,ha=>by simp at ha
 | x :: r,prev,h,i,a,ha=>by
  unfold co at h;split at h
  ·rename_i h0
   cases i with
   | zero=>simp at ha;subst ha;simpa using h0
   | succ i =>
    have h2:=mS r _ h i a (by simpa using ha);simpa using h2
  rename_i h0;exact absurd h h0
theorem rb {α:Type}{nm:α→List UInt8}{l:List α}(h:∀ (i:Nat) (a:α),l[i]?=some a→twN ((l.take i).map nm) (nm a)=false) {i j:Nat}{a b:α}(ha:l[i]?=some a) (hb:l[j]?=some b) (e:nm a=nm b):i=j:=by
 rcases Nat.lt_trichotomy i j with h1 | h1 | h1
 ·have:=gB ha h1 e
  rw [h j b hb] at this;cases this
 ·exact h1
 have:=gB hb h1 e.symm;rw [h i a ha] at this;cases this
theorem vc {s:List UInt8}(h:aZ s=true):s≠[]∧∀ c∈s,aY c=true:=by
 unfold aZ at h;simp only [Bool.and_eq_true,decide_eq_true_eq] at h;obtain ⟨⟨h1,h2⟩,_⟩:=h
 cases s with
 | nil=>simp [bp] at h1
 | cons x t =>
  refine ⟨by simp,?_⟩;rw [bp] at h1 h2;split at h1
  ·rename_i hx
   rw [if_pos hx,List.length_cons] at h2
   have h3:t.takeWhile aY=t:=by
    have h4:t.takeWhile aY <+: t:=List.takeWhile_prefix _;exact h4.eq_of_length (by omega)
   intro c hc;rcases List.mem_cons.1 hc with rfl | hc
   ·unfold aY;rw [hx];rfl
   rw [← h3] at hc;exact (List.all_eq_true.1 (List.all_takeWhile)) c hc
  omega
def RdW (r:RD):Prop:=Wds r.num∧Wds r.den
def MkW (m:au):Prop:=RdW m.x∧RdW m.y
def LkW (L:ai):Prop:=∀ b∈L.bodies,∀ m∈b.pts,MkW m
structure MkF (m:au):Prop where
  name:aZ m.name=true
  x:m.x.ok=true
  y:m.y.ok=true
theorem mT {p:List au}{m:au}(h:cq p m=0):MkF m∧twN (p.map au.name) m.name=false:=by
 unfold cq at h
 repeat' split at h
 all_goals first | omega | skip
 rename_i h1 h2 h3 h4;exact ⟨⟨by simpa using h1,by simpa using h3,by simpa using h4⟩,by simpa using h2⟩
structure BdF (b:aj):Prop where
  name:aZ b.name=true
  pts:∀ m∈b.pts,MkF m
  dist:∀ {i j:Nat}{m m':au},b.pts[i]?=some m→b.pts[j]?=some m'→m.name=m'.name→i=j
theorem mU {p:List aj}{b:aj}(h:bE p b=0):BdF b∧twN (p.map aj.name) b.name=false:=by
 unfold bE at h;split at h
 ·omega
 rename_i h1;split at h
 ·omega
 rename_i h2;split at h
 ·omega
 have hm:∀ (i:Nat) (a:au),b.pts[i]?=some a→MkF a∧twN ((b.pts.take i).map au.name) a.name=false:=fun i a ha=>mT (by simpa using mS _ _ h i a ha)
 refine ⟨⟨by simpa using h1,fun m hm'=>?_,fun {i j m m'}=>rb fun i a ha=>(hm i a ha).2⟩,by simpa using h2⟩;obtain ⟨i,hi,e⟩:=List.getElem_of_mem hm';exact (hm i m (by rw [List.getElem?_eq_getElem hi,e])).1
structure LkF (L:ai):Prop where
  ok:Ao L
  name:aZ L.name=true
  body:∀ b∈L.bodies,BdF b
  dist:∀ {i j:Nat}{a b:aj},L.bodies[i]?=some a→L.bodies[j]?=some b→a.name=b.name→i=j
  joint:∀ j∈L.joints,aZ j.name=true
  driver:∀ d∈L.drivers,aZ d.name=true
theorem kN {L:ai}(h:bZ L=0):LkF L:=by
 have hok:=oQ h;unfold bZ at h;split at h
 ·omega
 rename_i h1;split at h
 ·omega
 split at h
 ·omega
 split at h
 ·rename_i h4;exact absurd h h4
 rename_i h4;split at h
 ·omega
 split at h
 ·rename_i h6;exact absurd h h6
 rename_i h6;split at h
 ·omega
 have hb:∀ (i:Nat) (a:aj),L.bodies[i]?=some a→BdF a∧twN ((L.bodies.take i).map aj.name) a.name=false:=fun i a ha=>mU (by have:=mS _ _ (Decidable.not_not.1 h4) i a ha;rwa [List.nil_append] at this)
 refine ⟨hok,by simpa using h1,fun b hb'=>?_,fun {i j a b}=>rb fun i a ha=>(hb i a ha).2,fun j hj=>?_,fun d hd=>?_⟩
 ·obtain ⟨i,hi,e⟩:=List.getElem_of_mem hb'
  exact (hb i b (by rw [List.getElem?_eq_getElem hi,e])).1
 ·obtain ⟨q,hq⟩:=dW _ _ (by simpa using h6) j hj
  unfold bB at hq;split at hq
  ·omega
  rename_i h9;simpa using h9
 obtain ⟨q,hq⟩:=dW _ _ h d hd;unfold aN at hq;split at hq
 ·omega
 rename_i h9;simpa using h9
/-! Lines. -/
def Mx (w:World):Prop:=∃ m,w.cell? ⟨0,0,none⟩=some (.int .i64 m)
theorem Mx.belw {w w':World}(h:Mx w) (hb:Below w.heap.size w w'):Mx w':=by
 obtain ⟨m,hm⟩:=h;exact ⟨m,(hb.cell (p:=⟨0,0,none⟩) (World.block_lt_of_cell? w _ hm)).trans hm⟩
theorem yb (w:World) (s:List UInt8) (c:UInt8) (a b:List UInt8) (f:Bool) (hm:Mx w) (hl:s.length≤65536) (hc:Lib.cut s [c]=(a,b,f)):Calls Tryz.prog 111 #[ae s,.string ⟨#[c]⟩] w (aB w (.tuple #[ae a,ae b,.bool f])):=by
 obtain ⟨m,hm⟩:=hm;refine (Tryz.strings_Cut ⟨s.toArray⟩ ⟨#[c]⟩ m w (by show s.length < _;omega) hm).mono fun e w' ⟨he,n,hw⟩=>⟨?_,hw ▸ af (aa _) n⟩
 rw [he];show Ending.returned (.tuple #[ae (Lib.cut s [c]).1,ae (Lib.cut s [c]).2.1,.bool (Lib.cut s [c]).2.2])=_;rw [hc]
theorem yV:be 2=.iface 58 (.int .i64 2):=if_neg (by decide)
theorem yW:be 4=.iface 58 (.int .i64 4):=if_neg (by decide)
def isD (D:List UInt8):Prop:=D≠[]∧D.all aM=true
def sg (m:Bool) (D:List UInt8):List UInt8:=if m then 45 :: D else D
def sgI (m:Bool) (n:Int):Int:=if m then -n else n
inductive xw (s:List UInt8):Prop
  | whole (m:Bool) (D:List UInt8) (hD:isD D) (hs:s=sg m D)
  | quo (m:Bool) (D E:List UInt8) (hD:isD D) (hE:isD E) (hs:s=sg m (D ++ 47 :: E))
  | dot (m:Bool) (D E:List UInt8) (hD:isD D) (hE:isD E) (hs:s=sg m (D ++ 46 :: E))
theorem xx {p:UInt8→Bool}:∀ {l:List UInt8},(l.takeWhile p).length=l.length→l.all p=true:=by
 intro l h;have e:l.takeWhile p=l:=(List.takeWhile_sublist p).eq_of_length h;rw [← e];exact ic l
theorem mV {r:List UInt8}{k:Nat}(h:ci r=k) (hk:0 < k):∃ D d,r=D ++ d∧D.length=k∧isD D:=by
 obtain ⟨d,hd,_⟩:=fO aM r;refine ⟨r.takeWhile aM,d,hd,h,?_,ic r⟩;intro e;unfold ci at h;rw [e] at h;simp at h;omega
theorem num_full {s:List UInt8}(h:bH s=s.length) (h0:0 < s.length):xw s:=by
 obtain ⟨m,k,hm,hk,hc⟩:=jL (s:=s) (i:=0) (v:=s.length) h;simp only [Nat.zero_add] at hk hc
 obtain ⟨b,hb⟩:∃ b:Bool,s=sg b (s.drop m):=by
  rcases hm with ⟨rfl,ha⟩ | ⟨rfl,_⟩
  ·refine ⟨true,?_⟩
   have:=bt h0;rw [ha] at this;exact this
  exact ⟨false,rfl⟩
 rcases hc with ⟨_,hv⟩ | ⟨hkp,d,hd,hc⟩
 ·omega
 obtain ⟨D,r,hr,hDl,hD⟩:=mV hk hkp;have hml:m+k≤s.length:=dd hk hkp
 have hrl:r.length=s.length - (m+k):=by
  have:=congrArg List.length hr;rw [List.length_drop,List.length_append] at this;omega
 rcases hc with ⟨_,_,hv⟩ | ⟨hdd,t,ht,hc⟩
 ·have:r=[]:=List.eq_nil_of_length_eq_zero (by omega)
  subst this;rw [List.append_nil] at hr;exact .whole b D hD (by rw [← hr];exact hb)
 have hin:m+k < s.length:=by rcases hdd with e | e <;> exact mN hd (by rw [e];decide)
 rcases hc with ⟨_,hv⟩ | ⟨htp,hv⟩
 ·omega
 have e1:s.drop (m+k)=r:=by rw [← List.drop_drop,hr,← hDl,List.drop_left]
 have e2:=bt hin;rw [e1,hd] at e2
 have hE:isD (s.drop (m+k+1)):=by
  refine ⟨fun e=>?_,xx (p:=aM) ?_⟩
  ·rw [e] at ht;simp [ci] at ht;omega
  show ci (s.drop (m+k+1))=_;rw [ht,List.length_drop];omega
 rw [e2] at hr;rw [hr] at hb;rcases hdd with rfl | rfl
 ·exact .dot b D _ hD hE hb
 exact .quo b D _ hD hE hb
theorem fR {D:List UInt8}(h:isD D):∃ c t,D=c :: t∧aM c=true:=by
 obtain ⟨h1,h2⟩:=h
 cases D with
 | nil=>exact absurd rfl h1
 | cons c t=>rw [List.all_cons,Bool.and_eq_true] at h2;exact ⟨c,t,rfl,h2.1⟩
theorem fz {D:List UInt8}(h:isD D) {c:UInt8}(hc:aM c=false):c ∉ D:=fun hm=>by
 have:=List.all_eq_true.1 h.2 c hm;rw [hc] at this;cases this
theorem ff {m:Bool}{D r:List UInt8}(h:isD D):bX (sg m (D ++ r))=m∧bI (sg m (D ++ r))=D ++ r:=by
 obtain ⟨c,t,rfl,hc⟩:=fR h;have h45:c≠45:=by rintro rfl;exact absurd hc (by decide)
 cases m
 ·show bX (c :: (t ++ r))=false∧bI (c :: (t ++ r))=_
  refine ⟨?_,?_⟩
  ·unfold bX;split
   ·rename_i h1;injection h1 with h2;exact absurd h2 h45
   rfl
  unfold bI;split
  ·rename_i h1;injection h1 with h2;exact absurd h2 h45
  rfl
 exact ⟨rfl,rfl⟩
def cM (D:List UInt8):List UInt8:=if D.dropWhile (· == 48)=[] then [48] else D.dropWhile (· == 48)
theorem oT (t:List UInt8):ap (48 :: t)=ap t:=by
 have:=fp [48] t;rw [show ap [48]=0 from rfl,Nat.zero_mul,Nat.zero_add] at this;exact this
theorem ve:∀ {D:List UInt8},D.all aM=true→okZ (cM D)=true∧dT (cM D)=(ap D:Int)∧(cM D).length≤max 1 D.length:=by
 intro D
 induction D with
 | nil=>intro _;exact ⟨by decide,by decide,by decide⟩
 | cons c t ih =>
  intro h;rw [List.all_cons,Bool.and_eq_true] at h;by_cases hc:c=48
  ·subst hc
   have e:cM (48 :: t)=cM t:=by unfold cM;simp
   rw [e,oT];obtain ⟨h1,h2,h3⟩:=ih h.2;refine ⟨h1,h2,?_⟩;rw [List.length_cons];omega
  have e:cM (c :: t)=c :: t:=by unfold cM;simp [hc]
  have h45:c≠45:=by rintro rfl;exact absurd h.1 (by decide)
  have eh:bX (c :: t)=false:=by
   unfold bX;split
   ·rename_i h1;injection h1 with h2;exact absurd h2 h45
   rfl
  have et:bI (c :: t)=c :: t:=by
   unfold bI;split
   ·rename_i h1;injection h1 with h2;exact absurd h2 h45
   rfl
  rw [e];refine ⟨?_,?_,by omega⟩
  ·unfold okZ
   rw [eh,et];simp [h.1,hc];simpa using h.2
  unfold dT;rw [eh,et];rfl
inductive mW (s:List UInt8) (x:Int) (q:Rat):Prop
  | large (h:60 < s.length) (hx:x=4) (hq:q=0)
  | bad (h:s.length≤60) (hb:s.length=0∨bH s≠s.length) (hx:x=2) (hq:q=0)
  | whole (m:Bool) (D:List UInt8) (h:s.length≤60) (hn:bH s=s.length) (hD:isD D) (hs:s=sg m D) (hx:x=0) (hq:q=((sgI m (ap D):Int):Rat))
  | quo0 (m:Bool) (D E:List UInt8) (h:s.length≤60) (hn:bH s=s.length) (hD:isD D) (hE:isD E) (hs:s=sg m (D ++ 47 :: E)) (h0:ap E=0) (hx:x=8) (hq:q=0)
  | quo (m:Bool) (D E:List UInt8) (h:s.length≤60) (hn:bH s=s.length) (hD:isD D) (hE:isD E) (hs:s=sg m (D ++ 47 :: E)) (h0:ap E≠0) (hx:x=0) (hq:q=Rat.divInt (sgI m (ap D)) (ap E))
  | dot (m:Bool) (D E:List UInt8) (h:s.length≤60) (hn:bH s=s.length) (hD:isD D) (hE:isD E) (hs:s=sg m (D ++ 46 :: E)) (hx:x=0) (hq:q=Rat.divInt (sgI m (ap (D ++ E))) ((10 ^ E.length:Nat):Int))
theorem qi (s:List UInt8):∃ x q,mW s x q:=by
 by_cases h:60 < s.length
 ·exact ⟨4,0,.large h rfl rfl⟩
 by_cases hb:s.length=0∨bH s≠s.length
 ·exact ⟨2,0,.bad (by omega) hb rfl rfl⟩
 ·have hb1:bH s=s.length:=by
   by_cases e:bH s=s.length
   ·exact e
   exact absurd (.inr e) hb
  have hb2:0 < s.length:=by
   rcases Nat.eq_zero_or_pos s.length with e | e
   ·exact absurd (.inl e) hb
   exact e
  rcases num_full hb1 hb2 with ⟨m,D,hD,hs⟩ | ⟨m,D,E,hD,hE,hs⟩ | ⟨m,D,E,hD,hE,hs⟩
  ·exact ⟨0,_,.whole m D (by omega) hb1 hD hs rfl rfl⟩
  ·by_cases h0:ap E=0
   ·exact ⟨8,_,.quo0 m D E (by omega) hb1 hD hE hs h0 rfl rfl⟩
   exact ⟨0,_,.quo m D E (by omega) hb1 hD hE hs h0 rfl rfl⟩
  exact ⟨0,_,.dot m D E (by omega) hb1 hD hE hs rfl rfl⟩
theorem oU (n:Nat):cM (49 :: List.replicate n 48)=49 :: List.replicate n 48∧ap (49 :: List.replicate n 48)=10 ^ n∧(49 :: List.replicate n 48).all aM=true:=by
 refine ⟨by unfold cM;simp,?_,?_⟩
 ·induction n with
  | zero=>rfl
  | succ n ih =>
   rw [List.replicate_succ',← List.cons_append,fM,ih,show jI 48=0 from rfl,Nat.pow_succ];omega
 rw [List.all_cons,Bool.and_eq_true];refine ⟨by decide,?_⟩;rw [List.all_eq_true];intro c hc;rw [List.eq_of_mem_replicate hc];decide
theorem jf {D:List UInt8}(h:D.all aM=true) (hl:D.length≤60):ap D < 4294967296 ^ 60:=by
 have h1:=dK h;have h2:(10:Nat) ^ D.length≤10 ^ 60:=Nat.pow_le_pow_right (by decide) hl;have h3:(10:Nat) ^ 60 < 4294967296 ^ 60:=by decide
 omega
theorem xy (m:Bool) (n:Nat):(sgI m (n:Int)).natAbs=n:=by cases m <;> simp [sgI]
noncomputable def valX (s:List UInt8):Int:=(qi s).choose
noncomputable def valQ (s:List UInt8):Rat:=(qi s).choose_spec.choose
theorem rc (s:List UInt8):mW s (valX s) (valQ s):=(qi s).choose_spec.choose_spec
structure PS where
  toks:List Tkn
  L:ai
  x:Int
def PS.fail (s:PS) (e:Int):PS:=if s.x=0 then { s with x:=e } else s
def PS.next (s:PS) (k:Nat):Option (List UInt8) × PS :=
  if s.x≠0 then (none,s) else match s.toks with
    | []=>(none,{ s with x:=18 })
    | t :: _=>if t.kind=k then (some t.text,s) else (none,{ s with x:=2 })
def PS.drop1 (s:PS):PS:={ s with toks:=s.toks.drop 1 }
def PS.word (s:PS):List UInt8 × PS:=match s.next 0 with
  | (some t,s')=>(t,s'.drop1)
  | (none,s')=>([],s')
def PS.expect (s:PS) (k:Nat) (text:List UInt8):PS:=match s.next k with
  | (some t,s')=>if t=text then s'.drop1 else s'.fail 2
  | (none,s')=>s'
noncomputable def PS.number (s:PS):Rat × PS:=match s.next 1 with
  | (some t,s')=>if valX t≠0 then (0,s'.fail (valX t)) else (valQ t,s'.drop1)
  | (none,s')=>(0,s')
noncomputable def PS.mark (s:PS):au × PS :=
  (⟨s.word.1,rd s.word.2.number.1,rd s.word.2.number.2.number.1⟩,s.word.2.number.2.number.2.expect 2 [59])
def PS.signHead (s:PS):Bool:=match s.toks with | t :: _=>t.kind == 2 | []=>false
noncomputable def PS.marks:Nat→PS→List au→List au × PS
  | 0,s,l=>(l,s)
  | f+1,s,l=>if s.x≠0 then (l,s) else if s.signHead then (l,s.expect 2 [125]) else PS.marks f s.mark.2 (l ++ [s.mark.1])
noncomputable def PS.body (s:PS):aj × PS :=
  let r:=PS.marks (s.toks.length+1) (s.word.2.expect 2 [123]) []
  (⟨s.word.1,r.1⟩,r.2)
def gZ (l:List aj) (nm:List UInt8):Option Nat:=l.findIdx? fun b=>b.name == nm
def kO (l:List au) (nm:List UInt8):Option Nat:=l.findIdx? fun m=>m.name == nm
def PS.named (s:PS) (only:Int):Int × PS :=
  let s':=s.word.2
  if s'.x≠0 then (0,s') else match gZ s'.L.bodies s.word.1 with
    | some i=>((i:Int),if 0≤only∧(i:Int)≠only then s'.fail 7 else s')
    | none=>(0,s'.fail 5)
def PS.full (s:PS) (only:Int):Int × Int × PS :=
  let b:=(s.named only).1
  let s1:=(s.named only).2.expect 2 [46]
  let s2:=s1.word.2
  if s2.x≠0 then (0,0,s2) else match kO (dy s2.L b) s1.word.1 with
    | some i=>(b,(i:Int),s2)
    | none=>(0,0,s2.fail 5)
def PS.addB (s:PS) (b:aj):PS:={ s with L:={ s.L with bodies:=s.L.bodies ++ [b] } }
def PS.addJ (s:PS) (j:aK):PS:={ s with L:={ s.L with joints:=s.L.joints ++ [j] } }
def PS.addD (s:PS) (d:aQ):PS:={ s with L:={ s.L with drivers:=s.L.drivers ++ [d] } }
def PS.joint (s:PS) (slide:Bool):PS :=
  let a:=s.word.2.full (-1)
  let b:=a.2.2.full (-1)
  let t:Int × Int × PS:=if slide then b.2.2.full b.1 else (0,0,b.2.2)
  (t.2.2.expect 2 [59]).addJ ⟨s.word.1,if slide then 1 else 0,a.1,a.2.1,b.1,b.2.1,t.2.1⟩
def PS.driver (s:PS):PS :=
  let d:=s.word.2.named (-1)
  (d.2.expect 2 [59]).addD ⟨s.word.1,d.1⟩
def kP:List UInt8:=[98,111,100,121]
def sN:List UInt8:=[112,105,110]
def jR:List UInt8:=[115,108,105,100,101]
def gG:List UInt8:=[100,114,105,118,101,114]
def bC:List UInt8:=[108,105,110,107,97,103,101]
noncomputable def PS.item (s:PS):PS :=
  let s':=s.word.2
  if s.word.1=kP then s'.body.2.addB s'.body.1
  else if s.word.1=sN then s'.joint false
  else if s.word.1=jR then s'.joint true
  else if s.word.1=gG then s'.driver
  else s'.fail 2
noncomputable def PS.items:Nat→PS→PS
  | 0,s=>s
  | f+1,s=>if s.x=0∧s.toks≠[] then PS.items f s.item else s
def L0:ai:=⟨[],[],[],[]⟩
noncomputable def cV (l:List Tkn):PS :=
  let s1:=(⟨l,L0,0⟩:PS).expect 0 bC
  let s2:=s1.word.2
  let s3:PS:={ s2 with L:={ s2.L with name:=s1.word.1 } }
  PS.items (l.length+1) (s3.expect 2 [59])
inductive eE (s:List UInt8) (x:Int) (L:ai):Prop
  | split (l:List Tkn) (hs:bh s x l) (hx:x≠0) (hL:L=L0)
  | read (l:List Tkn) (hs:bh s 0 l) (hr:(cV l).x=x) (hx:x≠0) (hL:L=L0)
  | check (l:List Tkn) (hs:bh s 0 l) (hr:(cV l).x=0) (hc:bZ (cV l).L=x) (hx:x≠0) (hL:L=L0)
  | ok (l:List Tkn) (hs:bh s 0 l) (hr:(cV l).x=0) (hc:bZ (cV l).L=0) (hx:x=0) (hL:L=(cV l).L)
theorem eE.uniq {s:List UInt8}{x y:Int}{L M:ai}(h:eE s x L) (h':eE s y M):x=y∧L=M:=by
 cases h with
 | split l hs hx hL =>
  cases h' with
  | split l' hs' hx' hL'=>exact ⟨(hs.uniq hs').1,by rw [hL,hL']⟩
  | read l' hs' _ _ _=>exact absurd (hs.uniq hs').1 hx
  | check l' hs' _ _ _ _=>exact absurd (hs.uniq hs').1 hx
  | ok l' hs' _ _ _ _=>exact absurd (hs.uniq hs').1 hx
 | read l hs hr hx hL =>
  cases h' with
  | split l' hs' hx' hL'=>exact absurd (hs.uniq hs').1.symm hx'
  | read l' hs' hr' hx' hL' =>
   obtain ⟨_,rfl⟩:=hs.uniq hs';exact ⟨hr.symm.trans hr',by rw [hL,hL']⟩
  | check l' hs' hr' _ _ _ =>
   obtain ⟨_,rfl⟩:=hs.uniq hs';exact absurd (hr.symm.trans hr') hx
  | ok l' hs' hr' _ _ _ =>
   obtain ⟨_,rfl⟩:=hs.uniq hs';exact absurd (hr.symm.trans hr') hx
 | check l hs hr hc hx hL =>
  cases h' with
  | split l' hs' hx' hL'=>exact absurd (hs.uniq hs').1.symm hx'
  | read l' hs' hr' hx' hL' =>
   obtain ⟨_,rfl⟩:=hs.uniq hs';exact absurd (hr'.symm.trans hr) hx'
  | check l' hs' hr' hc' hx' hL' =>
   obtain ⟨_,rfl⟩:=hs.uniq hs';exact ⟨hc.symm.trans hc',by rw [hL,hL']⟩
  | ok l' hs' hr' hc' _ _ =>
   obtain ⟨_,rfl⟩:=hs.uniq hs';exact absurd (hc.symm.trans hc') hx
 | ok l hs hr hc hx hL =>
  cases h' with
  | split l' hs' hx' hL'=>exact absurd (hs.uniq hs').1.symm hx'
  | read l' hs' hr' hx' hL' =>
   obtain ⟨_,rfl⟩:=hs.uniq hs';exact absurd (hr'.symm.trans hr) hx'
  | check l' hs' hr' hc' hx' hL' =>
   obtain ⟨_,rfl⟩:=hs.uniq hs';exact absurd (hc'.symm.trans hc) hx'
  | ok l' hs' hr' hc' hx' hL' =>
   obtain ⟨_,rfl⟩:=hs.uniq hs';exact ⟨by rw [hx,hx'],by rw [hL,hL']⟩
def Stp (d:Nat) (s s':PS):Prop:=s'.toks.length≤s.toks.length∧(s.x≠0→s'=s)∧(s'.x=0→s.x=0∧s'.toks.length+d≤s.toks.length)∧s'.L=s.L
theorem Stp.refl (s:PS):Stp 0 s s:=⟨Qr,fun _=>rfl,fun h=>⟨h,Qr⟩,rfl⟩
theorem Stp.trans {d e:Nat}{a b c:PS}(h:Stp d a b) (k:Stp e b c):Stp (d+e) a c :=
 ⟨Nat.le_trans k.1 h.1,fun hx=>by have:=h.2.1 hx;subst this;exact k.2.1 hx,fun hx=>by
  obtain ⟨h1,h2⟩:=k.2.2.1 hx;obtain ⟨h3,h4⟩:=h.2.2.1 h1
  exact ⟨h3,by omega⟩,k.2.2.2.trans h.2.2.2⟩
theorem Stp.mono {d e:Nat}{a b:PS}(h:Stp d a b) (he:e≤d):Stp e a b:=⟨h.1,h.2.1,fun hx=>⟨(h.2.2.1 hx).1,by have:=(h.2.2.1 hx).2;omega⟩,h.2.2.2⟩
theorem Stp.sameL {d:Nat}{s s':PS}(h:Stp d s s'):s'.L=s.L:=h.2.2.2
theorem dX (s:PS) (e:Int) (he:e≠0) (d:Nat):Stp d s (s.fail e):=by
 unfold PS.fail;split
 ·rename_i hx
  exact ⟨Qr,fun h=>absurd hx h,fun h=>absurd h he,rfl⟩
 rename_i hx;exact ⟨Qr,fun _=>rfl,fun h=>absurd h hx,rfl⟩
theorem next_cases (s:PS) (k:Nat):(∃ t r,s.x=0∧s.toks=t :: r∧t.kind=k∧s.next k=(some t.text,s))∨(∃ s',s.next k=(none,s')∧∀ d,Stp d s s'):=by
 unfold PS.next;split
 ·rename_i hx
  exact .inr ⟨s,rfl,fun d=>⟨Qr,fun _=>rfl,fun h=>absurd h hx,rfl⟩⟩
 rename_i hx;have hx:s.x=0:=by simpa using hx
 split
 ·exact .inr ⟨_,rfl,fun d=>⟨Qr,fun h=>absurd hx h,fun h=>absurd (show (18:Int)=0 from h) (by decide),rfl⟩⟩
 rename_i t r e;split
 ·rename_i hk
  exact .inl ⟨t,r,hx,e,hk,rfl⟩
 exact .inr ⟨_,rfl,fun d=>⟨Qr,fun h=>absurd hx h,fun h=>absurd (show (2:Int)=0 from h) (by decide),rfl⟩⟩
theorem jS {s:PS}{t:Tkn}{r:List Tkn}(hx:s.x=0) (e:s.toks=t :: r):Stp 1 s s.drop1:=by
 refine ⟨?_,fun h=>absurd hx h,fun _=>⟨hx,?_⟩,rfl⟩
 ·show (s.toks.drop 1).length≤_
  simp
 show (s.toks.drop 1).length+1≤_;rw [e];simp
theorem aw (s:PS):Stp 1 s s.word.2:=by
 unfold PS.word;rcases next_cases s 0 with ⟨t,r,hx,e,_,h⟩ | ⟨s',h,hs⟩
 ·rw [h];exact jS hx e
 rw [h];exact hs 1
theorem aI (s:PS) (k:Nat) (t:List UInt8):Stp 1 s (s.expect k t):=by
 unfold PS.expect;rcases next_cases s k with ⟨t0,r,hx,e,_,h⟩ | ⟨s',h,hs⟩
 ·rw [h]
  show Stp 1 s (if t0.text=t then s.drop1 else s.fail 2);split
  ·exact jS hx e
  exact dX s 2 (by decide) 1
 rw [h];exact hs 1
theorem kQ (s:PS):Stp 1 s s.number.2:=by
 unfold PS.number;rcases next_cases s 1 with ⟨t0,r,hx,e,_,h⟩ | ⟨s',h,hs⟩
 ·rw [h]
  show Stp 1 s (if valX t0.text≠0 then _ else _:Rat × PS).2;split
  ·rename_i hv
   exact dX s _ hv 1
  exact jS hx e
 rw [h];exact hs 1
theorem jg (s:PS):Stp 4 s s.mark.2:=(((aw s).trans (kQ _)).trans (kQ _)).trans (aI _ _ _)
theorem fA {s:PS}(h:∀ t∈s.toks,NmL t.text):NmL s.word.1:=by
 unfold PS.word;rcases next_cases s 0 with ⟨t,r,hx,e,_,h1⟩ | ⟨s',h1,_⟩
 ·rw [h1];exact h t (by rw [e];simp)
 rw [h1];show ([]:List UInt8).length < _;decide
theorem mX {f:Nat}{s:PS}{l:List au}(h:s.x≠0):PS.marks f s l=(l,s):=by
 cases f
 ·rfl
 exact if_pos h
theorem gH {f:Nat}{s:PS}{l:List au}(hf:0 < f) (h:s.x=0) (hs:s.signHead=true):PS.marks f s l=(l,s.expect 2 [125]):=by
 obtain ⟨f,rfl⟩:∃ g,f=g+1:=⟨f - 1,by omega⟩;show (if s.x≠0 then _ else if s.signHead then _ else _)=_;rw [if_neg (by simp [h]),if_pos hs]
theorem dY {f:Nat}{s:PS}{l:List au}(hf:0 < f) (h:s.x=0) (hs:s.signHead=false):PS.marks f s l=PS.marks (f - 1) s.mark.2 (l ++ [s.mark.1]):=by
 obtain ⟨f,rfl⟩:∃ g,f=g+1:=⟨f - 1,by omega⟩;show (if s.x≠0 then _ else if s.signHead then _ else _)=_;rw [if_neg (by simp [h]),if_neg (by simp [hs])];rfl
theorem me:∀ (f:Nat) (s:PS) (l:List au),Stp 0 s (PS.marks f s l).2
 | 0,s,_=>Stp.refl s
 | f+1,s,l=>by
  by_cases h:s.x=0
  ·cases hs:s.signHead
   ·rw [dY (by omega) h hs]
    exact ((jg s).trans (me f _ _)).mono (by omega)
   rw [gH (by omega) h hs];exact (aI _ _ _).mono (by omega)
  rw [mX h];exact Stp.refl s
theorem oV (s:PS):Stp 2 s s.body.2:=(((aw s).trans (aI _ _ _)).trans (me _ _ _)).mono (by omega)
theorem gI (s:PS) (only:Int):Stp 1 s (s.named only).2:=by
 unfold PS.named;simp only;split
 ·rename_i hx
  exact aw s
 split
 ·split
  ·exact ((aw s).trans (dX _ 7 (by decide) 0)).mono (by omega)
  exact aw s
 exact ((aw s).trans (dX _ 5 (by decide) 0)).mono (by omega)
theorem cW (s:PS) (only:Int):Stp 3 s (s.full only).2.2:=by
 have h:=((gI s only).trans (aI _ 2 [46])).trans (aw _);unfold PS.full;simp only;split
 ·exact h
 split
 ·exact h
 exact (h.trans (dX _ 5 (by decide) 0)).mono (by omega)
theorem gJ {s:PS}(h:s.word.1≠[]):s.word.2.toks.length+1=s.toks.length∧s.x=0:=by
 unfold PS.word at h ⊢;rcases next_cases s 0 with ⟨t,r,hx,e,_,h1⟩ | ⟨s',h1,_⟩
 ·rw [h1]
  refine ⟨?_,hx⟩;show (s.toks.drop 1).length+1=_;rw [e];simp
 rw [h1] at h;exact absurd rfl h
theorem mf:∀ (f:Nat) (s:PS) (l:List au),(PS.marks f s l).1.length≤l.length+s.toks.length+(if s.x=0 then 1 else 0)
 | 0,s,l=>by
  show l.length≤_;omega
 | f+1,s,l=>by
  by_cases h:s.x=0
  ·cases hs:s.signHead
   ·rw [dY (by omega) h hs,if_pos h]
    have h1:=mf f s.mark.2 (l ++ [s.mark.1]);have h2:=jg s;rw [List.length_append,List.length_singleton] at h1;show (PS.marks f s.mark.2 _).1.length≤_;by_cases hx:s.mark.2.x=0
    ·have:=(h2.2.2.1 hx).2
     rw [if_pos hx] at h1;omega
    have:=h2.1;rw [if_neg hx] at h1;omega
   rw [gH (by omega) h hs];show l.length≤_;omega
  rw [mX h];show l.length≤_;omega
theorem vf (s:PS):s.body.1.pts.length≤s.toks.length+1:=by
 have h:=mf (s.toks.length+1) (s.word.2.expect 2 [123]) [];have h2:=((aw s).trans (aI s.word.2 2 [123])).1;show (PS.marks (s.toks.length+1) (s.word.2.expect 2 [123]) []).1.length≤_;simp only [List.length_nil,Nat.zero_add] at h;split at h <;> omega
theorem vg {l:List aj}{nm:List UInt8}{i:Nat}(h:gZ l nm=some i):i < l.length:=by
 unfold gZ at h;exact (List.findIdx?_eq_some_iff_findIdx_eq.1 h).1
theorem vh (s:PS) (only:Int) (h:(s.named only).2.x=0):∃ i:Nat,(s.named only).1=(i:Int)∧i < s.L.bodies.length:=by
 have hL:=(aw s).2.2.2;unfold PS.named at h ⊢;simp only at h ⊢;split at h
 ·rename_i hx;exact absurd h hx
 rename_i hx;rw [if_neg hx];split at h
 ·rename_i i hi
  exact ⟨i,rfl,by rw [← hL];exact vg hi⟩
 rename_i hn;have:(s.word.2.fail 5).x≠0:=by unfold PS.fail;rw [if_pos (by simpa using hx)];show (5:Int)≠0;decide
 exact absurd h this
theorem mg (s:PS) (b:Bool):(s.joint b).toks.length≤s.toks.length∧((s.joint b).x=0→s.x=0):=by
 have h0:=aw s;have h1:=cW s.word.2 (-1);unfold PS.joint;cases b
 ·simp only [Bool.false_eq_true,if_false]
  generalize s.word.2.full (-1)=fa at h1 ⊢;have h2:=cW fa.2.2 (-1);generalize fa.2.2.full (-1)=fb at h2 ⊢;have h:=((h0.trans h1).trans h2).trans (aI fb.2.2 2 [59]);exact ⟨h.1,fun hx=>(h.2.2.1 hx).1⟩
 simp only [if_true];generalize s.word.2.full (-1)=fa at h1 ⊢;have h2:=cW fa.2.2 (-1);generalize fa.2.2.full (-1)=fb at h2 ⊢;have h4:=cW fb.2.2 fb.1;generalize fb.2.2.full fb.1=ft at h4 ⊢;have h:=(((h0.trans h1).trans h2).trans h4).trans (aI ft.2.2 2 [59]);exact ⟨h.1,fun hx=>(h.2.2.1 hx).1⟩
theorem qj (s:PS):s.driver.toks.length≤s.toks.length∧(s.driver.x=0→s.x=0):=by
 have h:=((aw s).trans (gI _ (-1))).trans (aI _ 2 [59]);unfold PS.driver;exact ⟨h.1,fun hx=>(h.2.2.1 hx).1⟩
theorem oW (s:PS):s.item.toks.length≤s.toks.length∧(s.item.x=0→s.item.toks.length+1≤s.toks.length):=by
 have hw:=aw s
 have key:∀ s':PS,s'.toks.length≤s.word.2.toks.length→(s'.x=0→s.word.2.x=0)→s'.toks.length≤s.toks.length∧(s'.x=0→s'.toks.length+1≤s.toks.length):=by
  intro s' h1 h2;refine ⟨Nat.le_trans h1 hw.1,fun hx=>?_⟩;have:=(hw.2.2.1 (h2 hx)).2;omega
 unfold PS.item;split
 ·have h:=oV s.word.2
  exact key _ h.1 (fun hx=>(h.2.2.1 hx).1)
 split
 ·have h:=mg s.word.2 false
  exact key _ h.1 h.2
 split
 ·have h:=mg s.word.2 true
  exact key _ h.1 h.2
 split
 ·have h:=qj s.word.2
  exact key _ h.1 h.2
 have h:=dX s.word.2 2 (by decide) 0;exact key _ h.1 (fun hx=>(h.2.2.1 hx).1)
theorem mh {f:Nat}{s:PS}(h:¬ (s.x=0∧s.toks≠[])):PS.items f s=s:=by
 cases f
 ·rfl
 exact if_neg h
theorem kR {f:Nat}{s:PS}(hf:0 < f) (h:s.x=0∧s.toks≠[]):PS.items f s=PS.items (f - 1) s.item:=by
 obtain ⟨f,rfl⟩:∃ g,f=g+1:=⟨f - 1,by omega⟩;exact if_pos h
def dD (w:World) (g0:Nat):Prop:=∀ o v,w.cell? ⟨g0,o,none⟩=some v→v=ae []∨v=.slice none 0 0∨v=.bool false
def Off (g0:Nat) (w w':World):Prop:=(∀ g,g≠g0→w'.heap[g]?=w.heap[g]?)∧w'.heap.size=w.heap.size
theorem Off.refl (g0:Nat) (w:World):Off g0 w w:=⟨fun _ _=>rfl,rfl⟩
theorem Off.set {g0:Nat}{w w':World}(h:Off g0 w w') (i:Nat) (u:Value):Off g0 w (w'.setCell ⟨g0,i,none⟩ u) :=
 ⟨fun g hg=>(Below.heap_setCell w' ⟨g0,i,none⟩ u g hg).trans (h.1 g hg),by simp [World.setCell,h.2]⟩
section
variable {g0:Nat}{w w':World}
theorem dD.str {g o:Nat}{s:List UInt8}(z:dD w g0) (h:w.cell? ⟨g,o,none⟩=some (ae s)) (hs:s≠[]):g≠g0:=by
 rintro rfl;rcases z o _ h with e | e | e
 ·injection e with e
  injection e with e;injection e with e;exact hs e
 ·cases e
 cases e
theorem bJ {g o:Nat}(hg:g≠g0) (h:Off g0 w w'):w'.cell? ⟨g,o,none⟩=w.cell? ⟨g,o,none⟩:=by
 unfold World.cell?;rw [h.1 g hg]
theorem Wd.off {A:Option Addr}{n c:Nat}{l:List Nat}(x:Wd w A n c l) (z:dD w g0) (h:Off g0 w w'):Wd w' A n c l:=by
 refine ⟨x.1,x.2.1,x.2.2.1,fun hn=>?_⟩;obtain ⟨g,o,cur,fr,e,hr,hc⟩:=x.2.2.2 hn
 have hne:g≠g0:=by
  rintro rfl;have h0:=hc 0 hn;rw [← hr.cell] at h0;rcases z _ _ h0 with e | e | e <;> cases e
 exact ⟨g,o,cur,fr,e,hr.same (h.1 g hne),hc⟩
theorem QD.off {b:Bool}{A D:Option Addr}{n c m e k:Nat}{r:RD}(x:QD w b A n c D m e r k) (z:dD w g0) (h:Off g0 w w'):QD w' b A n c D m e r k:=⟨x.1,x.2.1.off z h,x.2.2.1.off z h,x.2.2.2⟩
theorem cP.off {g o k:Nat}{r:RD}(hg:g≠g0) (x:cP w g o r k) (z:dD w g0) (h:Off g0 w w'):cP w' g o r k:=by
 obtain ⟨b,A,n,c,D,m,e,h1,h2,h3,h4⟩:=x;exact ⟨b,A,n,c,D,m,e,(bJ hg h).trans h1,(bJ hg h).trans h2,(bJ hg h).trans h3,h4.off z h⟩
theorem dz.off {g o k:Nat}{m:au}(hm:m.name≠[]) (x:dz k w g o m) (z:dD w g0) (h:Off g0 w w'):dz k w' g o m:=by
 have hg:=z.str x.1 hm;exact ⟨(bJ hg h).trans x.1,x.2.1.off hg z h,x.2.2.1.off hg z h,x.2.2.2⟩
theorem SlS.off {α:Type}{P:World→Nat→Nat→α→Prop}{s:Nat}{A:Option Addr}{n c:Nat}{l:List α}(x:SlS P s w A n c l) (hP:∀ g o a,a∈l→P w g o a→P w' g o a) (h:Off g0 w w'):SlS P s w' A n c l:=by
 refine ⟨x.1,x.2.1,fun hn=>?_⟩;obtain ⟨g,o,e,hg,h3⟩:=x.2.2 hn;exact ⟨g,o,e,by rw [h.2];exact hg,fun i a ha=>hP _ _ _ (List.mem_of_getElem? ha) (h3 i a ha)⟩
theorem SlS.offM {k:Nat}{A:Option Addr}{n c:Nat}{l:List au}(hm:∀ m∈l,m.name≠[]) (x:SlS (dz k) 7 w A n c l) (z:dD w g0) (h:Off g0 w w'):SlS (dz k) 7 w' A n c l:=x.off (fun _ _ a ha y=>y.off (hm a ha) z h) h
theorem eM.off {g o k:Nat}{b:aj}(hb:b.name≠[]) (hm:∀ m∈b.pts,m.name≠[]) (x:eM k w g o b) (z:dD w g0) (h:Off g0 w w'):eM k w' g o b:=by
 obtain ⟨A,n,c,h1,h2,h3,h4⟩:=x;have hg:=z.str h1 hb;exact ⟨A,n,c,(bJ hg h).trans h1,(bJ hg h).trans h2,h3.offM hm z h,h4⟩
theorem iZ.off {g o:Nat}{j:aK}(hj:j.name≠[]) (x:iZ w g o j) (z:dD w g0) (h:Off g0 w w'):iZ w' g o j:=by
 have hg:=z.str x.1 hj;exact ⟨(bJ hg h).trans x.1,(bJ hg h).trans x.2.1,(bJ hg h).trans x.2.2.1,(bJ hg h).trans x.2.2.2.1,(bJ hg h).trans x.2.2.2.2.1,(bJ hg h).trans x.2.2.2.2.2.1,(bJ hg h).trans x.2.2.2.2.2.2.1,x.2.2.2.2.2.2.2⟩
theorem jc.off {g o:Nat}{d:aQ}(hd:d.name≠[]) (x:jc w g o d) (z:dD w g0) (h:Off g0 w w'):jc w' g o d:=by
 have hg:=z.str x.1 hd;exact ⟨(bJ hg h).trans x.1,(bJ hg h).trans x.2.1,x.2.2⟩
structure Aq (L:ai):Prop where
  bodies:∀ b∈L.bodies,b.name≠[]∧∀ m∈b.pts,m.name≠[]
  joints:∀ j∈L.joints,j.name≠[]
  drivers:∀ d∈L.drivers,d.name≠[]
theorem LkS.off {k:Nat}{A B C:Option Addr}{n c p d q e:Nat}{L:ai}(hL:Aq L) (x:LkS k w A n c B p d C q e L) (z:dD w g0) (h:Off g0 w w'):LkS k w' A n c B p d C q e L :=
 ⟨x.name,x.bodies.off (fun _ _ a ha y=>y.off (hL.bodies a ha).1 (hL.bodies a ha).2 z h) h,x.joints.off (fun _ _ a ha y=>y.off (hL.joints a ha) z h) h,x.drivers.off (fun _ _ a ha y=>y.off (hL.drivers a ha) z h) h⟩
theorem Blk.zero {g t:Nat}{cs:Array Value}(x:Blk w g t cs) (h:cs.toList.all (fun v=>match v with | .string s=>s.data.isEmpty | .slice none 0 0=>true | .bool false=>true | _=>false)=true):dD w g:=by
 intro o v hv;rw [x.cell] at hv;have hm:v∈cs.toList:=by rw [Array.mem_toList_iff];exact Array.mem_of_getElem? hv
 have:=List.all_eq_true.1 h v hm;split at this
 ·rename_i s
  left;obtain ⟨d⟩:=s;have e:d=#[]:=by simpa using this
  subst e;rfl
 ·exact .inr (.inl rfl)
 ·exact .inr (.inr rfl)
 cases this
end
def OwJ (J:Value→Bool) (w:World) (base:Nat) (e:TypeId) (size:Nat) (v:Value) (n:Nat) (xs:List Value):Prop :=
  xs.length=n * size ∧
  ((v=.slice none 0 0∧n=0) ∨
   ∃ g cap cur,v=.slice (some ⟨g,0,none⟩) n cap∧base≤g∧w.heap[g]?=some (.cells cur e (0,0))∧n≤cap∧cap≤maxLen∧cur.size=cap * size∧cur.toList.take (n * size)=xs∧cur.toList.all J=true)
theorem OwJ.nil (J:Value→Bool) (w:World) (base:Nat) (e:TypeId) (size:Nat):OwJ J w base e size (.slice none 0 0) 0 []:=⟨by simp,.inl ⟨rfl,rfl⟩⟩
section
variable {J:Value→Bool}{w w':World}{base:Nat}{e:TypeId}{size:Nat}{v:Value}{n:Nat}{xs:List Value}
theorem OwJ.belw (h:OwJ J w base e size v n xs) (hb:Below w.heap.size w w'):OwJ J w' base e size v n xs:=by
 refine ⟨h.1,?_⟩;rcases h.2 with h1 | ⟨g,cap,cur,h1,h2,h3,h4⟩
 ·exact .inl h1
 exact .inr ⟨g,cap,cur,h1,h2,(hb.block g (lt_of_block h3)).trans h3,h4⟩
theorem OwJ.own (h:OwJ J w base e size v n xs):w.ownsRow base e size v n xs:=by
 refine ⟨h.1,?_⟩;rcases h.2 with h1 | ⟨g,cap,cur,h1,h2,h3,h4,h5,h6,h7,_⟩
 ·exact .inl h1
 exact .inr ⟨g,cap,cur,h1,h2,h3,h4,h5,h6,h7⟩
theorem OwJ.at_ (h:OwJ J w base e size v n xs) {g:Nat}(hg:v.ownBlock=some g):base≤g∧∃ cur,w.heap[g]?=some (.cells cur e (0,0))∧cur.toList.all J=true:=by
 rcases h.2 with ⟨rfl,_⟩ | ⟨g',cap,cur,rfl,h2,h3,_,_,_,_,h8⟩
 ·cases hg
 injection hg with hg;subst hg;exact ⟨h2,cur,h3,h8⟩
end
section
variable {P:Program}(w:World)
theorem vi {J:Value→Bool}{z:Array Value}(hz:z.toList.all J=true) (h0:0 < z.size) (n:Nat):(Builtin.zeroCells z n).toList.all J=true:=by
 rw [List.all_eq_true] at hz ⊢;intro x hx;unfold Builtin.zeroCells at hx;rw [Array.mem_toList_iff,Array.mem_map] at hx;obtain ⟨i,_,rfl⟩:=hx;have hlt:=Nat.mod_lt i h0;rw [getElem!_pos z _ hlt];exact hz _ (by simp)
theorem jh (J:Value→Bool) (base:Nat) (t ty e:TypeId) (i:TypeInfo) (z:Value) (size bytes:Nat) (ht:P.underlying t=some (.slice e)) (hi:P.info? e=some i) (hz:i.zero=some z)
 (hsize:i.size=size) (hby:i.bytes=bytes) (hzs:z.cells.size=size) (hsz:0 < size) (hJz:z.cells.toList.all J=true)
 (v:Value) (n:Nat) (xs:List Value) (hown:OwJ J w base e size v n xs)
 (a:Addr) (m c:Nat) (news:List Value) (hl:news.length=m * size) (hnews:∀ j u,news[j]?=some u→w.cell? (a.add j)=some u) (h1:∀ u∈news,u.oneCell'=true) (hJn:news.all J=true)
 (hm:0 < m) (h63:n+m≤maxLen) (hbytes:(n+m) * bytes≤140737488355328) (hbase:base≤w.heap.size) :
 ∃ g cap w',(Builtin.append_ #[t,t] ty #[v,.slice (some a) m c]).run P w=.ok (.slice (some ⟨g,0,none⟩) (n+m) cap) w'∧OwJ J w' base e size (.slice (some ⟨g,0,none⟩) (n+m) cap) (n+m) (xs ++ news) ∧
  w.grownBy w' v.ownBlock∧(v.ownBlock=some g∨g=w.heap.size):=by
 subst hsize
 subst hby
 have hsmall:n+m≤9223372036854775807:=by simp only [maxLen] at h63;omega
 have hlen:(xs ++ news).length=(n+m) * i.size:=by rw [List.length_append,hown.1,hl,Nat.add_mul]
 have fresh:∀ (old:Nat),xs.all J=true →
  OwJ J (w.drew.alloc (.cells (xs.toArray ++ news.toArray ++ Builtin.zeroCells z.cells (grownCap w (n+m) old e - (n+m))) e)) base e i.size (.slice (some ⟨w.heap.size,0,none⟩) (n+m) (grownCap w (n+m) old e)) (n+m) (xs ++ news):=by
  intro old hx;have hge:=grownCap_ge w (n+m) old e;refine ⟨hlen,.inr ⟨w.heap.size,_,_,rfl,hbase,heap_alloc_new w.drew _,hge,grownCap_le_maxLen w (n+m) old e h63,?_,?_,?_⟩⟩
  ·simp only [Array.size_append,List.size_toArray,size_zeroCells,hzs,hown.1,hl,← Nat.add_mul]
   congr 1;omega
  ·simp only [Array.toList_append,List.append_assoc]
   rw [← List.append_assoc,← hlen];exact List.take_left
  simp only [Array.toList_append,List.all_append,hx,hJn,Bool.true_and];exact vi hJz (by omega) _
 have gb:∀ (o:Obj) (row:Option Nat),w.grownBy (w.drew.alloc o) row:=fun o row=>⟨rfl,rfl,rfl,by simp,fun k hk _=>Below.heap_alloc w.drew o k hk⟩
 rcases hown.2 with ⟨rfl,rfl⟩ | ⟨g,cap,cur,rfl,hbg,hg,hnc,hcm,hcs,htake,hJ⟩
 ·have hx:xs=[]:=List.eq_nil_of_length_eq_zero (by simpa using hown.1)
  subst hx;have hr:=run_append_nil (P:=P) w t ty e i z ht hi hz a m c news hl hnews (by omega) (by omega) (by have hb:=hbytes;simp only [Nat.zero_add] at hb;omega);have hf:=fresh 0 rfl;simp only [Nat.zero_add,List.nil_append,Array.empty_append] at hf ⊢;exact ⟨_,_,_,hr,hf,gb _ _,.inr rfl⟩
 by_cases hroom:n+m≤cap
 ·have hfit:n * i.size+news.length≤cur.size:=by rw [hl,hcs,← Nat.add_mul];exact Nat.mul_le_mul_right _ hroom
  have hr:=run_append_room (P:=P) w t ty e i ht hi g n cap cur hg a m c news hl hnews h1 hroom hfit;refine ⟨g,cap,_,hr,⟨hlen,.inr ⟨g,cap,_,rfl,hbg,setRow_heap w g cur _ e _ hg,hroom,hcm,?_,?_,?_⟩⟩,⟨rfl,rfl,rfl,by simp,fun k _ hk=>setRow_other w g k _ (fun e=>hk (by simp [Value.ownBlock,e]))⟩,.inl rfl⟩
  ·simp only [List.size_toArray,List.length_append,List.length_take,List.length_drop,Array.length_toList]
   omega
  ·rw [htake,← hlen]
   exact List.take_left
  rw [List.all_eq_true] at hJ hJn ⊢;intro x hx;rcases List.mem_append.1 hx with hx | hx
  ·rcases List.mem_append.1 hx with hx | hx
   ·exact hJ x (List.mem_of_mem_take hx)
   exact hJn x hx
  exact hJ x (List.mem_of_mem_drop hx)
 have holds:∀ j u,xs[j]?=some u→w.cell? ((⟨g,0,none⟩:Addr).add j)=some u:=hown.own.cells (g:=g) rfl;have hr:=run_append_grow (P:=P) w t ty e i z ht hi hz ⟨g,0,none⟩ n cap xs hown.1 holds a m c news hl hnews (by omega) (by omega) (growslice_fits (by omega) hbytes);exact ⟨_,_,_,hr,fresh cap (by rw [List.all_eq_true] at hJ ⊢;intro x hx;rw [← htake] at hx;exact hJ x (List.mem_of_mem_take hx)),gb _ _,.inr rfl⟩
theorem bL {ops:Array Oper}{rest:List Oper}{o:Oper}{a:Act}{Q:Exit→Act→World→Prop}(hgd:o.guard=none) (J:Value→Bool) (s x:Operand) (t:TypeId)
 (ho:o.op=.call { callee:=.builtin .append,args:=#[s,x],argTypes:=#[t,t] })
 (base:Nat) (e:TypeId) (i:TypeInfo) (z:Value) (size bytes:Nat) (ht:P.underlying t=some (.slice e)) (hi:P.info? e=some i) (hz:i.zero=some z)
 (hsize:i.size=size) (hby:i.bytes=bytes) (hzs:z.cells.size=size) (hsz:0 < size) (hJz:z.cells.toList.all J=true)
 (v:Value) (n:Nat) (xs:List Value) (hs:a.eval s=v) (hown:OwJ J w base e size v n xs)
 (ad:Addr) (m c:Nat) (news:List Value) (hx:a.eval x=.slice (some ad) m c) (hl:news.length=m * size) (hnews:∀ j u,news[j]?=some u→w.cell? (ad.add j)=some u) (h1:∀ u∈news,u.oneCell'=true) (hJn:news.all J=true)
 (hm:0 < m) (h63:n+m≤maxLen) (hbytes:(n+m) * bytes≤140737488355328) (hbase:base≤w.heap.size)
 (h:∀ g cap w',OwJ J w' base e size (.slice (some ⟨g,0,none⟩) (n+m) cap) (n+m) (xs ++ news)→w.grownBy w' v.ownBlock→(v.ownBlock=some g∨g=w.heap.size)→wpList P ops Q rest (a.put o.dst (.slice (some ⟨g,0,none⟩) (n+m) cap)) w'):wpList P ops Q (o :: rest) a w :=
 wpList_plain hgd fun _ hK=>by
  obtain ⟨g,cap,w',hr,h2,h3,h4⟩:=jh (P:=P) w J base t o.type e i z size bytes ht hi hz hsize hby hzs hsz hJz v n xs hown ad m c news hl hnews h1 hJn hm h63 hbytes hbase;unfold Oper.wp execOp;simp only [ho,resolve,invoke,builtin,Sem.run_bind,Sem.run_pure,Result.andThen_ok,List.map_toArray,List.map_cons,List.map_nil,hs,hx,hr];exact hK _ _ (h g cap w' h2 h3 h4)
theorem cd {o:Oper}{a:Act}{K:Act→World→Prop}{Q:Exit→Act→World→Prop}(J:Value→Bool) (s x:Operand) (t:TypeId)
 (ho:o.op=.call { callee:=.builtin .append,args:=#[s,x],argTypes:=#[t,t] })
 (base:Nat) (e:TypeId) (i:TypeInfo) (z:Value) (size bytes:Nat) (ht:P.underlying t=some (.slice e)) (hi:P.info? e=some i) (hz:i.zero=some z)
 (hsize:i.size=size) (hby:i.bytes=bytes) (hzs:z.cells.size=size) (hsz:0 < size) (hJz:z.cells.toList.all J=true)
 (v:Value) (n:Nat) (xs:List Value) (hs:a.eval s=v) (hown:OwJ J w base e size v n xs)
 (ad:Addr) (m c:Nat) (news:List Value) (hx:a.eval x=.slice (some ad) m c) (hl:news.length=m * size) (hnews:∀ j u,news[j]?=some u→w.cell? (ad.add j)=some u) (h1:∀ u∈news,u.oneCell'=true) (hJn:news.all J=true)
 (hm:0 < m) (h63:n+m≤maxLen) (hbytes:(n+m) * bytes≤140737488355328) (hbase:base≤w.heap.size)
 (h:∀ g cap w',OwJ J w' base e size (.slice (some ⟨g,0,none⟩) (n+m) cap) (n+m) (xs ++ news)→w.grownBy w' v.ownBlock→(v.ownBlock=some g∨g=w.heap.size)→K (a.put o.dst (.slice (some ⟨g,0,none⟩) (n+m) cap)) w'):o.wp P a w K Q:=by
 obtain ⟨g,cap,w',hr,h2,h3,h4⟩:=jh (P:=P) w J base t o.type e i z size bytes ht hi hz hsize hby hzs hsz hJz v n xs hown ad m c news hl hnews h1 hJn hm h63 hbytes hbase;unfold Oper.wp execOp;simp only [ho,resolve,invoke,builtin,Sem.run_bind,Sem.run_pure,Result.andThen_ok,List.map_toArray,List.map_cons,List.map_nil,hs,hx,hr];exact h g cap w' h2 h3 h4
end
/-! What touches blocks of certain types only. -/
def isU (v:Value):Bool:=match v with | .int .u32 _=>true | _=>false
def noW (v:Value):Bool:=!isU v
def Tch (T:TypeId→Bool) (w w':World):Prop:=w.heap.size≤w'.heap.size∧∀ (g:Nat) cur t fr,w.heap[g]?=some (.cells cur t fr)→(T t=false∨cur.toList.all noW=false)→w'.heap[g]?=some (.cells cur t fr)
section
variable {T:TypeId→Bool}{w w' w2:World}
theorem Tch.refl (w:World):Tch T w w:=⟨Qr,fun _ _ _ _ h _=>h⟩
theorem Tch.trans (h:Tch T w w') (k:Tch T w' w2):Tch T w w2:=⟨Nat.le_trans h.1 k.1,fun g cur t fr x y=>k.2 g cur t fr (h.2 g cur t fr x y) y⟩
theorem Tch.below (h:Below w.heap.size w w'):Tch T w w':=⟨h.size,fun g _ _ _ x _=>(h.block g (lt_of_block x)).trans x⟩
theorem Tch.more (h:Tch T w w') (k:Below w'.heap.size w' w2):Tch T w w2:=h.trans (Tch.below k)
theorem Tch.mono {T':TypeId→Bool}(h:Tch T w w') (hT:∀ t,T t=true→T' t=true):Tch T' w w':=⟨h.1,fun g cur t fr x y=>h.2 g cur t fr x (y.imp (fun h=>by cases e:T t;rfl;rw [hT t e] at h;cases h) id)⟩
theorem Tch.of_ne {g0:Nat}{cur:Array Value}{t:TypeId}{fr:Nat × Nat}(hs:w.heap.size≤w'.heap.size) (hg:w.heap[g0]?=some (.cells cur t fr)) (hT:T t=true) (hc:cur.toList.all noW=true) (h:∀ g,g < w.heap.size→g≠g0→w'.heap[g]?=w.heap[g]?):Tch T w w':=by
 refine ⟨hs,fun g c t' fr' x y=>?_⟩;by_cases e:g=g0
 ·subst e
  rw [hg] at x;injection x with x;injection x with x1 x2;subst x1 x2;rw [hT,hc] at y;rcases y with y | y <;> cases y
 rw [h g (lt_of_block x) e];exact x
theorem Tch.set {g0:Nat}{cur:Array Value}{t:TypeId}(hg:Blk w g0 t cur) (hT:T t=true) (hc:cur.toList.all noW=true) (i:Nat) (u:Value):Tch T w (w.setCell ⟨g0,i,none⟩ u) :=
 Tch.of_ne (by simp [World.setCell]) hg hT hc fun g _ hne=>Below.heap_setCell w ⟨g0,i,none⟩ u g hne
theorem Tch.grown {J:Value→Bool}{base:Nat}{e:TypeId}{size:Nat}{v:Value}{n:Nat}{xs:List Value}(hJ:∀ u,J u=true→noW u=true) (hT:T e=true) (h:OwJ J w base e size v n xs) (hg:w.grownBy w' v.ownBlock):Tch T w w':=by
 cases hv:v.ownBlock with
 | none=>exact ⟨hg.size,fun g _ _ _ x _=>(hg.block g (lt_of_block x) (by rw [hv];simp)).trans x⟩
 | some g0 =>
  obtain ⟨_,cur,h3,h4⟩:=h.at_ hv;refine Tch.of_ne hg.size h3 hT ?_ fun g hlt hne=>hg.block g hlt (by rw [hv];simpa using hne)
  rw [List.all_eq_true] at h4 ⊢;exact fun u hu=>hJ u (h4 u hu)
theorem Wd.tch {A:Option Addr}{n c:Nat}{l:List Nat}(x:Wd w A n c l) (h:Tch T w w'):Wd w' A n c l:=by
 refine ⟨x.1,x.2.1,x.2.2.1,fun hn=>?_⟩;obtain ⟨g,o,cur,fr,e,⟨t,hr,hb⟩,hc⟩:=x.2.2.2 hn;refine ⟨g,o,cur,fr,e,⟨t,hr,h.2 g cur t fr hb (.inr ?_)⟩,hc⟩;have h0:=hc 0 hn;rw [List.all_eq_false];exact ⟨_,by rw [Array.mem_toList_iff];exact Array.mem_of_getElem? h0,by simp [noW,isU]⟩
theorem QD.tch {b:Bool}{A D:Option Addr}{n c m e k:Nat}{r:RD}(x:QD w b A n c D m e r k) (h:Tch T w w'):QD w' b A n c D m e r k:=⟨x.1,x.2.1.tch h,x.2.2.1.tch h,x.2.2.2⟩
end
def SlT {α:Type}(T0:TypeId) (P:World→Nat→Nat→α→Prop) (s:Nat) (w:World) (A:Option Addr) (n c:Nat) (l:List α):Prop :=
  l.length=n∧n≤c∧(0 < n→∃ g o cur fr,A=some ⟨g,o,none⟩∧w.heap[g]?=some (.cells cur T0 fr)∧∀ i a,l[i]?=some a→P w g (o+i * s) a)
theorem SlT.sl {α:Type}{T0:TypeId}{P P':World→Nat→Nat→α→Prop}{s:Nat}{w:World}{A:Option Addr}{n c:Nat}{l:List α}(h:SlT T0 P s w A n c l) (hP:∀ g o a,P w g o a→P' w g o a):SlS P' s w A n c l:=by
 refine ⟨h.1,h.2.1,fun hn=>?_⟩;obtain ⟨g,o,cur,fr,e,hb,h3⟩:=h.2.2 hn;exact ⟨g,o,e,lt_of_block hb,fun i a ha=>hP _ _ _ (h3 i a ha)⟩
theorem SlT.nil {α:Type}(T0:TypeId) (P:World→Nat→Nat→α→Prop) (s:Nat) (w:World):SlT T0 P s w none 0 0 ([]:List α):=⟨rfl,Qr,fun h=>absurd h (by omega)⟩
section
variable {T:TypeId→Bool}{w w':World}
theorem SlT.tch {α:Type}{T0:TypeId}{P:World→Nat→Nat→α→Prop}{s:Nat}{A:Option Addr}{n c:Nat}{l:List α}(x:SlT T0 P s w A n c l) (h:Tch T w w') (hT:T T0=false) (hP:∀ g o a,w'.heap[g]?=w.heap[g]?→P w g o a→P w' g o a):SlT T0 P s w' A n c l:=by
 refine ⟨x.1,x.2.1,fun hn=>?_⟩;obtain ⟨g,o,cur,fr,e,hb,h3⟩:=x.2.2 hn;have hb':=h.2 g cur T0 fr hb (.inl hT);exact ⟨g,o,cur,fr,e,hb',fun i a ha=>hP _ _ _ (hb'.trans hb.symm) (h3 i a ha)⟩
theorem gK {g o:Nat}(hs:w'.heap[g]?=w.heap[g]?):w'.cell? ⟨g,o,none⟩=w.cell? ⟨g,o,none⟩:=by unfold World.cell?;rw [hs]
theorem cP.tch {g o k:Nat}{r:RD}(hs:w'.heap[g]?=w.heap[g]?) (h:Tch T w w') (x:cP w g o r k):cP w' g o r k:=by
 obtain ⟨b,A,n,c,D,m,e,h1,h2,h3,h4⟩:=x;exact ⟨b,A,n,c,D,m,e,(gK hs).trans h1,(gK hs).trans h2,(gK hs).trans h3,h4.tch h⟩
theorem dz.tch {g o k:Nat}{m:au}(hs:w'.heap[g]?=w.heap[g]?) (h:Tch T w w') (x:dz k w g o m):dz k w' g o m :=
 ⟨(gK hs).trans x.1,x.2.1.tch hs h,x.2.2.1.tch hs h,x.2.2.2⟩
abbrev lA (k:Nat) (w:World) (A:Option Addr) (n c:Nat) (l:List au):Prop:=SlT 56 (dz k) 7 w A n c l
theorem lA.tch {k:Nat}{A:Option Addr}{n c:Nat}{l:List au}(x:lA k w A n c l) (h:Tch T w w') (hT:T 56=false):lA k w' A n c l:=SlT.tch x h hT fun _ _ _ hs p=>p.tch hs h
end
/-! A thing's cells. -/
def MkC (k:Nat) (w:World) (cs:List Value) (m:au):Prop:=∃ b A n c D m1 e b' A' n' c' D' m' e',cs=[ae m.name,.bool b,.slice A n c,.slice D m1 e,.bool b',.slice A' n' c',.slice D' m' e']∧QD w b A n c D m1 e m.x k∧QD w b' A' n' c' D' m' e' m.y k∧NmL m.name
def BdC (k:Nat) (w:World) (cs:List Value) (b:aj):Prop:=∃ A n c,cs=[ae b.name,.slice A n c]∧lA k w A n c b.pts∧NmL b.name
def JtC (_:World) (cs:List Value) (j:aK):Prop:=cs=[ae j.name,.int .i64 j.kind,.int .i64 j.a,.int .i64 j.point,.int .i64 j.b,.int .i64 j.on,.int .i64 j.to_]∧NmL j.name
def DrC (_:World) (cs:List Value) (d:aQ):Prop:=cs=[ae d.name,.int .i64 d.body]∧NmL d.name
section
variable {T:TypeId→Bool}{w w':World}{k:Nat}{cs:List Value}
theorem MkC.tch {m:au}(x:MkC k w cs m) (h:Tch T w w'):MkC k w' cs m:=by
 obtain ⟨b,A,n,c,D,m1,e,b',A',n',c',D',m',e',h0,h1,h2,h3⟩:=x;exact ⟨b,A,n,c,D,m1,e,b',A',n',c',D',m',e',h0,h1.tch h,h2.tch h,h3⟩
theorem BdC.tch {b:aj}(x:BdC k w cs b) (h:Tch T w w') (hT:T 56=false):BdC k w' cs b:=by
 obtain ⟨A,n,c,h0,h1,h2⟩:=x;exact ⟨A,n,c,h0,h1.tch h hT,h2⟩
theorem MkC.at_ {m:au}{g o:Nat}(x:MkC k w cs m) (hc:∀ j u,cs[j]?=some u→w.cell? ⟨g,o+j,none⟩=some u):dz k w g o m:=by
 obtain ⟨b,A,n,c,D,m1,e,b',A',n',c',D',m',e',rfl,h1,h2,h3⟩:=x;exact ⟨hc 0 _ rfl,⟨b,A,n,c,D,m1,e,hc 1 _ rfl,hc 2 _ rfl,hc 3 _ rfl,h1⟩,⟨b',A',n',c',D',m',e',hc 4 _ rfl,hc 5 _ rfl,hc 6 _ rfl,h2⟩,h3⟩
theorem BdC.at_ {b:aj}{g o:Nat}(x:BdC k w cs b) (hc:∀ j u,cs[j]?=some u→w.cell? ⟨g,o+j,none⟩=some u):eM k w g o b:=by
 obtain ⟨A,n,c,rfl,h1,h2⟩:=x;exact ⟨A,n,c,hc 0 _ rfl,hc 1 _ rfl,h1.sl fun _ _ _ p=>p,h2⟩
theorem JtC.at_ {j:aK}{g o:Nat}(x:JtC w cs j) (hc:∀ i u,cs[i]?=some u→w.cell? ⟨g,o+i,none⟩=some u):iZ w g o j:=by
 obtain ⟨rfl,h2⟩:=x;exact ⟨hc 0 _ rfl,hc 1 _ rfl,hc 2 _ rfl,hc 3 _ rfl,hc 4 _ rfl,hc 5 _ rfl,hc 6 _ rfl,h2⟩
theorem DrC.at_ {d:aQ}{g o:Nat}(x:DrC w cs d) (hc:∀ i u,cs[i]?=some u→w.cell? ⟨g,o+i,none⟩=some u):jc w g o d:=by
 obtain ⟨rfl,h2⟩:=x;exact ⟨hc 0 _ rfl,hc 1 _ rfl,h2⟩
end
def cl {α:Type}(Pc:World→List Value→α→Prop) (s:Nat) (w:World) (l:List α) (xs:List Value):Prop :=
  ∃ css:List (List Value),xs=css.flatten∧css.length=l.length∧(∀ cs∈css,cs.length=s)∧∀ (i:Nat) a cs,l[i]?=some a→css[i]?=some cs→Pc w cs a
theorem ki {s:Nat}:∀ {css:List (List Value)}{i:Nat}{cs:List Value},(∀ x∈css,x.length=s)→css[i]?=some cs→∀ j,j < s→css.flatten[i * s+j]?=cs[j]?
 | [],i,cs,_,h,_,_=>by simp at h
 | x :: css,0,cs,hl,h,j,hj=>by
  simp only [List.getElem?_cons_zero,Option.some.injEq] at h;subst h;have:=hl x (by simp);rw [List.flatten_cons,Nat.zero_mul,Nat.zero_add,List.getElem?_append_left (by omega)]
 | x :: css,i+1,cs,hl,h,j,hj=>by
  have hx:=hl x (by simp);rw [List.flatten_cons,List.getElem?_append_right (by rw [hx,Nat.add_mul];omega),hx,show (i+1) * s+j - s=i * s+j by rw [Nat.add_mul];omega];exact ki (fun y hy=>hl y (by simp [hy])) (by simpa using h) j hj
section
variable {α:Type}{Pc:World→List Value→α→Prop}{s:Nat}{w w':World}{l:List α}{xs:List Value}
theorem cl.nil:cl Pc s w ([]:List α) []:=by
 refine ⟨[],rfl,rfl,?_,?_⟩
 ·intro cs h;cases h
 intro i a cs h;simp at h
theorem cl.snoc {a:α}{cs:List Value}(h:cl Pc s w l xs) (ha:Pc w cs a) (hs:cs.length=s):cl Pc s w (l ++ [a]) (xs ++ cs):=by
 obtain ⟨css,e,hl,hall,hp⟩:=h;refine ⟨css ++ [cs],by simp [e],by simp [hl],fun x hx=>?_,fun i b ds hb hd=>?_⟩
 ·rcases List.mem_append.1 hx with hx | hx
  ·exact hall x hx
  simp at hx;subst hx;exact hs
 rcases Nat.lt_or_ge i l.length with hi | hi
 ·rw [List.getElem?_append_left hi] at hb
  rw [List.getElem?_append_left (by omega)] at hd;exact hp i b ds hb hd
 rw [List.getElem?_append_right hi] at hb;rw [List.getElem?_append_right (by omega),hl] at hd;rcases Nat.eq_zero_or_pos (i - l.length) with h0 | h0
 ·rw [h0] at hb hd
  simp at hb hd;subst hb hd;exact ha
 rw [List.getElem?_eq_none (by simp;omega)] at hb;cases hb
theorem cl.map_ {w':World}(h:cl Pc s w l xs) (hP:∀ cs a,Pc w cs a→Pc w' cs a):cl Pc s w' l xs:=by
 obtain ⟨css,e,hl,hall,hp⟩:=h;exact ⟨css,e,hl,hall,fun i a cs h1 h2=>hP _ _ (hp i a cs h1 h2)⟩
end
def ay {α:Type}(T0:TypeId) (Pc:World→List Value→α→Prop) (s:Nat) (w:World) (base:Nat) (v:Value) (n:Nat) (l:List α):Prop:=l.length=n∧∃ xs,OwJ noW w base T0 s v n xs∧cl Pc s w l xs
section
variable {α:Type}{T0:TypeId}{Pc:World→List Value→α→Prop}{s:Nat}{w w':World}{base:Nat}{v:Value}{n:Nat}{l:List α}
theorem ay.nil:ay T0 Pc s w base (.slice none 0 0) 0 ([]:List α):=⟨rfl,[],OwJ.nil _ _ _ _ _,cl.nil⟩
theorem ay.form (h:ay T0 Pc s w base v n l):∃ A c,v=.slice A n c∧n≤c:=by
 obtain ⟨_,xs,h1,_⟩:=h;rcases h1.2 with ⟨rfl,rfl⟩ | ⟨g,cap,cur,rfl,_,_,h4,_⟩
 ·exact ⟨none,0,rfl,Qr⟩
 exact ⟨_,cap,rfl,h4⟩
theorem ay.slT {P:World→Nat→Nat→α→Prop}{A:Option Addr}{c:Nat}(h:ay T0 Pc s w base (.slice A n c) n l) (hP:∀ g o cs a,Pc w cs a→(∀ j u,cs[j]?=some u→w.cell? ⟨g,o+j,none⟩=some u)→P w g o a):SlT T0 P s w A n c l:=by
 obtain ⟨hl,xs,h1,css,e,hcl,hall,hp⟩:=h;rcases h1.2 with ⟨h2,rfl⟩ | ⟨g,cap,cur,h2,_,h3,h4,_,h6,h7,_⟩
 ·injection h2 with a1 _ a3
  subst a1 a3;exact ⟨hl,Qr,fun h=>absurd h (by omega)⟩
 injection h2 with a1 _ a3;subst a1 a3;refine ⟨hl,h4,fun _=>⟨g,0,cur,_,rfl,h3,fun i a ha=>?_⟩⟩;have hi:i < n:=by rw [← hl];exact (List.getElem?_eq_some_iff.1 ha).1
 have hcs:css[i]?=some css[i]:=List.getElem?_eq_getElem (by omega);refine hP _ _ _ _ (hp i a _ ha hcs) fun j u hu=>?_
 have hj:j < s:=by rw [← hall css[i] (List.getElem_mem _)];exact (List.getElem?_eq_some_iff.1 hu).1
 have h9:=ki hall hcs j hj;rw [hu,← e,← h7,List.getElem?_take] at h9;split at h9
 ·unfold World.cell?
  rw [h3];simpa using h9
 cases h9
theorem ay.same (h:ay T0 Pc s w base v n l) (hb:∀ g cur,base≤g→w.heap[g]?=some (.cells cur T0 (0,0))→w'.heap[g]?=some (.cells cur T0 (0,0))) (hP:∀ cs a,Pc w cs a→Pc w' cs a):ay T0 Pc s w' base v n l:=by
 obtain ⟨hl,xs,h1,h2⟩:=h;refine ⟨hl,xs,⟨h1.1,?_⟩,h2.map_ hP⟩;rcases h1.2 with h3 | ⟨g,cap,cur,h3,h4,h5,h6⟩
 ·exact .inl h3
 exact .inr ⟨g,cap,cur,h3,h4,hb g cur h4 h5,h6⟩
theorem ay.tch {T:TypeId→Bool}(h:ay T0 Pc s w base v n l) (ht:Tch T w w') (hT:T T0=false) (hP:∀ cs a,Pc w cs a→Pc w' cs a):ay T0 Pc s w' base v n l:=h.same (fun g cur _ hg=>ht.2 g cur T0 _ hg (.inl hT)) hP
end
def fg (l:List (List UInt8)):List Value:=l.map ae
theorem Ar (l:List UInt8):(⟨l.toArray⟩:ByteArray).data.toList=l:=by simp
theorem oX (w:World) (g cap n:Nat) (L:List (List UInt8)) (hL:L.length=n) (hcells:∀ (j:Nat) x,L[j]?=some x→w.cell? ⟨g,j,none⟩=some (ae x)) (hg:g < w.heap.size) (hN:n≤140737488355328) (hcap:n≤cap) (hlen:(fC L).length≤140737488355328) :
 Calls Tryz.prog 64 #[.slice (some ⟨g,0,none⟩) n cap,.string ⟨#[32]⟩] w (aB w (ae (fC L))):=by
 subst hL
 have e:(L.map fun x=>(⟨x.toArray⟩:ByteArray)).map (·.data.toList)=L:=by
  rw [List.map_map]
  conv=>rhs;rw [← List.map_id L]
  exact List.map_congr_left fun x _=>Ar x
 have h:=Tryz.strings_Join g 0 cap (L.map fun x=>⟨x.toArray⟩) ⟨#[32]⟩ w (fun j x hx=>by
  rw [List.getElem?_map,Option.map_eq_some_iff] at hx;obtain ⟨y,hy,rfl⟩:=hx;rw [Nat.zero_add]
  exact hcells j y hy) hg (by rw [List.length_map];exact hN) (by rw [List.length_map];exact hcap) (by rw [e];show (Lib.join L [32]).length≤_;rw [oL];exact hlen)
 rw [List.length_map,e] at h;refine h.mono fun e' w' ⟨he,hb⟩=>⟨?_,hb⟩
 rw [he];show Ending.returned (.string ⟨(Lib.join L [32]).toArray⟩)=_;rw [oL]
theorem xA (w:World) (s:List UInt8):Calls Tryz.prog 157 #[ae s,.string ⟨#[48]⟩] w (aB w (ae (s.dropWhile (· == 48)))):=by
 refine (Tryz.strings_TrimLeft_one ⟨s.toArray⟩ 48 (by decide) w).mono fun e w' ⟨he,hw⟩=>⟨?_,hw ▸ aa _⟩
 rw [he];congr 2
theorem yX (w:World) (s:List UInt8) (m:Bool) (b:List UInt8) (hm:bX s=m) (hb:bI s=b):Calls Tryz.prog 110 #[ae s,.string ⟨#[45]⟩] w (aB w (.tuple #[ae b,.bool m])):=by
 refine (Tryz.strings_CutPrefix ⟨s.toArray⟩ ⟨#[45]⟩ w).mono fun e w' ⟨he,hw⟩=>⟨?_,hw ▸ aa _⟩
 rw [he];have e1:Lib.hasPrefix s [45]=m:=(fN s).trans hm;have e2:Lib.trimPrefix s [45]=b:=(iO s).trans hb;show Ending.returned (.tuple #[.string ⟨(Lib.trimPrefix s [45]).toArray⟩,.bool (Lib.hasPrefix s [45])])=_;rw [e1,e2]
theorem Au (w:World) (n:Nat) (hn:n≤1000) (Z:List UInt8) (hZ:List.replicate n 48=Z):Calls Tryz.prog 112 #[.string ⟨#[48]⟩,.int .i64 (n:Nat)] w (aB w (ae Z)):=by
 refine (Tryz.strings_Repeat ⟨#[48]⟩ n w (by omega) (by show 1 * n≤_;omega)).mono fun e w' ⟨he,hb⟩=>⟨?_,hb⟩
 subst hZ;rw [he]
 have e9:∀ k,Lib.repeatL [48] k=List.replicate k 48:=fun k=>by
  induction k with
  | zero=>rfl
  | succ k ih=>rw [Lib.repeatL,ih,List.replicate_succ];rfl
 exact congrArg (fun x:List UInt8=>Ending.returned (ae x)) (e9 n)
theorem re (w:World) (T:List UInt8) (z:Int) (ho:okZ T=true) (hz:dT T=z) (hl:T.length≤130):Calls Tryz.prog 113 #[ae T] w (iP w .nilIface z 130):=by
 subst hz;exact (pN w T (by omega) ho).mono fun e w' ⟨b,A,n,c,h1,h2,h3⟩=>⟨b,A,n,c,h1,h2.mono hl,h3⟩
theorem rf (w:World) (s t:List UInt8) (ht:cM s=t):Calls Tryz.prog 114 #[ae s] w (aB w (ae t)):=by
 obtain ⟨u,hu⟩:∃ u,s.dropWhile (· == 48)=u:=⟨_,rfl⟩;unfold cM at ht;rw [hu] at ht;have HT:=xA w s;rw [hu] at HT;have HT:=Qh HT;by_cases h0:u=[]
 ·subst h0
  obtain rfl:[48]=t:=ht;clear hu;go_in;go_wp2_with fail;(with_reducible refine HT.out.mono ?_);rintro e w1 ⟨rfl,hb1⟩;go_wp2;go_ret;exact ⟨rfl,hb1⟩
 obtain rfl:u=t:=by rw [if_neg h0] at ht;exact ht
 obtain ⟨y,ys,hyy⟩:=List.exists_cons_of_ne_nil h0;have hBe:((⟨u.toArray⟩:ByteArray) == ⟨#[]⟩)=false:=by rw [hyy];rfl
 have hBl:(u == [])=false:=by rw [hyy];rfl
 have hBn:(u=[])=False:=eq_false h0;clear hu hyy h0;go_in;go_wp2_with fail;(with_reducible refine HT.out.mono ?_);rintro e w1 ⟨rfl,hb1⟩;go_wp2;go_ret;exact ⟨rfl,hb1⟩
theorem lB (w:World) (s:List UInt8) (h:60 < s.length):Calls Tryz.prog 78 #[ae s] w (iC w (.iface 58 (.int .i64 4)) 0 1):=by
 have hszs:=aE s;have hlen:((60:Int) < (s.length:Int))=True:=eq_true (by omega);go_in;go_wp2_with fail;refine bodyPost_ret (v:=.tuple #[.agg #[.bool false,.slice none 0 0,.slice none 0 0],.iface 58 (.int .i64 4)]) (by simp [results,Tryz.results78,go_sem, *] <;> trivial) rfl ?_;exact ⟨_,_,_,_,_,_,_,rfl,QV.zero _ _,((aa w).alloc (by first | omega | (simp <;> omega)) (.cells #[.bool false,.slice none 0 0,.slice none 0 0] 54))⟩
theorem oY (w:World) (s:List UInt8) (h:s.length≤60) (hb:s.length=0∨bH s≠s.length):Calls Tryz.prog 78 #[ae s] w (iC w (.iface 58 (.int .i64 2)) 0 1):=by
 have hszs:=aE s;have hlen:((60:Int) < (s.length:Int))=False:=eq_false (by omega);obtain ⟨n,hn⟩:∃ n,bH s=n:=⟨_,rfl⟩;have hnl:n≤s.length:=by rw [← hn];exact mK s
 rw [hn] at hb;by_cases h0:n=0
 ·subst h0
  clear hb;go_in;go_wp2_with fail;(with_reducible refine (cA _ (s) (by omega) 0 hn).mono ?_);rintro e w1 ⟨rfl,hb1⟩;have q1:=hb1.q1;have x1a:Blk w1 w.heap.size 54 #[.bool false,.slice none 0 0,.slice none 0 0]:=(ak _ _ _ (by simp)).below hb1 (by simp);have bw1:=(aa w).trans (q1.mono (aa w).size);have lw1:=hb1.l1;clear q1;obtain ⟨cx1aa,cx1ab,cx1ac⟩:=x1a.c3;obtain ⟨fx1aa,fx1ab,fx1ac⟩:=x1a.f3;obtain ⟨lx1aa,lx1ab,lx1ac,lx1ad⟩:=eG x1a.lt;go_wp2_with fail;refine bodyPost_ret (v:=.tuple #[.agg #[.bool false,.slice none 0 0,.slice none 0 0],.iface 58 (.int .i64 2)]) (by simp [results,Tryz.results78,go_sem, *] <;> trivial) rfl ?_;exact ⟨_,_,_,_,_,_,_,rfl,QV.zero _ _,(((bw1.sc w.heap.size 0 (by omega) (.bool false)).sc w.heap.size 1 (by omega) (.slice none 0 0)).sc w.heap.size 2 (by omega) (.slice none 0 0))⟩
 have e0:((n:Int) == 0)=false:=by simp;omega
 have e00:((n:Int)=0)=False:=eq_false (by omega);have e1:((n:Int) == (s.length:Int))=false:=by simp;omega
 clear hb h0;go_in;go_wp2_with fail;(with_reducible refine (cA _ (s) (by omega) n hn).mono ?_);rintro e w1 ⟨rfl,hb1⟩;have q1:=hb1.q1;have x1a:Blk w1 w.heap.size 54 #[.bool false,.slice none 0 0,.slice none 0 0]:=(ak _ _ _ (by simp)).below hb1 (by simp);have bw1:=(aa w).trans (q1.mono (aa w).size);have lw1:=hb1.l1;clear q1;obtain ⟨cx1aa,cx1ab,cx1ac⟩:=x1a.c3;obtain ⟨fx1aa,fx1ab,fx1ac⟩:=x1a.f3;obtain ⟨lx1aa,lx1ab,lx1ac,lx1ad⟩:=eG x1a.lt;go_wp2_with fail;refine bodyPost_ret (v:=.tuple #[.agg #[.bool false,.slice none 0 0,.slice none 0 0],.iface 58 (.int .i64 2)]) (by simp [results,Tryz.results78,go_sem, *] <;> trivial) rfl ?_;exact ⟨_,_,_,_,_,_,_,rfl,QV.zero _ _,(((bw1.sc w.heap.size 0 (by omega) (.bool false)).sc w.heap.size 1 (by omega) (.slice none 0 0)).sc w.heap.size 2 (by omega) (.slice none 0 0))⟩
theorem vj:be 8=.iface 58 (.int .i64 8):=if_neg (by decide)
inductive mi (z d x:Int) (q:Rat):Prop
  | zero (hd:d=0) (hx:x=8) (hq:q=0)
  | ok (hd:d≠0) (hx:x=0) (hq:Rat.divInt z d=q) (hs:Sz q 130)
def kS (T:List UInt8) (z:Int):Prop:=okZ T=true∧dT T=z∧T.length≤130
theorem gL (w:World) (s:List UInt8) (m:Bool) (B NT DT TN TD:List UInt8) (zn zd x:Int) (q:Rat) (hmx:Mx w) (h:s.length≤60) (hp:0 < s.length) (hn:bH s=s.length) (hh:bX s=m∧bI s=B) (hB:B.length≤60) (a1 b1 a2 b2 N1 D1:List UInt8) (f1 f2:Bool) (hc1:Lib.cut B [47]=(a1,b1,f1)) (hc2:Lib.cut B [46]=(a2,b2,f2)) (hl2:a2.length+b2.length≤60) (hs1:(if f1 then (a1,b1) else (B,[49]))=(N1,D1)) (hs2:(if f2 then (a2 ++ b2,49 :: List.replicate b2.length 48) else (N1,D1))=(NT,DT)) (h1:cM NT=TN) (h2:kS TN zn) (h3:cM DT=TD) (h4:kS TD zd) (hq:mi (if m then -zn else zn) zd x q) :
 Calls Tryz.prog 78 #[ae s] w (iC w (be x) q 130):=by
 have hszs:=aE s;have hlen:((60:Int) < (s.length:Int))=False:=eq_false (by omega);have hn0:((s.length:Int) == 0)=false:=beq_eq_false_iff_ne.2 (by omega);have hn00:((s.length:Int)=0)=False:=eq_false (by omega);have hsl:s.length < 4611686018427387904:=by omega
 have HH:=Qh hh;have HC1:=Qh hc1;have HC2:=Qh hc2;have HS1:=Qh hs1;have HS2:=Qh hs2;have H1:=Qh h1;have H2:=Qh h2;have H3:=Qh h3;have H4:=Qh h4;have HQ:=Qh hq;have HM:=Qh hmx;have HN:=Qh hn;clear hh hc1 hc2 hs1 hs2 h1 h2 h3 h4 hq hmx hn;go_in;go_wp2_with fail;(refine (cA _ s hsl s.length HN.out).mono ?_);rintro e w1 ⟨rfl,hb1⟩;have q1:Below w.heap.size w w1:=((aa w).alloc Qr _).trans (hb1.mono (by simp));have x1:Blk w1 w.heap.size 54 #[.bool false,.slice none 0 0,.slice none 0 0]:=(ak _ _ _ (by simp)).below hb1 (by simp);clear hb1;go_wp2_with fail;(refine (yX _ s m B HH.out.1 HH.out.2).mono ?_);rintro e w2 ⟨rfl,hb2⟩;replace x1:=x1.b hb2;replace q1:=q1.trans (hb2.mono q1.size);clear hb2;go_wp2_with fail;(refine (yb _ B 47 a1 b1 f1 (HM.out.belw q1) (by omega) HC1.out).mono ?_);rintro e w3 ⟨rfl,hb3⟩;replace x1:=x1.b hb3;replace q1:=q1.trans (hb3.mono q1.size);clear hb3;go_upto_if 47 with fail;go_cut [7,8] (fun s7 s8 wx=>s7=ae D1∧s8=ae N1∧w3=wx)
 case first =>
  cases f1
  ·have e:=HS1.out
   simp only [Bool.false_eq_true,if_false,Prod.mk.injEq] at e;obtain ⟨rfl,rfl⟩:=e;go_wp2_with fail;go_meet;exact ⟨rfl,rfl,rfl⟩
  have e:=HS1.out;simp only [if_true,Prod.mk.injEq] at e;obtain ⟨rfl,rfl⟩:=e;go_wp2_with fail;go_meet;exact ⟨rfl,rfl,rfl⟩
 case rest =>
  obtain ⟨rfl,rfl,rfl⟩:=hcut;clear HS1 HC1;go_wp2_with fail;(refine (yb _ B 46 a2 b2 f2 (HM.out.belw q1) (by omega) HC2.out).mono ?_);rintro e w4 ⟨rfl,hb4⟩;replace x1:=x1.b hb4;replace q1:=q1.trans (hb4.mono q1.size);clear hb4;go_upto_if 56 with fail;go_cut [7,8] (fun s7 s8 wx=>s7=ae DT∧s8=ae NT∧Blk wx w.heap.size 54 #[.bool false,.slice none 0 0,.slice none 0 0]∧Below w.heap.size w wx)
  case first =>
   cases f2
   ·have e:=HS2.out
    simp only [Bool.false_eq_true,if_false,Prod.mk.injEq] at e;obtain ⟨rfl,rfl⟩:=e;go_wp2_with fail;go_meet;exact ⟨rfl,rfl,x1,q1⟩
   have e:=HS2.out;simp only [if_true,Prod.mk.injEq] at e;obtain ⟨rfl,rfl⟩:=e;obtain ⟨Z,hZ⟩:∃ Z:List UInt8,List.replicate b2.length 48=Z:=⟨_,rfl⟩;have hZl:Z.length=b2.length:=by rw [← hZ];simp
   have HZ:=Qh hZ;have ha1:=cI a2 b2;have ha2:=cI [49] Z;have hk1:(9223372036854775807 < a2.length+b2.length)=False:=eq_false (by omega);have hk2:(9223372036854775807 < 1+Z.length)=False:=eq_false (by omega);clear hZ hZl;go_wp2_with fail;(refine (Au _ b2.length (by omega) Z HZ.out).mono ?_);rintro e w5 ⟨rfl,hb5⟩;go_wp2_with fail;go_meet;exact ⟨by rw [HZ.out],rfl,x1.below hb5 x1.lt,q1.trans (hb5.mono q1.size)⟩
  case rest =>
   clear x1 q1 HS2 HC2;obtain ⟨rfl,rfl,x1,q1⟩:=hcut;rename World=>w6;go_wp2_with fail;(refine (rf _ NT TN H1.out).mono ?_);rintro e w7 ⟨rfl,hb7⟩;replace x1:=x1.b hb7;replace q1:=q1.trans (hb7.mono q1.size);clear hb7;go_wp2_with fail;(refine (re _ TN zn H2.out.1 H2.out.2.1 H2.out.2.2).mono ?_);rintro e w8 ⟨b3,A3,n3,c3,rfl,h3,hb8⟩;replace x1:=x1.b hb8;replace q1:=q1.trans (hb8.mono q1.size);clear hb8;go_upto_region 16 with fail;refine jF ?_;intro w9 hw9;have q9:Below w8.heap.size w8 w9:=by rw [hw9];exact (aa w8).alloc Qr _
   have x9:Blk w9 w8.heap.size 134 #[.bool b3,.slice A3 n3 c3]:=by rw [hw9];exact Blk.new w8 _ _
   have l9:=x1.lt;replace x1:=x1.b q9;replace h3:=h3.belw q9;replace q1:=q1.trans (q9.mono q1.size);obtain ⟨g,hg⟩:∃ g,w8.heap.size=g:=⟨_,rfl⟩;rw [hg] at x9 l9 ⊢;clear hw9 q9 hg;go_wp2_with fail;(refine (rf _ DT TD H3.out).mono ?_);rintro e w10 ⟨rfl,hb10⟩;replace x1:=x1.b hb10;replace x9:=x9.b hb10;replace h3:=h3.belw hb10;replace q1:=q1.trans (hb10.mono q1.size);clear hb10;go_wp2_with fail;(refine (re _ TD zd H4.out.1 H4.out.2.1 H4.out.2.2).mono ?_);rintro e w11 ⟨b4,A4,n4,c4,rfl,h4,hb11⟩;replace x1:=x1.b hb11;replace x9:=x9.b hb11;replace h3:=h3.belw hb11;replace q1:=q1.trans (hb11.mono q1.size);clear hb11;go_upto_region 19 with fail;refine jF ?_;intro w12 hw12;have q12:Below w11.heap.size w11 w12:=by rw [hw12];exact (aa w11).alloc Qr _
   have x12:Blk w12 w11.heap.size 134 #[.bool b4,.slice A4 n4 c4]:=by rw [hw12];exact Blk.new w11 _ _
   have l12:=x9.lt;replace x1:=x1.b q12;replace x9:=x9.b q12;replace h3:=h3.belw q12;replace h4:=h4.belw q12;replace q1:=q1.trans (q12.mono q1.size);obtain ⟨g2,hg2⟩:∃ g,w11.heap.size=g:=⟨_,rfl⟩;rw [hg2] at x12 l12 ⊢;clear hw12 q12 hg2;go_upto_if 84 with fail;obtain ⟨zs,hzs⟩:∃ z,(if m then -zn else zn)=z:=⟨_,rfl⟩;rw [hzs] at HQ;have HZS:=Qh hzs;clear hzs;go_cut [] (fun wx=>∃ b5 A5 n5 c5,Blk wx w.heap.size 54 #[.bool false,.slice none 0 0,.slice none 0 0]∧Blk wx g 134 #[.bool b5,.slice A5 n5 c5]∧Blk wx g2 134 #[.bool b4,.slice A4 n4 c4]∧IZ wx b5 A5 n5 c5 zs 130∧IZ wx b4 A4 n4 c4 zd 130∧Below w.heap.size w wx)
   case first =>
    cases m
    ·obtain rfl:zn=zs:=HZS.out
     go_wp2_with fail;go_meet;exact ⟨_,_,_,_,x1,x9,x12,h3.iz,h4.iz,q1⟩
    obtain rfl:-zn=zs:=HZS.out;have y:=x9.v2;go_wp2_with fail;(refine (qM _ b3 A3 n3 c3 zn 130 h3.iz (by decide)).mono ?_);rintro e w13 ⟨b5,A5,n5,c5,rfl,h5,hb13⟩;replace x1:=x1.b hb13;replace x9:=x9.b hb13;replace x12:=x12.b hb13;replace h4:=h4.belw hb13;replace q1:=q1.trans (hb13.mono q1.size);clear hb13 y;have y:=x9.v2;go_wp2_with fail;go_meet;have kp:=x9.k2 (by decide) (.bool b5) (.slice A5 n5 c5);exact ⟨_,_,_,_,(x1.far (p:=⟨g,0,none⟩) (by show w.heap.size≠g;omega) _).far (p:=⟨g,1,none⟩) (by show w.heap.size≠g;omega) _,(x9.set_ 0 _).set_ 1 _,(x12.far (p:=⟨g,0,none⟩) (by show g2≠g;omega) _).far (p:=⟨g,1,none⟩) (by show g2≠g;omega) _,h5.iz.keep kp,h4.iz.keep kp,(q1.setCell (p:=⟨g,0,none⟩) (by show w.heap.size≤g;omega) _).setCell (p:=⟨g,1,none⟩) (by show w.heap.size≤g;omega) _⟩
   case rest =>
    clear x1 x9 x12 h3 h4 q1;obtain ⟨b5,A5,n5,c5,x1,x9,x12,h5,h4,q1⟩:=hcut;rename World=>w14;have y:=And.intro x9.v2 x12.v2;go_wp2_with fail;rcases HQ.out with ⟨hd,rfl,rfl⟩ | ⟨hd,rfl,hq,hs⟩
    ·(refine (uN _ b5 A5 n5 c5 zs 130 h5 b4 A4 n4 c4 zd 130 h4 hd (by decide)).mono ?_);rintro e w15 ⟨b6,A6,n6,c6,D6,m6,e6,rfl,h6,hb15⟩
     replace x1:=x1.b hb15;replace q1:=q1.trans (hb15.mono q1.size);clear hb15 y;have y:=x1.v3;go_wp2_with fail;refine bodyPost_ret (v:=.tuple #[.agg #[.bool b6,.slice A6 n6 c6,.slice D6 m6 e6],be 8]) (by simp [results,Tryz.results78,go_sem,vj, *] <;> trivial) rfl ?_;exact ⟨_,_,_,_,_,_,_,rfl,(h6.keep (x1.k3 (by decide) _ _ _)).mono (by decide),((q1.setCell (p:=⟨w.heap.size,0,none⟩) Qr _).setCell (p:=⟨w.heap.size,1,none⟩) Qr _).setCell (p:=⟨w.heap.size,2,none⟩) Qr _⟩
    (refine (yG _ b5 A5 n5 c5 zs 130 h5 b4 A4 n4 c4 zd 130 h4 q 130 hd hq hs (by decide)).mono ?_);rintro e w15 ⟨b6,A6,n6,c6,D6,m6,e6,rfl,h6,hb15⟩;replace x1:=x1.b hb15;replace q1:=q1.trans (hb15.mono q1.size);clear hb15 y;have y:=x1.v3;go_wp2_with fail;refine bodyPost_ret (v:=.tuple #[.agg #[.bool b6,.slice A6 n6 c6,.slice D6 m6 e6],be 0]) (by simp [results,Tryz.results78,go_sem,bo, *] <;> trivial) rfl ?_;exact ⟨_,_,_,_,_,_,_,rfl,h6.keep (x1.k3 (by decide) _ _ _),((q1.setCell (p:=⟨w.heap.size,0,none⟩) Qr _).setCell (p:=⟨w.heap.size,1,none⟩) Qr _).setCell (p:=⟨w.heap.size,2,none⟩) Qr _⟩
theorem kS.dg {D:List UInt8}(h:D.all aM=true) (hl:D.length≤120):kS (cM D) ((ap D:Nat):Int):=by
 obtain ⟨h1,h2,h3⟩:=ve h;exact ⟨h1,h2,by omega⟩
theorem mi.val {m:Bool}{zn zd:Nat}(hn:zn < 4294967296 ^ 60) (hd:zd < 4294967296 ^ 60) (h0:zd≠0):mi (if m then -(zn:Int) else zn) zd 0 (Rat.divInt (sgI m zn) zd):=by
 have e:(if m then -(zn:Int) else (zn:Int))=sgI m zn:=by cases m <;> rfl
 rw [e];exact .ok (by omega) rfl rfl (lK (by rw [xy];exact Nat.lt_trans hn (Nat.pow_lt_pow_right (by decide) (by decide))) (by rw [Int.natAbs_natCast];exact Nat.lt_trans hd (Nat.pow_lt_pow_right (by decide) (by decide))) (by decide))
theorem qn {D E:List UInt8}(hD:isD D) (hE:isD E) {c d:UInt8}(hc:aM c=false) (hd:c≠d):c ∉ D ++ d :: E:=by
 intro hm;rcases List.mem_append.1 hm with e | e
 ·exact fz hD hc e
 rcases List.mem_cons.1 e with e | e
 ·exact absurd e hd
 exact fz hE hc e
theorem sO (w:World) (s:List UInt8) (x:Int) (q:Rat) (hmx:Mx w) (h:mW s x q) (hx:¬ 60 < s.length) (hb:¬ (s.length=0∨bH s≠s.length)):Calls Tryz.prog 78 #[ae s] w (iC w (be x) q 130):=by
 have d1:(10:Nat) ^ 60 < 4294967296 ^ 60:=by decide
 rcases h with ⟨h,_,_⟩ | ⟨_,h,_,_⟩ | ⟨m,D,h,hn,hD,hs,rfl,rfl⟩ | ⟨m,D,E,h,hn,hD,hE,hs,h0,rfl,rfl⟩ | ⟨m,D,E,h,hn,hD,hE,hs,h0,rfl,rfl⟩ | ⟨m,D,E,h,hn,hD,hE,hs,rfl,rfl⟩
 ·exact absurd h hx
 ·exact absurd h hb
 ·have hh:=ff (m:=m) (r:=[]) hD
  rw [List.append_nil,← hs] at hh;have hl:D.length≤s.length:=by rw [hs];cases m <;> simp [sg]
  have hv:=mi.val (m:=m) (jf hD.2 (by omega)) (show 1 < 4294967296 ^ 60 by decide) (by decide);rw [show ((1:Nat):Int)=1 from rfl,xX] at hv;exact gL w s m D D [49] _ _ _ 1 0 _ hmx h (by omega) hn hh (by omega) D [] D [] D [49] false false (kI (fz hD (by decide))) (kI (fz hD (by decide))) (by simp;omega) rfl rfl rfl (kS.dg hD.2 (by omega)) rfl ⟨by decide,by decide,by decide⟩ hv
 ·have hh:=ff (m:=m) (r:=47 :: E) hD
  rw [← hs] at hh;have hl:(D ++ 47 :: E).length≤s.length:=by rw [hs];cases m <;> simp [sg]
  have hl2:(D ++ 47 :: E).length=D.length+(E.length+1):=by simp
  exact gL w s m (D ++ 47 :: E) D E _ _ _ _ 8 0 hmx h (by omega) hn hh (by omega) D E (D ++ 47 :: E) [] D E true false (pV (fz hD (by decide))) (kI (qn hD hE (by decide) (by decide))) (by show (D ++ 47 :: E).length+0≤60;omega) rfl rfl rfl (kS.dg hD.2 (by omega)) rfl (kS.dg hE.2 (by omega)) (.zero (by rw [h0];rfl) rfl rfl)
 ·have hh:=ff (m:=m) (r:=47 :: E) hD
  rw [← hs] at hh;have hl:(D ++ 47 :: E).length≤s.length:=by rw [hs];cases m <;> simp [sg]
  have hl2:(D ++ 47 :: E).length=D.length+(E.length+1):=by simp
  exact gL w s m (D ++ 47 :: E) D E _ _ _ _ 0 _ hmx h (by omega) hn hh (by omega) D E (D ++ 47 :: E) [] D E true false (pV (fz hD (by decide))) (kI (qn hD hE (by decide) (by decide))) (by show (D ++ 47 :: E).length+0≤60;omega) rfl rfl rfl (kS.dg hD.2 (by omega)) rfl (kS.dg hE.2 (by omega)) (mi.val (jf hD.2 (by omega)) (jf hE.2 (by omega)) h0)
 have hh:=ff (m:=m) (r:=46 :: E) hD;rw [← hs] at hh;have hl:(D ++ 46 :: E).length≤s.length:=by rw [hs];cases m <;> simp [sg]
 have hl2:(D ++ 46 :: E).length=D.length+(E.length+1):=by simp
 have hN:(D ++ E).all aM=true:=by rw [List.all_append,hD.2,hE.2];rfl
 have hNl:(D ++ E).length=D.length+E.length:=List.length_append;obtain ⟨t1,t2,t3⟩:=oU E.length;have hT:=kS.dg t3 (by simp;omega);rw [t2] at hT;have hz:(10:Nat) ^ E.length < 4294967296 ^ 60:=Nat.lt_of_le_of_lt (Nat.pow_le_pow_right (by decide) (by omega)) d1;exact gL w s m (D ++ 46 :: E) (D ++ E) (49 :: List.replicate E.length 48) _ _ _ _ 0 _ hmx h (by omega) hn hh (by omega) (D ++ 46 :: E) [] D E (D ++ 46 :: E) [49] false true (kI (qn hD hE (by decide) (by decide))) (pV (fz hD (by decide))) (by omega) rfl rfl rfl (kS.dg hN (by omega)) rfl hT (mi.val (jf hN (by omega)) hz (by have:=Nat.pow_pos (n:=E.length) (show 0 < 10 by decide);omega))
theorem yY {m:Bool}{B:List UInt8}(h:B≠[]):(sg m B).length≠0:=by
 have:=List.length_pos_iff.2 h;cases m <;> simp [sg];exact h
theorem sQ (w:World) (s:List UInt8) (x:Int) (q:Rat) (hmx:Mx w) (h:mW s x q):Calls Tryz.prog 78 #[ae s] w (iC w (be x) q 130):=by
 have hm:∀ {v:Value}{e:Ending}{w':World},iC w v q 1 e w'→iC w v q 130 e w':=fun h=>by
  obtain ⟨b,A,n,c,A',n',c',h1,h2,h3⟩:=h;exact ⟨b,A,n,c,A',n',c',h1,h2.mono (by decide),h3⟩
 by_cases h1:60 < s.length
 ·rcases h with ⟨_,rfl,rfl⟩ | ⟨h,_⟩ | ⟨_,_,h,_⟩ | ⟨_,_,_,h,_⟩ | ⟨_,_,_,h,_⟩ | ⟨_,_,_,h,_⟩ <;> first | (rw [yW];exact (lB w s h1).mono fun _ _ r=>hm r) | omega
 by_cases h2:s.length=0∨bH s≠s.length
 ·rcases h with ⟨h,_⟩ | ⟨_,_,rfl,rfl⟩ | ⟨_,D,_,hn,hD,hs,_⟩ | ⟨_,D,_,_,hn,hD,_,hs,_⟩ | ⟨_,D,_,_,hn,hD,_,hs,_⟩ | ⟨_,D,_,_,hn,hD,_,hs,_⟩
  ·exact absurd h h1
  ·rw [yV];exact (oY w s (by omega) h2).mono fun _ _ r=>hm r
  all_goals
   exfalso;rcases h2 with h2 | h2
   ·rw [hs] at h2
    exact yY (by first | exact hD.1 | simp) h2
   exact h2 hn
 exact sO w s x q hmx h h1 h2
theorem mj (w:World) (s:List UInt8) (x:Int) (l:List Tkn) (h:bh s x l):Calls Tryz.prog 68 #[ae s] w (uQ w (be x) l) :=
 (xq w s).mono fun _ _ ⟨x',l',h',r⟩=>by
  obtain ⟨rfl,rfl⟩:=h.uniq h';exact r
theorem xB (w:World) (A:Option Addr) (n c:Nat) (B:Option Addr) (p d:Nat) (C:Option Addr) (q e:Nat) (nm:List UInt8) (j:aK) (L:ai) (k:Nat) (h:SlS (eM k) 2 w A n c L.bodies) (hk:k≤10000000) (hk1:0 < k) (hn:n≤1000) (x:Int) (hx:cf L j=x) :
 Calls Tryz.prog 96 #[.agg #[ae nm,.slice A n c,.slice B p d,.slice C q e],.agg #[ae j.name,.int .i64 j.kind,.int .i64 j.a,.int .i64 j.point,.int .i64 j.b,.int .i64 j.on,.int .i64 j.to_]] w (aB w (be x)):=by
 by_cases h0:j.kind=0
 ·exact sK w A n c B p d C q e nm j L k h hk hk1 hn h0 x hx
 by_cases h1:j.kind=1
 ·exact sL w A n c B p d C q e nm j L k h hk hk1 hn h1 x hx
 subst hx;rw [show cf L j=7 from if_pos ⟨h0,h1⟩];exact sJ w A n c B p d C q e nm j ⟨h0,h1⟩
theorem vk (w:World) (A:Option Addr) (n c:Nat) (B:Option Addr) (p d:Nat) (C:Option Addr) (q e:Nat) (L:ai) (k:Nat) (h:LkS k w A n c B p d C q e L) (hk:k≤10000000) (hk1:0 < k) (hn:n≤1000) (x:Int) (hx:(if 16 < L.joints.length then 4 else co (bB L) [] L.joints)=x):Calls Tryz.prog 56 #[.agg #[ae L.name,.slice A n c,.slice B p d,.slice C q e]] w (aB w (be x)):=by
 have hln:=h.joints.1;have hlb:=h.bodies.1;by_cases h8:16 < p
 ·have f8:((16:Int) < (p:Int))=True:=eq_true (by omega)
  have h4:x=4:=by rw [← hx,if_pos (by rw [hln];exact h8)]
  clear hln hlb;go_in;go_wp2;go_ret;exact ⟨by rw [h4];rfl,(aa w).alloc Qr _⟩
 have f8:((16:Int) < (p:Int))=False:=eq_false (by omega);have hbd:p≤16:=by omega
 rw [if_neg (by rw [hln];exact h8)] at hx;have hnc:=h.joints.2.1;have HX:=Qh (fu hx);have HLN:=Qh hln;have HLB:=Qh hlb;clear hx hln hlb h8;go_in;go_wp2_with fail;go_loopw [16] (fun iv wr=>∃ i:Nat,iv=.int .i64 (i:Nat)∧i≤p∧Hid (co (bB L) (L.joints.take i) (L.joints.drop i)=x)∧Blk wr w.heap.size 26 #[ae L.name,.slice A n c,.slice B p d,.slice C q e]∧Below w.heap.size w wr) (fun iv _=>p - (intOf iv).toNat)
 case atStart=>exact ⟨0,rfl,Nat.zero_le _,HX,ak _ _ _ (by simp),(aa w).alloc Qr _⟩
 case round =>
  clear HX;obtain ⟨i,rfl,hi,HX,xL,hb⟩:=hrel;rename World=>wa;rcases Nat.lt_or_ge i p with hlt | hge
  ·have hi1:((i:Int) < (p:Int))=True:=by simp;omega
   have hL:=h.belw hb;obtain ⟨g,o,b,e1,hg,_,hbi,hB⟩:=hL.joints.at_ hlt;subst e1;have hstep:=gy HX.out hbi;obtain ⟨c0,c1,c2,c3,c4,c5,c6,hnm⟩:=hB;have HL:=Qh hL;have HS:=Qh hstep;have HN:=Qh hnm;obtain ⟨v,hv⟩:∃ v,aZ b.name=v:=⟨_,rfl⟩;have HV:=Qh hv;have hlL:w.heap.size < wa.heap.size:=xL.lt;clear h hL hstep hnm hbi hv HX;go_wp2_with fail;(with_reducible refine (kK _ b.name HN.out v HV.out).mono ?_);rintro e' w1 ⟨rfl,hb1⟩;have q1:=hb1.q1;have x1:Blk w1 wa.heap.size 81 #[ae b.name,.int .i64 b.kind,.int .i64 b.a,.int .i64 b.point,.int .i64 b.b,.int .i64 b.on,.int .i64 b.to_]:=(ak _ _ _ (by simp)).below hb1 (by simp);have xL1:=xL.below q1 xL.lt;have bw1:=hb.trans (q1.mono hb.size);clear hb1 c0 c1 c2 c3 c4 c5 c6
   have hxz:∀ z:Int,z≠0→(bB L) (L.joints.take i) b=z→x=z:=fun z hz hm=>by
    rcases HS.out with ⟨u,_⟩ | ⟨_,u⟩
    ·exact absurd (hm.symm.trans u) hz
    exact u.symm.trans hm
   cases v
   ·have h5:x=5:=hxz 5 (by decide) (if_pos HV.out)
    clear hxz;go_wp2;go_ret;exact ⟨by rw [h5];rfl,bw1⟩
   have HXZ:=Qh hxz;clear hxz;have cL:=xL1.cell 2;go_wp2_with fail;clear cL;go_loopw [31] (fun jv wr=>∃ j:Nat,jv=.int .i64 (j:Nat)∧j≤i∧Hid (twN ((L.joints.take j).map aK.name) b.name=false)∧Below w1.heap.size w1 wr) (fun jv _=>i - (intOf jv).toNat)
   case atStart=>exact ⟨0,rfl,Nat.zero_le _,Qh rfl,aa w1⟩
   case round =>
    obtain ⟨j,rfl,hj,HT,hb2⟩:=hrel;rename World=>w2;have x2:=x1.below hb2 x1.lt;have xL2:=xL1.below hb2 xL1.lt;have bw2:=bw1.trans (hb2.mono bw1.size);have cB0:=x2.cell 0;have hlw:wa.heap.size < w2.heap.size:=x2.lt;have hlL2:w.heap.size < w2.heap.size:=xL2.lt;rcases Nat.lt_or_ge j i with hjl | hjg
    ·have hj1:((j:Int) < (i:Int))=True:=by simp;omega
     have hjn:j < p:=by omega
     obtain ⟨a,ha,hA⟩:=((HL.out.joints.jt q1).jt hb2).rowAt hjn;obtain ⟨d0,d1,d2,d3,d4,d5,d6,hn2⟩:=hA;have hgw:g < w2.heap.size:=by have:=hb2.size;have:=q1.size;omega
     clear hn2;have hne1:¬ wa.heap.size=w2.heap.size:=by omega
     have hne2:¬ g=w2.heap.size:=by omega
     have htl:=aV b.name;by_cases heq:a.name=b.name
     ·have h6:x=6:=HXZ.out 6 (by decide) (by
       show bB L (L.joints.take i) b=6;unfold bB
       rw [HV.out,if_neg (by decide),if_pos (gB ha hjl heq)])
      rw [heq] at d0;have hee:(b.name == b.name)=true:=by simp
      clear heq ha;go_wp2;go_ret;exact ⟨by rw [h6];rfl,bw2.alloc bw2.size _⟩
     have hta:=aV a.name;have HT2:=Qh (iX ha HT.out heq);have hee:(a.name == b.name)=false:=beq_eq_false_iff_ne.2 heq;clear heq ha HT;go_wp2_with fail;go_roundw
     case rel=>exact ⟨j+1,by go_num,by omega,HT2,hb2.alloc hb2.size _⟩
     case measure=>simp [intOf];omega
    have hj1:((j:Int) < (i:Int))=False:=by simp;omega
    obtain rfl:j=i:=by omega
    clear cB0;have cL0:=xL2.cell 0;have cL1:=xL2.cell 1;have cL2:=xL2.cell 2;have cL3:=xL2.cell 3;have z0:=x2.cell 0;have z1:=x2.cell 1;have z2:=x2.cell 2;have z3:=x2.cell 3;have z4:=x2.cell 4;have z5:=x2.cell 5;have z6:=x2.cell 6;obtain ⟨y,hy⟩:∃ y,cf L b=y:=⟨_,rfl⟩
    have HE:Hid (bB L (L.joints.take j) b=y):=Qh (by
     unfold bB
     rw [HV.out,if_neg (by decide),HT.out,if_neg (by decide)];exact hy)
    have HY:=Qh hy;clear hy;go_wp2_with fail;(with_reducible refine (xB _ A n c _ p d C q e L.name b L k ((HL.out.bodies.bd q1).bd hb2) hk hk1 hn y HY.out).mono ?_);rintro e' w3 ⟨rfl,hb3⟩;have bw3:=bw2.trans (hb3.mono bw2.size);have xL3:=xL2.below hb3 xL2.lt;clear cL0 cL1 cL2 cL3 z0 z1 z2 z3 z4 z5 z6;by_cases hy0:y=0
    ·have HX2:Hid (co (bB L) (L.joints.take (j+1)) (L.joints.drop (j+1))=x):=Qh (by
      rcases HS.out with ⟨_,u⟩ | ⟨u,_⟩
      ·exact u
      exact absurd (HE.out.trans hy0) u)
     subst hy0;rw [show be 0=.nilIface from if_pos rfl];go_wp2_with fail;go_roundw
     case rel=>exact ⟨j+1,by go_num,by omega,HX2,xL3,bw3⟩
     case measure=>simp [intOf];omega
    have hxy:x=y:=HXZ.out y hy0 HE.out;rw [show be y=.iface 58 (.int .i64 y) from if_neg hy0];go_wp2;go_ret;exact ⟨by rw [hxy,show be y=.iface 58 (.int .i64 y) from if_neg hy0];rfl,bw3⟩
  have hi1:((i:Int) < (p:Int))=False:=by simp;omega
  have hx0:x=0:=iW HX.out (by rw [HLN.out];exact hge);go_wp2;go_ret;exact ⟨by rw [hx0];rfl,hb⟩
theorem sR (w:World) (A:Option Addr) (n c:Nat) (B:Option Addr) (p d:Nat) (C:Option Addr) (q e:Nat) (L:ai) (k:Nat) (h:LkS k w A n c B p d C q e L) (hk:k≤10000000) (hk1:0 < k) (hn:n≤1000) (x:Int) (hx:(if 2 < L.drivers.length then 4 else co (aN n) [] L.drivers)=x):Calls Tryz.prog 57 #[.agg #[ae L.name,.slice A n c,.slice B p d,.slice C q e]] w (aB w (be x)):=by
 have hln:=h.drivers.1;have hlb:=h.bodies.1;by_cases h8:2 < q
 ·have f8:((2:Int) < (q:Int))=True:=eq_true (by omega)
  have h4:x=4:=by rw [← hx,if_pos (by rw [hln];exact h8)]
  clear hln hlb;go_in;go_wp2;go_ret;exact ⟨by rw [h4];rfl,(aa w).alloc Qr _⟩
 have f8:((2:Int) < (q:Int))=False:=eq_false (by omega);have hbd:q≤2:=by omega
 rw [if_neg (by rw [hln];exact h8)] at hx;have hnc:=h.drivers.2.1;have HX:=Qh (fu hx);have HLN:=Qh hln;have HLB:=Qh hlb;clear hx hln hlb h8;go_in;go_wp2_with fail;go_loopw [17] (fun iv wr=>∃ i:Nat,iv=.int .i64 (i:Nat)∧i≤q∧Hid (co (aN n) (L.drivers.take i) (L.drivers.drop i)=x)∧Blk wr w.heap.size 26 #[ae L.name,.slice A n c,.slice B p d,.slice C q e]∧Below w.heap.size w wr) (fun iv _=>q - (intOf iv).toNat)
 case atStart=>exact ⟨0,rfl,Nat.zero_le _,HX,ak _ _ _ (by simp),(aa w).alloc Qr _⟩
 case round =>
  clear HX;obtain ⟨i,rfl,hi,HX,xL,hb⟩:=hrel;rename World=>wa;rcases Nat.lt_or_ge i q with hlt | hge
  ·have hi1:((i:Int) < (q:Int))=True:=by simp;omega
   have hL:=h.belw hb;obtain ⟨g,o,b,e1,hg,_,hbi,hB⟩:=hL.drivers.at_ hlt;subst e1;have hstep:=gy HX.out hbi;obtain ⟨c0,c1,hnm⟩:=hB;have HL:=Qh hL;have HS:=Qh hstep;have HN:=Qh hnm;obtain ⟨v,hv⟩:∃ v,aZ b.name=v:=⟨_,rfl⟩;have HV:=Qh hv;have hlL:w.heap.size < wa.heap.size:=xL.lt;clear h hL hstep hnm hbi hv HX;go_wp2_with fail;(with_reducible refine (kK _ b.name HN.out v HV.out).mono ?_);rintro e' w1 ⟨rfl,hb1⟩;have q1:=hb1.q1;have x1:Blk w1 wa.heap.size 86 #[ae b.name,.int .i64 b.body]:=(ak _ _ _ (by simp)).below hb1 (by simp);have xL1:=xL.below q1 xL.lt;have bw1:=hb.trans (q1.mono hb.size);clear hb1 c0 c1
   have hxz:∀ z:Int,z≠0→(aN n) (L.drivers.take i) b=z→x=z:=fun z hz hm=>by
    rcases HS.out with ⟨u,_⟩ | ⟨_,u⟩
    ·exact absurd (hm.symm.trans u) hz
    exact u.symm.trans hm
   cases v
   ·have h5:x=5:=hxz 5 (by decide) (if_pos HV.out)
    clear hxz;go_wp2;go_ret;exact ⟨by rw [h5];rfl,bw1⟩
   have HXZ:=Qh hxz;clear hxz;have cL:=xL1.cell 3;go_wp2_with fail;clear cL;go_loopw [32] (fun jv wr=>∃ j:Nat,jv=.int .i64 (j:Nat)∧j≤i∧Hid (twN ((L.drivers.take j).map aQ.name) b.name=false)∧Below w1.heap.size w1 wr) (fun jv _=>i - (intOf jv).toNat)
   case atStart=>exact ⟨0,rfl,Nat.zero_le _,Qh rfl,aa w1⟩
   case round =>
    obtain ⟨j,rfl,hj,HT,hb2⟩:=hrel;rename World=>w2;have x2:=x1.below hb2 x1.lt;have xL2:=xL1.below hb2 xL1.lt;have bw2:=bw1.trans (hb2.mono bw1.size);have cB0:=x2.cell 0;have hlw:wa.heap.size < w2.heap.size:=x2.lt;have hlL2:w.heap.size < w2.heap.size:=xL2.lt;rcases Nat.lt_or_ge j i with hjl | hjg
    ·have hj1:((j:Int) < (i:Int))=True:=by simp;omega
     have hjn:j < q:=by omega
     obtain ⟨a,ha,hA⟩:=((HL.out.drivers.dr q1).dr hb2).rowAt hjn;obtain ⟨d0,d1,hn2⟩:=hA;have hgw:g < w2.heap.size:=by have:=hb2.size;have:=q1.size;omega
     clear hn2;have hne1:¬ wa.heap.size=w2.heap.size:=by omega
     have hne2:¬ g=w2.heap.size:=by omega
     have htl:=aV b.name;by_cases heq:a.name=b.name
     ·have h6:x=6:=HXZ.out 6 (by decide) (by
       show aN n (L.drivers.take i) b=6;unfold aN
       rw [HV.out,if_neg (by decide),if_pos (gB ha hjl heq)])
      rw [heq] at d0;have hee:(b.name == b.name)=true:=by simp
      clear heq ha;go_wp2;go_ret;exact ⟨by rw [h6];rfl,bw2.alloc bw2.size _⟩
     have hta:=aV a.name;have HT2:=Qh (iX ha HT.out heq);have hee:(a.name == b.name)=false:=beq_eq_false_iff_ne.2 heq;clear heq ha HT;go_wp2_with fail;go_roundw
     case rel=>exact ⟨j+1,by go_num,by omega,HT2,hb2.alloc hb2.size _⟩
     case measure=>simp [intOf];omega
    have hj1:((j:Int) < (i:Int))=False:=by simp;omega
    obtain rfl:j=i:=by omega
    clear cB0;have cL1:=xL2.cell 1;have z1:=x2.cell 1;obtain ⟨v1,hv1⟩:∃ v,inI b.body n=v:=⟨_,rfl⟩;have HV1:=Qh hv1;have HT9:=HT;clear hv1;go_wp2_with fail;(with_reducible refine (sI _ b.body n v1 HV1.out).mono ?_);rintro e' w3 ⟨rfl,hb3⟩;have bw3:=bw2.trans (hb3.mono bw2.size);have xL3:=xL2.below hb3 xL2.lt;have x3:=x2.below hb3 x2.lt;clear cL1 z1;cases v1
    ·have h9:x=9:=HXZ.out 9 (by decide) (by
      show aN n (L.drivers.take j) b=9;unfold aN
      rw [HV.out,if_neg (by decide),HT9.out,if_neg (by decide),if_pos HV1.out])
     go_wp2;go_ret;exact ⟨by rw [h9];rfl,bw3⟩
    have z1:=x3.cell 1;have cL3:=xL3.cell 3;have hl3:wa.heap.size < w3.heap.size:=x3.lt;by_cases hb0:b.body=0
    ·have e0:(b.body == 0)=true:=beq_iff_eq.2 hb0
     have h7:x=7:=HXZ.out 7 (by decide) (by
      show aN n (L.drivers.take j) b=7;unfold aN
      rw [HV.out,if_neg (by decide),HT9.out,if_neg (by decide),HV1.out,if_neg (by decide),if_pos hb0])
     clear hb0;go_wp2;go_ret;exact ⟨by rw [h7];rfl,bw3⟩
    have e0:(b.body == 0)=false:=beq_eq_false_iff_ne.2 hb0;have HB0:=Qh hb0;clear hb0;go_wp2_with fail;clear z1 cL3;go_loopw [60] (fun jv wr=>∃ r:Nat,jv=.int .i64 (r:Nat)∧r≤j∧Hid (((L.drivers.take r).any fun p=>p.body == b.body)=false)∧Below w3.heap.size w3 wr) (fun jv _=>j - (intOf jv).toNat)
    case atStart=>exact ⟨0,rfl,Nat.zero_le _,Qh rfl,aa w3⟩
    case round =>
     obtain ⟨r,rfl,hr,HR,hb4⟩:=hrel;rename World=>w4;have x4:=x3.below hb4 x3.lt;have xL4:=xL3.below hb4 xL3.lt;have bw4:=bw3.trans (hb4.mono bw3.size);have z1:=x4.cell 1;have hl4:wa.heap.size < w4.heap.size:=x4.lt;rcases Nat.lt_or_ge r j with hrl | hrg
     ·have hr1:((r:Int) < (j:Int))=True:=by simp;omega
      have hrn:r < q:=by omega
      obtain ⟨a,ha,hA⟩:=((((HL.out.drivers.dr q1).dr hb2).dr hb3).dr hb4).rowAt hrn;obtain ⟨d0,d1,hn2⟩:=hA;have hgw:g < w4.heap.size:=by have:=hb4.size;have:=hb3.size;have:=hb2.size;have:=q1.size;omega
      clear hn2;have hne1:¬ wa.heap.size=w4.heap.size:=by omega
      have hne2:¬ g=w4.heap.size:=by omega
      have ht4:L.drivers.take (r+1)=L.drivers.take r ++ [a]:=by rw [List.take_add_one,ha];rfl
      by_cases heq:a.body=b.body
      ·have h6:x=6:=HXZ.out 6 (by decide) (by
        show aN n (L.drivers.take j) b=6;unfold aN;rw [HV.out,if_neg (by decide),HT9.out,if_neg (by decide),HV1.out,if_neg (by decide),if_neg HB0.out,if_pos];rw [List.any_eq_true]
        exact ⟨a,List.mem_of_getElem? (i:=r) (by rw [List.getElem?_take,if_pos hrl];exact ha),by simpa using heq⟩)
       have hee:(a.body == b.body)=true:=beq_iff_eq.2 heq;clear heq ha ht4;go_wp2;go_ret;exact ⟨by rw [h6];rfl,bw4.alloc bw4.size _⟩
      ·have HR2:Hid (((L.drivers.take (r+1)).any fun p=>p.body == b.body)=false):=Qh (by
        rw [ht4,List.any_append,HR.out]
        simpa using heq)
       have hee:(a.body == b.body)=false:=beq_eq_false_iff_ne.2 heq;clear heq ha ht4 HR;go_wp2_with fail;go_roundw
       case rel=>exact ⟨r+1,by go_num,by omega,HR2,hb4.alloc hb4.size _⟩
       case measure=>simp [intOf];omega
     have hr1:((r:Int) < (j:Int))=False:=by simp;omega
     obtain rfl:r=j:=by omega
     have h0:aN n (L.drivers.take r) b=0:=by
      unfold aN;rw [HV.out,if_neg (by decide),HT9.out,if_neg (by decide),HV1.out,if_neg (by decide),if_neg HB0.out,HR.out];rfl
     have HX2:Hid (co (aN n) (L.drivers.take (r+1)) (L.drivers.drop (r+1))=x):=Qh (by
      rcases HS.out with ⟨_,u⟩ | ⟨u,_⟩
      ·exact u
      exact absurd h0 u)
     clear h0 z1;go_wp2_with fail;go_roundw
     case rel=>exact ⟨r+1,by go_num,by omega,HX2,xL4,bw4⟩
     case measure=>simp [intOf];omega
  have hi1:((i:Int) < (q:Int))=False:=by simp;omega
  have hx0:x=0:=iW HX.out (by rw [HLN.out];exact hge);go_wp2;go_ret;exact ⟨by rw [hx0];rfl,hb⟩
theorem eVp {x:Int}(h:x≠0):be x=.iface 58 (.int .i64 x):=if_neg h
theorem eV0:be 0=.nilIface:=if_pos rfl
theorem gM (w:World) (A:Option Addr) (n c:Nat) (B:Option Addr) (p d:Nat) (C:Option Addr) (q e:Nat) (L:ai) (k:Nat) (h:LkS k w A n c B p d C q e L) (hk:k≤10000000) (hk1:0 < k) (x:Int) (hx:bZ L=x) :
 Calls Tryz.prog 31 #[.agg #[ae L.name,.slice A n c,.slice B p d,.slice C q e]] w (aB w (be x)):=by
 have hln:=h.bodies.1;obtain ⟨v,hv⟩:∃ v,aZ L.name=v:=⟨_,rfl⟩;have HV:=Qh hv;have HX:=Qh hx;have HL:=Qh hln;have H:=Qh h;clear hv hx hln h;go_in;go_wp2_with fail;(with_reducible refine (kK _ L.name H.out.name v HV.out).mono ?_);rintro e' w1 ⟨rfl,hb1⟩;have q1:=hb1.q1;have x1:Blk w1 w.heap.size 26 #[ae L.name,.slice A n c,.slice B p d,.slice C q e]:=(ak _ _ _ (by simp)).below hb1 (by simp);clear hb1;cases v
 ·have h5:x=5:=by rw [← HX.out];unfold bZ;rw [if_pos HV.out]
  go_wp2;go_ret;exact ⟨by rw [h5];rfl,q1⟩
 have hX1:x=if n=0 then 10 else if 8 < n then 4 else if co bE [] L.bodies≠0 then co bE [] L.bodies
  else if 16 < L.joints.length then 4 else if co (bB L) [] L.joints≠0 then co (bB L) [] L.joints
  else if 2 < L.drivers.length then 4 else co (aN n) [] L.drivers:=by
  rw [← HX.out];unfold bZ;rw [if_neg (by rw [HV.out];decide),HL.out]
 obtain ⟨y1,hy1⟩:∃ y,co bE [] L.bodies=y:=⟨_,rfl⟩;obtain ⟨y2,hy2⟩:∃ y,(if 16 < L.joints.length then (4:Int) else co (bB L) [] L.joints)=y:=⟨_,rfl⟩;obtain ⟨y3,hy3⟩:∃ y,(if 2 < L.drivers.length then (4:Int) else co (aN n) [] L.drivers)=y:=⟨_,rfl⟩
 have hX2:x=if n=0 then 10 else if 8 < n then 4 else if y1≠0 then y1 else if y2≠0 then y2 else y3:=by
  rw [hX1,hy1,← hy2,← hy3];by_cases a:16 < L.joints.length
  ·simp [a]
  simp [a]
 have HX2:=Qh hX2;have HY1:=Qh hy1;have HY2:=Qh hy2;have HY3:=Qh hy3;clear hX1 hX2 hy1 hy2 hy3;have cx1:=x1.cell 1;by_cases h0:n=0
 ·have e0:((n:Int) == 0)=true:=beq_iff_eq.2 (by omega)
  have e00:((n:Int)=0)=True:=eq_true (by omega);have h10:x=10:=by rw [HX2.out,if_pos h0]
  clear h0;go_wp2;go_ret;exact ⟨by rw [h10];rfl,q1⟩
 have e0:((n:Int) == 0)=false:=beq_eq_false_iff_ne.2 (by omega);have e00:((n:Int)=0)=False:=eq_false (by omega);by_cases h8:8 < n
 ·have e8:((8:Int) < (n:Int))=True:=eq_true (by omega)
  have h4:x=4:=by rw [HX2.out,if_neg h0,if_pos h8]
  go_wp2;go_ret;exact ⟨by rw [h4];rfl,q1⟩
 have e8:((8:Int) < (n:Int))=False:=eq_false (by omega);have hX3:x=if y1≠0 then y1 else if y2≠0 then y2 else y3:=by rw [HX2.out,if_neg h0,if_neg h8]
 have HX3:=Qh hX3;clear hX3 h0;go_wp2_with fail;(with_reducible refine (uY _ A n c L.bodies k (H.out.bodies.bd q1) (by omega) (by omega) y1 HY1.out).mono ?_);rintro e' w2 ⟨rfl,hb2⟩;have q2:=q1.trans (hb2.mono q1.size);have x2:=x1.below hb2 x1.lt;clear cx1;by_cases h1:y1=0
 case neg =>
  have hxy:x=y1:=by rw [HX3.out,if_pos h1]
  rw [eVp h1];go_wp2;go_ret;exact ⟨by rw [hxy,eVp h1];rfl,q2⟩
 have hX4:x=if y2≠0 then y2 else y3:=by rw [HX3.out,if_neg (by simp [h1])]
 have HX4:=Qh hX4;clear hX4;subst h1;rw [eV0];have cx0:=x2.cell 0;have cx1:=x2.cell 1;have cx2:=x2.cell 2;have cx3:=x2.cell 3;go_wp2_with fail;(with_reducible refine (vk _ A n c B p d C q e L k (H.out.belw q2) hk hk1 (by omega) y2 HY2.out).mono ?_);rintro e' w3 ⟨rfl,hb3⟩;have q3:=q2.trans (hb3.mono q2.size);have x3:=x2.below hb3 x2.lt;clear cx0 cx1 cx2 cx3;by_cases h2:y2=0
 case neg =>
  have hxy:x=y2:=by rw [HX4.out,if_pos h2]
  rw [eVp h2];go_wp2;go_ret;exact ⟨by rw [hxy,eVp h2];rfl,q3⟩
 have hX5:x=y3:=by rw [HX4.out,if_neg (by simp [h2])]
 subst hX5;subst h2;rw [eV0];have cx0:=x3.cell 0;have cx1:=x3.cell 1;have cx2:=x3.cell 2;have cx3:=x3.cell 3;go_wp2_with fail;(with_reducible refine (sR _ A n c B p d C q e L k (H.out.belw q3) hk hk1 (by omega) x HY3.out).mono ?_);rintro e' w4 ⟨rfl,hb4⟩;have q4:=q3.trans (hb4.mono q3.size);clear cx0 cx1 cx2 cx3;go_wp2;go_ret;exact ⟨rfl,q4⟩
/-! Only the block gr has turned. -/
section
variable {w w' w2:World}{gr:Nat}
theorem rg_refl (gr:Nat) (w:World):w.grownBy w (some gr):=⟨rfl,rfl,rfl,Qr,fun _ _ _=>rfl⟩
theorem aA (h:w.grownBy w' (some gr)) (k:w'.grownBy w2 (some gr)):w.grownBy w2 (some gr) :=
 ⟨k.os.trans h.os,k.tape.trans h.tape,k.output.trans h.output,Nat.le_trans h.size k.size,fun i hi hne=>(k.block i (Nat.lt_of_lt_of_le hi h.size) hne).trans (h.block i hi hne)⟩
theorem dZ (h:w.grownBy w' (some gr)) (i:Nat) (u:Value):w.grownBy (w'.setCell ⟨gr,i,none⟩ u) (some gr) :=
 aA h ⟨rfl,rfl,rfl,by simp [World.setCell],fun k _ hne=>Below.heap_setCell w' ⟨gr,i,none⟩ u k (fun e=>hne (by rw [e]))⟩
theorem fh (h:w.grownBy w' (some gr)) (k:Below w'.heap.size w' w2):w.grownBy w2 (some gr) :=
 aA h ⟨k.os,k.tape,k.output,k.size,fun i hi _=>k.block i hi⟩
theorem bi (h:w.grownBy w' (some gr)) (o:Obj):w.grownBy (w'.alloc o) (some gr):=fh h ((Below.refl _ _).alloc Qr o)
theorem xC (h:w.grownBy w' (some gr)):w.grownBy w'.drew (some gr):=⟨h.os,h.tape,h.output,h.size,h.block⟩
theorem d8 {B:Nat}(h:w.grownBy w' (some gr)) (hB:B≤w.heap.size) (hg:B≤gr):Below B w w':=(Below.refl B w).grown h hB (fun k e=>by injection e with e;omega)
theorem bK {g t:Nat}{cs:Array Value}(h:w.grownBy w' (some gr)) (x:Blk w g t cs) (hne:g≠gr):Blk w' g t cs:=(h.block g x.lt (fun e=>hne (by injection e))).trans x
theorem rh {g t:Nat}{cs:Array Value}(h:w.grownBy w' (some gr)) (x:w.heap[g]?=some (.cells cs t (0,0))) (hne:g≠gr):w'.heap[g]?=some (.cells cs t (0,0)):=(h.block g (lt_of_block x) (fun e=>hne (by injection e))).trans x
end
def TkA (B:Nat) (w:World) (A:Option Addr) (n c:Nat) (l:List Tkn):Prop:=l.length=n∧n≤c∧(0 < n→∃ g o,A=some ⟨g,o,none⟩∧g < B∧∀ i v,(cB l)[i]?=some v→w.cell? ⟨g,o+i,none⟩=some v)
def MxA (B:Nat) (w:World):Prop:=0 < B∧Mx w
section
variable {B:Nat}{w w':World}{A:Option Addr}{n c gr:Nat}{l:List Tkn}
theorem TkA.rg (h:TkA B w A n c l) (hB:B≤gr) (k:w.grownBy w' (some gr)):TkA B w' A n c l:=by
 refine ⟨h.1,h.2.1,fun hn=>?_⟩;obtain ⟨g,o,e,hg,hc⟩:=h.2.2 hn;exact ⟨g,o,e,hg,fun i v hv=>k.cell (hc i v hv) (fun e=>by injection e with e;simp only at e;omega)⟩
theorem TkA.belB (h:TkA B w A n c l) (k:Below B w w'):TkA B w' A n c l:=by
 refine ⟨h.1,h.2.1,fun hn=>?_⟩;obtain ⟨g,o,e,hg,hc⟩:=h.2.2 hn;exact ⟨g,o,e,hg,fun i v hv=>(k.cell (p:=⟨g,o+i,none⟩) hg).trans (hc i v hv)⟩
theorem TkA.of_tks (h:TkS w A n c l):TkA w.heap.size w A n c l:=by
 refine ⟨h.1,?_,fun hn=>?_⟩
 ·rcases h.2 with ⟨h1,_,h3⟩ | ⟨g,_,h1,_⟩
  ·omega
  exact h1
 rcases h.2 with ⟨h1,_,h3⟩ | ⟨g,e,h1,hc⟩
 ·omega
 have hl:0 < (cB l).length:=by rw [sx,h.1];omega
 have h0:(cB l)[0]?=some ((cB l)[0]'hl):=List.getElem?_eq_getElem hl;exact ⟨g,0,e,World.block_lt_of_cell? w ⟨g,0,none⟩ (hc 0 _ h0),fun i v hv=>by rw [Nat.zero_add];exact hc i v hv⟩
theorem TkA.head {t:Tkn}(h:TkA B w A n c (t :: l)):∃ g o,A=some ⟨g,o,none⟩∧g < B∧w.cell? ⟨g,o,none⟩=some (.int .i64 (t.kind:Nat))∧w.cell? ⟨g,o+1,none⟩=some (ae t.text)∧w.cell? ⟨g,o+2,none⟩=some (.int .i64 (t.line:Nat))∧w.cell? ⟨g,o+3,none⟩=some (.int .i64 (t.col:Nat)):=by
 obtain ⟨g,o,e,hg,hc⟩:=h.2.2 (by rw [← h.1];simp);exact ⟨g,o,e,hg,hc 0 _ rfl,hc 1 _ rfl,hc 2 _ rfl,hc 3 _ rfl⟩
theorem TkA.tail {t:Tkn}{A':Option Addr}{n' c':Nat}(h:TkA B w A n c (t :: l)) (hA:A'=if c=1 then A else A.map (·.add 4)) (hn:n'=n - 1) (hc:c'=c - 1):TkA B w A' n' c' l:=by
 subst hn hc;have hl:l.length+1=n:=by rw [← h.1];simp
 refine ⟨by omega,by have:=h.2.1;omega,fun hn=>?_⟩;obtain ⟨g,o,e,hg,hc⟩:=h.2.2 (by omega);have hc1:¬ c=1:=by have:=h.2.1;omega
 rw [if_neg hc1,e] at hA;refine ⟨g,o+4,hA,hg,fun i v hv=>?_⟩
 have h1:(cB (t :: l))[i+4]?=some v:=by
  have:cB (t :: l)=oG t ++ cB l:=rfl;rw [this,List.getElem?_append_right (by simp [oG])];simpa [oG] using hv
 have:=hc _ _ h1;rwa [show o+(i+4)=o+4+i by omega] at this
theorem MxA.rg (h:MxA B w) (hB:B≤gr) (k:w.grownBy w' (some gr)):MxA B w':=by
 obtain ⟨h1,m,hm⟩:=h;exact ⟨h1,m,k.cell hm (fun e=>by injection e with e;simp only at e;omega)⟩
theorem MxA.belB (h:MxA B w) (k:Below B w w'):MxA B w':=by
 obtain ⟨h1,m,hm⟩:=h;exact ⟨h1,m,(k.cell (p:=⟨_,0,none⟩) h1).trans hm⟩
theorem MxA.out (h:MxA B w):Mx w:=h.2
theorem MxA.of_mx (h:Mx w):MxA w.heap.size w:=by
 obtain ⟨m,hm⟩:=h;exact ⟨World.block_lt_of_cell? w ⟨_,0,none⟩ hm,m,hm⟩
end
structure RdP (B:Nat) (w:World) (gr:Nat) (c1 c2 c3 c4:Value) (s:PS):Prop where
  blk:∃ A n c,Blk w gr 118 #[.slice A n c,c1,c2,c3,c4,be s.x]∧TkA B w A n c s.toks
  mx:MxA B w
  hB:B≤gr
  len:s.toks.length≤65536
  txt:∀ t∈s.toks,NmL t.text
  hw:noW c1=true∧noW c2=true∧noW c3=true∧noW c4=true
def qo (B:Nat) (w:World) (gr:Nat) (c1 c2 c3 c4:Value) (v:Value) (s:PS) (e:Ending) (w':World):Prop:=e=.returned v∧RdP B w' gr c1 c2 c3 c4 s∧w.grownBy w' (some gr)
section
variable {B:Nat}{w w':World}{gr:Nat}{c1 c2 c3 c4:Value}{s:PS}
theorem RdP.lt (h:RdP B w gr c1 c2 c3 c4 s):gr < w.heap.size:=by obtain ⟨A,n,c,hb,_⟩:=h.blk;exact hb.lt
theorem RdP.bel1 (h:RdP B w gr c1 c2 c3 c4 s) (k:Below (gr+1) w w'):RdP B w' gr c1 c2 c3 c4 s:=by
 obtain ⟨A,n,c,hb,ht⟩:=h.blk;have hB:=h.hB;have k':Below B w w':=k.mono (by omega);exact ⟨⟨A,n,c,hb.below k (by omega),ht.belB k'⟩,h.mx.belB k',h.hB,h.len,h.txt,h.hw⟩
theorem RdP.belw (h:RdP B w gr c1 c2 c3 c4 s) (k:Below w.heap.size w w'):RdP B w' gr c1 c2 c3 c4 s:=by
 obtain ⟨A,n,c,hb,ht⟩:=h.blk;have hlt:=hb.lt;have hB:=h.hB;have k':Below B w w':=k.mono (by omega);exact ⟨⟨A,n,c,hb.below k hlt,ht.belB k'⟩,h.mx.belB k',h.hB,h.len,h.txt,h.hw⟩
theorem RdP.alloc (h:RdP B w gr c1 c2 c3 c4 s) (o:Obj):RdP B (w.alloc o) gr c1 c2 c3 c4 s:=h.belw ((Below.refl _ _).alloc Qr o)
theorem RdP.far (h:RdP B w gr c1 c2 c3 c4 s) {p:Addr}(hp:gr < p.block) (u:Value):RdP B (w.setCell p u) gr c1 c2 c3 c4 s:=by
 obtain ⟨A,n,c,hb,ht⟩:=h.blk;have hB:=h.hB;have k':Below B w (w.setCell p u):=(Below.refl B w).setCell (by omega) u;exact ⟨⟨A,n,c,hb.far (by omega) u,ht.belB k'⟩,h.mx.belB k',h.hB,h.len,h.txt,h.hw⟩
theorem cX {w2:World}(h:w.grownBy w' (some gr)) (k:Below w.heap.size w' w2):w.grownBy w2 (some gr) :=
 ⟨k.os.trans h.os,k.tape.trans h.tape,k.output.trans h.output,Nat.le_trans h.size k.size,fun i hi hne=>(k.block i hi).trans (h.block i hi hne)⟩
theorem ay.rg {α:Type}{T0:TypeId}{Pc:World→List Value→α→Prop}{sz base n:Nat}{v:Value}{l:List α}(h:ay T0 Pc sz w base v n l) (hgr:gr < base) (k:w.grownBy w' (some gr)) (hP:∀ cs a,Pc w cs a→Pc w' cs a):ay T0 Pc sz w' base v n l :=
 h.same (fun g _ hg hc=>rh k hc (by omega)) hP
theorem xD (x:Int):noW (be x)=true:=by unfold be;split <;> rfl
theorem RdP.tch {T:TypeId→Bool}(h:RdP B w gr c1 c2 c3 c4 s) (k:w.grownBy w' (some gr)) (hT:T 118=true):Tch T w w':=by
 obtain ⟨A,n,c,hb,_⟩:=h.blk;obtain ⟨h1,h2,h3,h4⟩:=h.hw;refine Tch.of_ne k.size hb hT ?_ fun g hlt hne=>k.block g hlt (fun e=>hne (by injection e))
 simp only [List.all_cons,List.all_nil,h1,h2,h3,h4,xD,Bool.and_true];rfl
end
def TA:TypeId→Bool:=fun _=>true
theorem fS {w:World}{g t:Nat}{cs:Array Value}(z:Blk w g t cs) (hz:cs.toList.all noW=true) (i j k:Nat) (u0 u1 u2:Value):Tch TA w (((w.setCell ⟨g,i,none⟩ u0).setCell ⟨g,j,none⟩ u1).setCell ⟨g,k,none⟩ u2) :=
 Tch.of_ne (by simp [World.setCell]) z rfl hz fun g' _ hne=>by
  rw [Below.heap_setCell _ _ _ _ hne,Below.heap_setCell _ _ _ _ hne,Below.heap_setCell _ _ _ _ hne]
theorem bU {B g:Nat}(w:World) (hB:B≤g) (i j k:Nat) (u0 u1 u2:Value):Below B w (((w.setCell ⟨g,i,none⟩ u0).setCell ⟨g,j,none⟩ u1).setCell ⟨g,k,none⟩ u2) :=
 (((Below.refl B w).setCell (p:=⟨g,i,none⟩) hB u0).setCell (p:=⟨g,j,none⟩) hB u1).setCell (p:=⟨g,k,none⟩) hB u2
theorem ef {w w':World}{gr:Nat}(h:w.grownBy w' (some gr)) {p:Addr}(hp:w.heap.size≤p.block) (u:Value):w.grownBy (w'.setCell p u) (some gr) :=
 ⟨h.os,h.tape,h.output,by simp [World.setCell,h.size],fun k hk hne=>(Below.heap_setCell w' p u k (by omega)).trans (h.block k hk hne)⟩
def mOf (gr:Nat) (w:World):Nat:=(match w.cell? ⟨gr,0,none⟩ with | some (.slice _ n _)=>2 * n | _=>0)+(match w.cell? ⟨gr,5,none⟩ with | some .nilIface=>1 | _=>0)
theorem RdP.meas {B:Nat}{w:World}{gr:Nat}{c1 c2 c3 c4:Value}{s:PS}(h:RdP B w gr c1 c2 c3 c4 s):mOf gr w=2 * s.toks.length+if s.x=0 then 1 else 0:=by
 obtain ⟨A,n,c,hb,ht⟩:=h.blk;unfold mOf;rw [hb.cell 0,hb.cell 5];show 2 * n+(match some (be s.x) with | some .nilIface=>1 | _=>0)=_;rw [ht.1];by_cases hx:s.x=0
 ·rw [if_pos hx,hx,bo]
 rw [if_neg hx,eVp hx]
theorem rj:(Tryz.prog.info? 56).map (fun i=>(i.zero,i.size,i.bytes))=some (some (.agg #[.string ⟨#[]⟩,.bool false,.slice none 0 0,.slice none 0 0,.bool false,.slice none 0 0,.slice none 0 0]),7,128):=by kernel_rfl
theorem gN:(Tryz.prog.info? 51).map (fun i=>(i.zero,i.size,i.bytes))=some (some (.agg #[.string ⟨#[]⟩,.slice none 0 0]),2,40):=by kernel_rfl
theorem gP:(Tryz.prog.info? 81).map (fun i=>(i.zero,i.size,i.bytes))=some (some (.agg #[.string ⟨#[]⟩,.int .i64 0,.int .i64 0,.int .i64 0,.int .i64 0,.int .i64 0,.int .i64 0]),7,64):=by kernel_rfl
theorem gQ:(Tryz.prog.info? 86).map (fun i=>(i.zero,i.size,i.bytes))=some (some (.agg #[.string ⟨#[]⟩,.int .i64 0]),2,24):=by kernel_rfl
section
variable {w:World}{g t:Nat}{a0 a1 a2 a3 a4 a5:Value}
theorem Blk.s60 (h:Blk w g t #[a0,a1,a2,a3,a4,a5]) (u:Value):Blk (w.setCell ⟨g,0,none⟩ u) g t #[u,a1,a2,a3,a4,a5]:=h.set_ 0 u
theorem Blk.s61 (h:Blk w g t #[a0,a1,a2,a3,a4,a5]) (u:Value):Blk (w.setCell ⟨g,1,none⟩ u) g t #[a0,u,a2,a3,a4,a5]:=h.set_ 1 u
theorem Blk.s62 (h:Blk w g t #[a0,a1,a2,a3,a4,a5]) (u:Value):Blk (w.setCell ⟨g,2,none⟩ u) g t #[a0,a1,u,a3,a4,a5]:=h.set_ 2 u
theorem Blk.s63 (h:Blk w g t #[a0,a1,a2,a3,a4,a5]) (u:Value):Blk (w.setCell ⟨g,3,none⟩ u) g t #[a0,a1,a2,u,a4,a5]:=h.set_ 3 u
theorem Blk.s64 (h:Blk w g t #[a0,a1,a2,a3,a4,a5]) (u:Value):Blk (w.setCell ⟨g,4,none⟩ u) g t #[a0,a1,a2,a3,u,a5]:=h.set_ 4 u
theorem Blk.s65 (h:Blk w g t #[a0,a1,a2,a3,a4,a5]) (u:Value):Blk (w.setCell ⟨g,5,none⟩ u) g t #[a0,a1,a2,a3,a4,u]:=h.set_ 5 u
end
theorem jT {s s':PS}{k:Nat}{t:List UInt8}(h:s.next k=(some t,s')):s'=s∧s.x=0∧∃ t0 r,s.toks=t0 :: r∧t0.kind=k∧t0.text=t:=by
 unfold PS.next at h;split at h
 ·cases h
 rename_i hx;split at h
 ·cases h
 rename_i t0 r e;split at h
 ·rename_i hk
  injection h with h1 h2;injection h1 with h1;exact ⟨h2.symm,by simpa using hx,t0,r,e,hk,h1⟩
 cases h
theorem eF (w:World) (gr:Nat) (c0 c1 c2 c3 c4:Value) (x e:Int) (hb:Blk w gr 118 #[c0,c1,c2,c3,c4,be x]) (he:e≠0):Calls Tryz.prog 105 #[.pointer (some ⟨gr,0,none⟩),.iface 58 (.int .i64 e)] w (fun en w'=>en=.returned (.tuple #[])∧Blk w' gr 118 #[c0,c1,c2,c3,c4,be (if x=0 then e else x)]∧w.grownBy w' (some gr)):=by
 have hlt:=hb.lt;have f5:=hb.frozen 5;have ee:=eVp he;by_cases hx:x=0
 ·subst hx
  have HB:=Qh hb;obtain ⟨_,_,_,_,_,a5⟩:=hb.c6;rw [bo] at a5;rw [if_pos rfl,ee];clear hb ee;go_in;go_wp2_with fail;go_end0;exact ⟨rfl,HB.out.s65 _,dZ (rg_refl _ _) _ _⟩
 rw [if_neg hx];have HB:=Qh hb;obtain ⟨_,_,_,_,_,a5⟩:=hb.c6;rw [eVp hx] at a5;clear hb ee;go_in;go_wp2_with fail;go_end0;exact ⟨rfl,HB.out,rg_refl _ _⟩
theorem mY (B:Nat) (w:World) (gr:Nat) (c1 c2 c3 c4:Value) (s:PS) (h:RdP B w gr c1 c2 c3 c4 s) (k:Nat) (z:Int) (hz:z=(k:Int)):Calls Tryz.prog 104 #[.pointer (some ⟨gr,0,none⟩),.int .i64 z] w (qo B w gr c1 c2 c3 c4 (.tuple #[ae ((s.next k).1.getD []),.bool (s.next k).1.isSome]) (s.next k).2):=by
 subst hz;have HP:=Qh h;obtain ⟨toks,L,x⟩:=s;obtain ⟨A,n,c,hb,ht⟩:=h.blk;have hmx:=h.mx;have hB:=h.hB;have hlen:=h.len;have hw:=h.hw;have htx:=h.txt;simp only at hb ht hlen htx;have HB:=Qh hb;have HT:=Qh ht;have HM:=Qh hmx;have hn:=ht.1;obtain ⟨a0,_,_,_,_,a5⟩:=hb.c6;clear hb ht hmx h;by_cases hx:x=0
 ·subst hx
  rw [bo] at a5
  cases toks with
  | nil =>
   have e:PS.next ⟨[],L,0⟩ k=(none,⟨[],L,18⟩):=rfl;rw [e];subst hn;go_in;go_wp2_with fail;(with_reducible refine (eF _ gr (.slice A 0 c) c1 c2 c3 c4 0 18 HB.out (by decide)).mono ?_);rintro e w1 ⟨rfl,hb1,hg1⟩;rw [if_pos rfl] at hb1;have HB1:=Qh hb1;clear hb1;go_wp2_with fail;refine bodyPost_ret (v:=.tuple #[ae [],.bool false]) (by simp [results,Tryz.results104,go_sem, *] <;> trivial) rfl ?_;exact ⟨rfl,⟨⟨A,0,c,HB1.out,HT.out.rg hB hg1⟩,HM.out.rg hB hg1,hB,hlen,htx,hw⟩,hg1⟩
  | cons t r =>
   have hn1:0 < n:=by rw [← hn];simp
   obtain ⟨g,o,e,hg,d0,d1,d2,d3⟩:=HT.out.head;subst e;have hi0:(0:Int) < (n:Int):=by omega
   by_cases hk:t.kind=k
   ·have e:PS.next ⟨t :: r,L,0⟩ k=(some t.text,⟨t :: r,L,0⟩):=by unfold PS.next;rw [if_neg (by simp)];simp [hk]
    rw [e];have hk1:((t.kind:Int) == (k:Int))=true:=by simp [hk]
    have hk2:((n:Int) == 0)=false:=beq_eq_false_iff_ne.2 (by omega);clear hn hk;go_in;go_wp2_with fail;refine bodyPost_ret (v:=.tuple #[ae t.text,.bool true]) (by simp [results,Tryz.results104,go_sem, *] <;> trivial) rfl ?_;exact ⟨rfl,HP.out.alloc _,bi (rg_refl _ _) _⟩
   have e:PS.next ⟨t :: r,L,0⟩ k=(none,⟨t :: r,L,2⟩):=by unfold PS.next;rw [if_neg (by simp)];simp [hk]
   rw [e];have hk1:((t.kind:Int) == (k:Int))=false:=beq_eq_false_iff_ne.2 (by omega);have hk2:((n:Int) == 0)=false:=beq_eq_false_iff_ne.2 (by omega);clear hn hk;go_in;go_wp2_with fail;(with_reducible refine (eF _ gr (.slice (some ⟨g,o,none⟩) n c) c1 c2 c3 c4 0 2 (HB.out.alloc _) (by decide)).mono ?_);rintro e w1 ⟨rfl,hb1,hg1⟩;rw [if_pos rfl] at hb1;have HB1:=Qh hb1;have hg2:=aA (bi (rg_refl gr w) _) hg1;clear hb1 hg1;go_wp2_with fail;refine bodyPost_ret (v:=.tuple #[ae [],.bool false]) (by simp [results,Tryz.results104,go_sem, *] <;> trivial) rfl ?_;exact ⟨rfl,⟨⟨_,n,c,HB1.out,HT.out.rg hB hg2⟩,HM.out.rg hB hg2,hB,hlen,htx,hw⟩,hg2⟩
 have e:PS.next ⟨toks,L,x⟩ k=(none,⟨toks,L,x⟩):=if_pos hx;rw [e];rw [eVp hx] at a5;go_in;go_wp2_with fail;refine bodyPost_ret (v:=.tuple #[ae [],.bool false]) (by simp [results,Tryz.results104,go_sem, *] <;> trivial) rfl ?_;exact ⟨rfl,HP.out,rg_refl _ _⟩
theorem RdP.drop {B:Nat}{w:World}{gr n c n' c':Nat}{A A':Option Addr}{c1 c2 c3 c4:Value}{s:PS}{t0:Tkn}{r:List Tkn}(h:RdP B w gr c1 c2 c3 c4 s) (e:s.toks=t0 :: r)
 (hb:Blk w gr 118 #[.slice A n c,c1,c2,c3,c4,be s.x]) (ht:TkA B w A n c s.toks) (hA:A'=if c=1 then A else A.map (·.add 4)) (hn:n'=n - 1) (hc:c'=c - 1):RdP B (w.setCell ⟨gr,0,none⟩ (.slice A' n' c')) gr c1 c2 c3 c4 s.drop1:=by
 have hr:=dZ (rg_refl gr w) 0 (.slice A' n' c');have e1:s.drop1.toks=r:=by unfold PS.drop1;rw [e];rfl
 rw [e] at ht;exact ⟨⟨A',n',c',hb.s60 _,by rw [e1];exact (ht.tail hA hn hc).rg h.hB hr⟩,h.mx.rg h.hB hr,h.hB,by rw [e1];have:=h.len;rw [e] at this;simp at this;omega,fun t ht=>h.txt t (by rw [e];rw [e1] at ht;exact List.mem_cons_of_mem _ ht),h.hw⟩
theorem ct (B:Nat) (w:World) (gr:Nat) (c1 c2 c3 c4:Value) (s:PS) (h:RdP B w gr c1 c2 c3 c4 s):Calls Tryz.prog 70 #[.pointer (some ⟨gr,0,none⟩)] w (qo B w gr c1 c2 c3 c4 (ae s.word.1) s.word.2):=by
 have HP:=Qh h;obtain ⟨W,hW⟩:∃ W,s.word=W:=⟨_,rfl⟩;rw [hW];have HW:=Qh hW;clear h hW;go_in;go_wp2_with fail;(with_reducible refine (mY B _ gr c1 c2 c3 c4 s HP.out 0 0 rfl).mono ?_);rintro e w1 ⟨rfl,h1,hg1⟩;have hW:=HW.out;unfold PS.word at hW;generalize hq:s.next 0=q at h1 hW;obtain ⟨o,s'⟩:=q
 cases o with
 | none =>
  simp only [Option.getD_none,Option.isSome_none] at h1 hW ⊢;subst hW;have H1:=Qh h1;clear hq h1 HW;go_wp2;go_ret;exact ⟨rfl,H1.out,hg1⟩
 | some t =>
  simp only [Option.getD_some,Option.isSome_some] at h1 hW ⊢;subst hW;obtain ⟨e,hx,t0,r,et,_,_⟩:=jT hq;obtain ⟨A,n,c,hb,ht⟩:=h1.blk;have hn:(1:Int)≤(n:Int):=by have:=ht.1;rw [e,et] at this;simp at this;omega
  have f0:=hb.frozen 0;obtain ⟨a0,_,_,_,_,_⟩:=hb.c6;have H1:=Qh h1;have HB:=Qh hb;have HT:=Qh ht;have HE:=Qh (show s'.toks=t0 :: r by rw [e,et]);clear h1 hb ht hq e et hx HW;go_wp2_with fail
  all_goals
   go_ret;exact ⟨rfl,H1.out.drop HE.out HB.out HT.out (by simp [Addr.add, *]) rfl (by omega),dZ hg1 _ _⟩
theorem ml (B:Nat) (w:World) (gr:Nat) (c1 c2 c3 c4:Value) (s:PS) (h:RdP B w gr c1 c2 c3 c4 s) (k:Nat) (z:Int) (hz:z=(k:Int)) (text:List UInt8):Calls Tryz.prog 69 #[.pointer (some ⟨gr,0,none⟩),.int .i64 z,ae text] w (qo B w gr c1 c2 c3 c4 (.tuple #[]) (s.expect k text)):=by
 have HP:=Qh h;have HZ:=Qh hz;obtain ⟨W,hW⟩:∃ W,s.expect k text=W:=⟨_,rfl⟩;rw [hW];have HW:=Qh hW;clear h hz hW;go_in;go_wp2_with fail;(with_reducible refine (mY B _ gr c1 c2 c3 c4 s HP.out k z HZ.out).mono ?_);rintro e w1 ⟨rfl,h1,hg1⟩;have hW:=HW.out;unfold PS.expect at hW;generalize hq:s.next k=q at h1 hW;obtain ⟨o,s'⟩:=q
 cases o with
 | none =>
  simp only [Option.getD_none,Option.isSome_none] at h1 hW ⊢;subst hW;have H1:=Qh h1;clear hq h1 HW;go_wp2_with fail;go_end0;exact ⟨rfl,H1.out,hg1⟩
 | some t =>
  simp only [Option.getD_some,Option.isSome_some] at h1 hW ⊢;obtain ⟨e,hx,t0,r,et,_,_⟩:=jT hq;have ht1:=aV t;have ht2:=aV text;obtain ⟨A,n,c,hb,ht⟩:=h1.blk;have hn:(1:Int)≤(n:Int):=by have:=ht.1;rw [e,et] at this;simp at this;omega
  have f0:=hb.frozen 0;obtain ⟨a0,_,_,_,_,a5⟩:=hb.c6;have H1:=Qh h1;have HB:=Qh hb;have HT:=Qh ht;have HE:=Qh (show s'.toks=t0 :: r by rw [e,et]);have HX:=Qh (show s'.x=0 by rw [e];exact hx);clear h1 hb ht hq e et hx a5 HW;by_cases heq:t=text
  ·rw [if_pos heq] at hW
   subst hW;subst heq;have hee:(t == t)=true:=by simp
   go_wp2_with fail
   all_goals
    go_end0;exact ⟨rfl,H1.out.drop HE.out HB.out HT.out (by simp [Addr.add, *]) rfl (by omega),dZ hg1 _ _⟩
  rw [if_neg heq] at hW;have e2:s'.fail 2={ s' with x:=2 }:=if_pos HX.out;rw [e2] at hW;subst hW;have hee:(t == text)=false:=beq_eq_false_iff_ne.2 heq;clear heq;go_wp2_with fail;(with_reducible refine (eF _ gr (.slice A n c) c1 c2 c3 c4 s'.x 2 HB.out (by decide)).mono ?_);rintro e w2 ⟨rfl,hb2,hg2⟩;rw [if_pos HX.out] at hb2;have HB2:=Qh hb2;clear hb2;go_wp2_with fail;go_end0;exact ⟨rfl,⟨⟨A,n,c,HB2.out,HT.out.rg H1.out.hB hg2⟩,H1.out.mx.rg H1.out.hB hg2,H1.out.hB,H1.out.len,H1.out.txt,H1.out.hw⟩,aA hg1 hg2⟩
theorem dH (B:Nat) (w:World) (gr:Nat) (c1 c2 c3 c4:Value) (s:PS) (h:RdP B w gr c1 c2 c3 c4 s) (text:List UInt8):Calls Tryz.prog 71 #[.pointer (some ⟨gr,0,none⟩),ae text] w (qo B w gr c1 c2 c3 c4 (.tuple #[]) (s.expect 2 text)):=by
 have HP:=Qh h;clear h;go_in;go_wp2_with fail;(with_reducible refine (ml B _ gr c1 c2 c3 c4 s HP.out 2 2 rfl text).mono ?_);rintro e w1 ⟨rfl,h1,hg1⟩;have H1:=Qh h1;clear h1;go_wp2_with fail;go_end0;exact ⟨rfl,H1.out,hg1⟩
theorem rk (B:Nat) (w:World) (gr:Nat) (c1 c2 c3 c4:Value) (s:PS) (h:RdP B w gr c1 c2 c3 c4 s) (v:Bool) (hv:decide (s.x=0∧s.toks≠[])=v):Calls Tryz.prog 72 #[.pointer (some ⟨gr,0,none⟩)] w (qo B w gr c1 c2 c3 c4 (.bool v) s):=by
 have HP:=Qh h;subst hv;obtain ⟨A,n,c,hb,ht⟩:=h.blk;have hn:=ht.1;obtain ⟨a0,_,_,_,_,a5⟩:=hb.c6;clear hb ht h;by_cases hx:s.x=0
 ·rw [hx,bo] at a5
  by_cases ht:s.toks=[]
  ·have e:decide (s.x=0∧s.toks≠[])=false:=by simp [ht]
   rw [e];have hn0:n=0:=by rw [← hn,ht];rfl
   subst hn0;clear hn;go_in;go_wp2;go_ret;exact ⟨rfl,HP.out,rg_refl _ _⟩
  have e:decide (s.x=0∧s.toks≠[])=true:=by simp [ht,hx]
  rw [e];have hp:0 < s.toks.length:=List.length_pos_iff.2 ht;have hn0:(0 < n)=True:=eq_true (by omega);clear hn;go_in;go_wp2;go_ret;exact ⟨rfl,HP.out,rg_refl _ _⟩
 have e:decide (s.x=0∧s.toks≠[])=false:=by simp [hx]
 rw [e];rw [eVp hx] at a5;go_in;go_wp2;go_ret;exact ⟨rfl,HP.out,rg_refl _ _⟩
def BB (B:Nat) (w:World) (gr:Nat) (c1 c2 c3 c4:Value) (q:Rat) (s:PS) (e:Ending) (w':World):Prop :=
  ∃ b A n c D m e',e=.returned (.agg #[.bool b,.slice A n c,.slice D m e'])∧QV w' b A n c D m e' q 130∧RdP B w' gr c1 c2 c3 c4 s∧w.grownBy w' (some gr)
theorem rl (w:World) (k:Nat):QV w false none 0 0 none 0 0 0 k:=by
 unfold QV;rw [mp];exact ⟨rfl,Wd.nil_ w,Wd.nil_ w,Nat.zero_le _,Nat.zero_le _⟩
theorem QD.alloc_ {w:World}{b:Bool}{A D:Option Addr}{n c m e k:Nat}{r:RD}(h:QD w b A n c D m e r k) (o:Obj):QD (w.alloc o) b A n c D m e r k:=h.belw ((Below.refl _ _).alloc Qr o)
theorem kU {B:Nat}{w:World}{gr z n c n' c':Nat}{A A':Option Addr}{c1 c2 c3 c4:Value}{s:PS}{t0:Tkn}{r:List Tkn}(h:RdP B w gr c1 c2 c3 c4 s) (e:s.toks=t0 :: r)
 (hb:Blk w gr 118 #[.slice A n c,c1,c2,c3,c4,be s.x]) (ht:TkA B w A n c s.toks) (hA:A'=if c=1 then A else A.map (·.add 4)) (hn:n'=n - 1) (hc:c'=c - 1)
 (hz:gr < z) (Z:Blk w z 54 #[.bool false,.slice none 0 0,.slice none 0 0]) {b:Bool}{A2 D2:Option Addr}{n2 d2 m2 e2 k:Nat}{q:RD}(hq:QD w b A2 n2 d2 D2 m2 e2 q k) (u0 u1 u2:Value) (o:Obj) :
 QD (((((w.setCell ⟨gr,0,none⟩ (.slice A' n' c')).setCell ⟨z,0,none⟩ u0).setCell ⟨z,1,none⟩ u1).setCell ⟨z,2,none⟩ u2).alloc o) b A2 n2 d2 D2 m2 e2 q k ∧
 RdP B (((((w.setCell ⟨gr,0,none⟩ (.slice A' n' c')).setCell ⟨z,0,none⟩ u0).setCell ⟨z,1,none⟩ u1).setCell ⟨z,2,none⟩ u2).alloc o) gr c1 c2 c3 c4 s.drop1:=by
 have h1:=h.drop e hb ht hA hn hc;have t1:Tch TA w (w.setCell ⟨gr,0,none⟩ (.slice A' n' c')):=h.tch (dZ (rg_refl gr w) 0 _) rfl;have Z1:Blk (w.setCell ⟨gr,0,none⟩ (.slice A' n' c')) z 54 #[.bool false,.slice none 0 0,.slice none 0 0]:=Z.far (by show z≠gr;omega) _;exact ⟨((hq.tch t1).tch (fS Z1 rfl 0 1 2 u0 u1 u2)).alloc_ o,(h1.bel1 (bU _ hz 0 1 2 u0 u1 u2)).alloc o⟩
theorem gR (B:Nat) (w:World) (gr:Nat) (c1 c2 c3 c4:Value) (s:PS) (h:RdP B w gr c1 c2 c3 c4 s):Calls Tryz.prog 147 #[.pointer (some ⟨gr,0,none⟩)] w (BB B w gr c1 c2 c3 c4 s.number.1 s.number.2):=by
 have HP:=Qh h;have hlt:=h.lt;obtain ⟨W,hW⟩:∃ W,s.number=W:=⟨_,rfl⟩;rw [hW];have HW:=Qh hW;clear h hW;go_in;go_wp2_with fail;(with_reducible refine (mY B _ gr c1 c2 c3 c4 s (HP.out.alloc _) 1 1 rfl).mono ?_);rintro e w1 ⟨rfl,h1,hg1⟩;have z1:Blk w1 w.heap.size 54 #[.bool false,.slice none 0 0,.slice none 0 0]:=bK hg1 (Blk.new _ _ _) (by omega);have G1:w.grownBy w1 (some gr):=aA (bi (rg_refl gr w) _) hg1;clear hg1;have hlz:=z1.lt;have hW:=HW.out;unfold PS.number at hW;generalize hq:s.next 1=q at h1 hW;obtain ⟨o,s'⟩:=q
 cases o with
 | none =>
  simp only [Option.getD_none,Option.isSome_none] at h1 hW ⊢;subst hW;obtain ⟨cz0,cz1,cz2⟩:=z1.c3;obtain ⟨fz0,fz1,fz2⟩:=z1.f3;have H1:=Qh h1;have Z1:=Qh z1;clear hq h1 z1 HW;go_wp2_with fail;refine bodyPost_ret (v:=.agg #[.bool false,.slice none 0 0,.slice none 0 0]) (by simp [results,Tryz.results147,go_sem, *] <;> trivial) rfl ?_;exact ⟨_,_,_,_,_,_,_,rfl,rl _ _,((H1.out.far hlt _).far hlt _).far hlt _,ef (ef (ef G1 Qr _) Qr _) Qr _⟩
 | some t =>
  simp only [Option.getD_some,Option.isSome_some] at h1 hW ⊢;obtain ⟨e,hx,t0,r,et,_,_⟩:=jT hq;have HV:=Qh (rc t);generalize valX t=x at HV hW;generalize valQ t=qv at HV hW;have HE:=Qh (show s'.toks=t0 :: r by rw [e,et]);have HX:=Qh (show s'.x=0 by rw [e];exact hx);have H1:=Qh h1;have Z1:=Qh z1;have HW2:=Qh hW;clear h1 hq e et hx z1 hW HW;go_wp2_with fail;(with_reducible refine (sQ _ t x qv H1.out.mx.out HV.out).mono ?_);rintro e w2 ⟨b2,A2,n2,d2,D2,m2,e2,rfl,h2,hb2⟩;have G2:=fh G1 hb2;have z2:=Z1.out.below hb2 hlz;have r2:=H1.out.belw hb2;have hlw:=hb2.size;clear hb2 G1;have hgl:=r2.lt;have hlz2:=z2.lt;have R2:=Qh r2;have Z2:=Qh z2;have HQ2:=Qh h2;obtain ⟨A,n,c,hb,ht⟩:=r2.blk;have hB:=r2.hB;have HB:=Qh hb;have HT:=Qh ht;clear Z1 H1 r2 z2 h2 ht;by_cases hx0:x=0
  ·have hW:=HW2.out
   rw [if_neg (by simp [hx0])] at hW;subst hW hx0;rw [bo];have hn:(1:Int)≤(n:Int):=by have:=HT.out.1;rw [HE.out] at this;simp at this;omega
   have f0:=hb.frozen 0;obtain ⟨a0,_,_,_,_,_⟩:=hb.c6;obtain ⟨cz0,cz1,cz2⟩:=Z2.out.c3;obtain ⟨fz0,fz1,fz2⟩:=Z2.out.f3;clear hb HW2;have hne1:¬ gr=w2.heap.size:=by omega
   have hne2:¬ w.heap.size=w2.heap.size:=by omega
   have hne3:¬ gr=w.heap.size:=by omega
   go_wp2_with fail
   all_goals
    refine bodyPost_ret (v:=.agg #[.bool b2,.slice A2 n2 d2,.slice D2 m2 e2]) (by simp [results,Tryz.results147,go_sem, *] <;> trivial) rfl ?_;exact ⟨_,_,_,_,_,_,_,rfl,(kU R2.out HE.out HB.out HT.out (by simp [Addr.add, *]) rfl (by omega) hlt Z2.out HQ2.out _ _ _ _).1,(kU R2.out HE.out HB.out HT.out (by simp [Addr.add, *]) rfl (by omega) hlt Z2.out HQ2.out _ _ _ _).2,bi (ef (ef (ef (dZ G2 _ _) Qr _) Qr _) Qr _) _⟩
  have hW:=HW2.out;rw [if_pos hx0] at hW;subst hW;rw [eVp hx0];clear hb HW2;go_wp2_with fail;(with_reducible refine (eF _ gr (.slice A n c) c1 c2 c3 c4 s'.x x (HB.out.alloc _) hx0).mono ?_);rintro e w3 ⟨rfl,hb3,hg3⟩;rw [if_pos HX.out] at hb3;have g3:=aA (bi (rg_refl gr w2) _) hg3;have z3:=bK g3 Z2.out (by omega);obtain ⟨cz0,cz1,cz2⟩:=z3.c3;obtain ⟨fz0,fz1,fz2⟩:=z3.f3;have HB3:=Qh hb3;have hl3:=z3.lt;clear hb3 hg3 z3;go_wp2_with fail;refine bodyPost_ret (v:=.agg #[.bool false,.slice none 0 0,.slice none 0 0]) (by simp [results,Tryz.results147,go_sem, *] <;> trivial) rfl ?_;have e2:s'.fail x={ s' with x:=x }:=if_pos HX.out;rw [e2];have R3:RdP B w3 gr c1 c2 c3 c4 { s' with x:=x }:=⟨⟨A,n,c,HB3.out,HT.out.rg hB g3⟩,R2.out.mx.rg hB g3,hB,R2.out.len,R2.out.txt,R2.out.hw⟩;exact ⟨_,_,_,_,_,_,_,rfl,rl _ _,((R3.far hlt _).far hlt _).far hlt _,ef (ef (ef (aA G2 g3) Qr _) Qr _) Qr _⟩
def Av (B:Nat) (w:World) (gr:Nat) (c1 c2 c3 c4:Value) (b:aj) (s:PS) (e:Ending) (w':World):Prop :=
  ∃ A n c,e=.returned (.agg #[ae b.name,.slice A n c])∧lA 130 w' A n c b.pts∧NmL b.name∧RdP B w' gr c1 c2 c3 c4 s∧w.grownBy w' (some gr)
section
variable {w:World}{g t:Nat}{a0 a1 a2 a3 a4 a5 a6:Value}
theorem Blk.x7 (h:Blk w g t #[a0,a1,a2,a3,a4,a5,a6]) (u0 u1 u2:Value):Blk (((w.setCell ⟨g,1,none⟩ u0).setCell ⟨g,2,none⟩ u1).setCell ⟨g,3,none⟩ u2) g t #[a0,u0,u1,u2,a4,a5,a6]:=((h.set_ 1 u0).set_ 2 u1).set_ 3 u2
theorem Blk.y7 (h:Blk w g t #[a0,a1,a2,a3,a4,a5,a6]) (u0 u1 u2:Value):Blk (((w.setCell ⟨g,4,none⟩ u0).setCell ⟨g,5,none⟩ u1).setCell ⟨g,6,none⟩ u2) g t #[a0,a1,a2,a3,u0,u1,u2]:=((h.set_ 4 u0).set_ 5 u1).set_ 6 u2
theorem Blk.f7 (h:Blk w g t #[a0,a1,a2,a3,a4,a5,a6]):w.frozen? ⟨g,0,none⟩=false∧w.frozen? ⟨g,1,none⟩=false∧w.frozen? ⟨g,2,none⟩=false∧w.frozen? ⟨g,3,none⟩=false∧w.frozen? ⟨g,4,none⟩=false∧w.frozen? ⟨g,5,none⟩=false∧w.frozen? ⟨g,6,none⟩=false:=⟨h.frozen 0,h.frozen 1,h.frozen 2,h.frozen 3,h.frozen 4,h.frozen 5,h.frozen 6⟩
theorem Blk.s21 (h:Blk w g t #[a0,a1]) (u:Value):Blk (w.setCell ⟨g,1,none⟩ u) g t #[a0,u]:=h.set_ 1 u
end
theorem lA.of_row {w:World}{base n c:Nat}{A:Option Addr}{l:List au}(h:ay 56 (MkC 130) 7 w base (.slice A n c) n l):lA 130 w A n c l:=h.slT fun _ _ _ _ h1 h2=>h1.at_ h2
theorem OwJ.far {J:Value→Bool}{w:World}{base n size:Nat}{e:TypeId}{v:Value}{xs:List Value}(h:OwJ J w base e size v n xs) {p:Addr}(hp:some p.block≠v.ownBlock) (u:Value):OwJ J (w.setCell p u) base e size v n xs:=by
 refine ⟨h.1,?_⟩;rcases h.2 with h1 | ⟨g,cap,cur,rfl,h2,h3,h4⟩
 ·exact .inl h1
 exact .inr ⟨g,cap,cur,rfl,h2,(Below.heap_setCell w p u g (fun e=>hp (by simp [Value.ownBlock,e]))).trans h3,h4⟩
theorem vl {J:Value→Bool}{w:World}{base n size g t:Nat}{e:TypeId}{v:Value}{xs:List Value}{cs:Array Value}(h:OwJ J w base e size v n xs) (hb:Blk w g t cs) (ht:t≠e):some g≠v.ownBlock:=by
 intro e1;obtain ⟨_,cur,h2,_⟩:=h.at_ e1.symm;unfold Blk at hb;rw [h2] at hb;injection hb with hb;injection hb with _ hb;exact ht hb.symm
theorem TkA.first {B:Nat}{w:World}{A:Option Addr}{n c:Nat}{s:PS}(ht:TkA B w A n c s.toks):(n=0∧s.signHead=false)∨(0 < n∧∃ g o,∃ k:Nat,A=some ⟨g,o,none⟩∧w.cell? ⟨g,o,none⟩=some (.int .i64 (k:Nat))∧s.signHead=decide (k=2)):=by
 obtain ⟨toks,L,x⟩:=s
 cases toks with
 | nil=>exact .inl ⟨ht.1.symm,rfl⟩
 | cons t r =>
  obtain ⟨g,o,e,_,d0,_⟩:=ht.head;refine .inr ⟨by rw [← ht.1];simp,g,o,t.kind,e,d0,?_⟩;show (t.kind == 2)=_;rfl
structure BdR (B:Nat) (w:World) (gr gb:Nat) (c1 c2 c3 c4:Value) (nm:List UInt8) (wr:World) (s:PS) (l:List au) (pv:Value):Prop where
  rd:RdP B wr gr c1 c2 c3 c4 s
  rg:w.grownBy wr (some gr)
  out:Blk wr w.heap.size 51 #[ae [],.slice none 0 0]
  b:Blk wr gb 51 #[ae nm,pv]
  row:ay 56 (MkC 130) 7 wr gb pv l.length l
  lt:gr < w.heap.size∧w.heap.size < gb
section
variable {B:Nat}{w:World}{gr gb:Nat}{c1 c2 c3 c4:Value}{nm:List UInt8}{wr w3:World}{s s3:PS}{l:List au}{pv:Value}
theorem BdR.call (h:BdR B w gr gb c1 c2 c3 c4 nm wr s l pv) (h3:RdP B w3 gr c1 c2 c3 c4 s3) (g3:wr.grownBy w3 (some gr)):BdR B w gr gb c1 c2 c3 c4 nm w3 s3 l pv :=
 ⟨h3,aA h.rg g3,bK g3 h.out (by have:=h.lt;omega),bK g3 h.b (by have:=h.lt;omega),h.row.rg (by have:=h.lt;omega) g3 (fun _ _ x=>x.tch (h.rd.tch g3 (T:=TA) rfl)),h.lt⟩
theorem BdR.fin {A:Option Addr}{n c:Nat}(h:BdR B w gr gb c1 c2 c3 c4 nm wr s l (.slice A n c)) (u v:Value):RdP B ((wr.setCell ⟨w.heap.size,0,none⟩ u).setCell ⟨w.heap.size,1,none⟩ v) gr c1 c2 c3 c4 s∧w.grownBy ((wr.setCell ⟨w.heap.size,0,none⟩ u).setCell ⟨w.heap.size,1,none⟩ v) (some gr)∧lA 130 ((wr.setCell ⟨w.heap.size,0,none⟩ u).setCell ⟨w.heap.size,1,none⟩ v) A n c l:=by
 obtain ⟨h1,h2⟩:=h.lt;refine ⟨(h.rd.far h1 _).far h1 _,ef (ef h.rg Qr _) Qr _,?_⟩
 have hn:l.length=n:=by
  obtain ⟨A',c',e,_⟩:=h.row.form;injection e with _ e _;exact e.symm
 have hr:=h.row;rw [hn] at hr
 have ht:Tch TA wr ((wr.setCell ⟨w.heap.size,0,none⟩ u).setCell ⟨w.heap.size,1,none⟩ v) :=
  Tch.of_ne (by simp [World.setCell]) h.out rfl rfl fun g' _ hne=>by rw [Below.heap_setCell _ _ _ _ hne,Below.heap_setCell _ _ _ _ hne]
 exact lA.of_row (hr.same (fun g cur hg hc=>by rw [Below.heap_setCell _ _ _ _ (by show g≠w.heap.size;omega),Below.heap_setCell _ _ _ _ (by show g≠w.heap.size;omega)];exact hc) (fun _ _ x=>x.tch ht))
theorem BdR.b5 {xs:List Value}{w5:World}(h:BdR B w gr gb c1 c2 c3 c4 nm wr s l pv) (hown:OwJ noW wr gb 56 7 pv l.length xs) (o:Obj) (hgrow:(wr.alloc o).grownBy w5 pv.ownBlock):Blk w5 gb 51 #[ae nm,pv] :=
 (h.b.alloc o).grown hgrow (vl hown h.b (by decide))
theorem BdR.push {xs:List Value}{w5:World}{v':Value}{cs:List Value}{m:au}{o:Obj}(h:BdR B w gr gb c1 c2 c3 c4 nm wr s l pv) (hown:OwJ noW wr gb 56 7 pv l.length xs) (hrow:cl (MkC 130) 7 wr l xs)
 (hm:MkC 130 wr cs m) (hcs:cs.length=7) (hown5:OwJ noW w5 gb 56 7 v' (l.length+1) (xs ++ cs)) (hgrow:(wr.alloc o).grownBy w5 pv.ownBlock):BdR B w gr gb c1 c2 c3 c4 nm (w5.setCell ⟨gb,1,none⟩ v') s (l ++ [m]) v':=by
 obtain ⟨h1,h2⟩:=h.lt;have b5:=h.b5 hown o hgrow;have hs:=h.b.lt;have hb5:Below gb wr w5:=((Below.refl gb wr).alloc (by omega) o).grown hgrow (by simp;omega) (fun k hk=>(hown.at_ hk).1);have hb6:Below gb wr (w5.setCell ⟨gb,1,none⟩ v'):=hb5.setCell (p:=⟨gb,1,none⟩) Qr v';have hownA:OwJ noW (wr.alloc o) gb 56 7 pv l.length xs:=hown.belw ((Below.refl _ _).alloc Qr o);obtain ⟨A,c,hpv,_⟩:=h.row.form;have ht:Tch TA wr (w5.setCell ⟨gb,1,none⟩ v'):=((Tch.below ((Below.refl _ _).alloc Qr o)).trans (Tch.grown (T:=TA) (fun _ hu=>hu) rfl hownA hgrow)).trans (Tch.set b5 rfl (by rw [hpv];rfl) 1 v');have hl:(l ++ [m]).length=l.length+1:=by simp
 refine ⟨h.rd.bel1 (hb6.mono (by omega)),cX h.rg (hb6.mono (by omega)),h.out.below hb6 h2,b5.s21 v',?_,h.lt⟩;rw [hl];exact ⟨hl,xs ++ cs,hown5.far (vl hown5 b5 (by decide)) v',(hrow.map_ fun _ _ x=>x.tch ht).snoc (hm.tch ht) hcs⟩
end
theorem xE (B:Nat) (w:World) (gr:Nat) (c1 c2 c3 c4:Value) (s:PS) (h:RdP B w gr c1 c2 c3 c4 s):Calls Tryz.prog 106 #[.pointer (some ⟨gr,0,none⟩)] w (Av B w gr c1 c2 c3 c4 s.body.1 s.body.2):=by
 obtain ⟨i0,hi0,hz0,hz1,hz2⟩:=info_parts rj;have HI:=Qh (And.intro hi0 (And.intro hz0 (And.intro hz1 hz2)));clear hi0 hz0 hz1 hz2;unfold PS.body;obtain ⟨R,hR⟩:∃ R,PS.marks (s.toks.length+1) (s.word.2.expect 2 [123]) []=R:=⟨_,rfl⟩;simp only [hR];have HR:=Qh hR;have HP:=Qh h;have hlt:=h.lt;have HN:=Qh (fA h.txt);clear h hR;go_in;go_wp2_with fail;(with_reducible refine (ct B _ gr c1 c2 c3 c4 s (HP.out.alloc _)).mono ?_);rintro e w1 ⟨rfl,h1,hg1⟩;have z1:Blk w1 w.heap.size 51 #[ae [],.slice none 0 0]:=bK hg1 (Blk.new _ _ _) (by omega);have G1:w.grownBy w1 (some gr):=aA (bi (rg_refl gr w) _) hg1;have hlz:=z1.lt;have hl1:=h1.lt;have H1:=Qh h1;clear hg1 h1;go_wp2_with fail;(with_reducible refine (dH B _ gr c1 c2 c3 c4 s.word.2 (H1.out.alloc _) [123]).mono ?_);rintro e w2 ⟨rfl,h2,hg2⟩;have z2:Blk w2 w.heap.size 51 #[ae [],.slice none 0 0]:=bK hg2 (z1.alloc _) (by omega);have b2:Blk w2 w1.heap.size 51 #[ae s.word.1,.slice none 0 0]:=bK hg2 (Blk.new _ _ _) (by omega);have G2:w.grownBy w2 (some gr):=aA (bi G1 _) hg2;clear z1 G1 H1 hg2;generalize w1.heap.size=gb at hlz hl1 b2 ⊢;have HB2:=Qh b2;have HZ2:=Qh z2;have H2:=Qh h2;clear b2 z2 h2;go_wp2_with fail;go_loopw [] (fun wr=>∃ f s' l pv,BdR B w gr gb c1 c2 c3 c4 s.word.1 wr s' l pv∧(s'.x=0→s'.toks.length < f∧l.length+s'.toks.length≤65536)∧Hid (PS.marks f s' l=R)) (fun wr=>mOf gr wr)
 case atStart =>
  have hst:=(aw s).trans (aI s.word.2 2 [123]);have h6:=HP.out.len;exact ⟨_,_,[],_,⟨H2.out,G2,HZ2.out,HB2.out,ay.nil,hlt,hlz⟩,fun _=>⟨by have:=hst.1;omega,by have:=hst.1;simp;omega⟩,HR⟩
 case round =>
  clear HR H2 HZ2 HB2 G2;obtain ⟨f,s',l,pv,hbr,hfl,HR⟩:=hrel;obtain ⟨A,n,c,hb,ht⟩:=hbr.rd.blk;obtain ⟨a0,_,_,_,_,a5⟩:=hb.c6;obtain ⟨Ap,cp,rfl,hcp⟩:=hbr.row.form;have HBR:=Qh hbr;clear hb hbr;by_cases hx:s'.x=0
  ·rw [hx,bo] at a5
   obtain ⟨hf1,hf2⟩:=hfl hx;have hff:0 < f:=by omega
   rcases ht.first with ⟨hn0,hs⟩ | ⟨hn0,g,o,k,e,d0,hs⟩
   rotate_left
   ·subst e
    rw [show decide (k=2)=_ from rfl] at hs;have hi0:(0:Int) < (n:Int):=by omega
    have hi1:(0 < n)=True:=eq_true hn0;clear ht;by_cases hk:k=2
    ·have hk1:((k:Int) == 2)=true:=by simp [hk]
     have hRl:=gH (l:=l) hff hx (by rw [hs];simp [hk]);rw [HR.out] at hRl;subst hRl;clear hs hfl;go_wp2_with fail;(with_reducible refine (dH B _ gr c1 c2 c3 c4 s' HBR.out.rd [125]).mono ?_);rintro e w3 ⟨rfl,h3,hg3⟩;have HB3:=Qh (HBR.out.call h3 hg3);obtain ⟨cz0,cz1⟩:=HB3.out.out.c2;obtain ⟨fz0,fz1⟩:=HB3.out.out.f2;obtain ⟨cb0,cb1⟩:=HB3.out.b.c2;have hne:¬ gb=w.heap.size:=by omega
     clear h3 hg3;go_wp2_with fail;refine bodyPost_ret (v:=.agg #[ae s.word.1,.slice Ap l.length cp]) (by simp [results,Tryz.results106,go_sem, *] <;> trivial) rfl ?_;exact ⟨_,_,_,rfl,(HB3.out.fin _ _).2.2,HN.out,(HB3.out.fin _ _).1,(HB3.out.fin _ _).2.1⟩
    have hk1:((k:Int) == 2)=false:=beq_eq_false_iff_ne.2 (by omega);have hs2:s'.signHead=false:=by rw [hs];simp [hk]
    clear hs;have HS2:=Qh hs2;clear hs2;go_wp2_with fail;(with_reducible refine (ct B _ gr c1 c2 c3 c4 s' HBR.out.rd).mono ?_);rintro e w3 ⟨rfl,h3,hg3⟩;have hnm:=Qh (fA HBR.out.rd.txt);have hl3:=h3.lt;have hw3:=hg3.size;have H3:=Qh h3;clear h3 a0 a5;go_wp2_with fail;(with_reducible refine (gR B _ gr c1 c2 c3 c4 s'.word.2 (H3.out.alloc _)).mono ?_);rintro e w4 ⟨b4,A4,n4,d4,D4,m4,e4,rfl,q4,h4,hg4⟩;have p4:Blk w4 w3.heap.size 56 #[ae s'.word.1,.bool false,.slice none 0 0,.slice none 0 0,.bool false,.slice none 0 0,.slice none 0 0]:=bK hg4 (Blk.new _ _ _) (by omega);have g4:wr.grownBy w4 (some gr):=aA (bi hg3 _) hg4;have hlp4:=p4.lt;obtain ⟨_,fp1,fp2,fp3,_⟩:=p4.f7;obtain ⟨_,cq1,cq2,cq3,_⟩:=p4.c7;have P4:=Qh p4;have H4:=Qh h4;have Q4:=Qh q4;clear p4 h4 q4 hg4 hg3 H3;go_wp2_with fail;(with_reducible refine (gR B _ gr c1 c2 c3 c4 s'.word.2.number.2 (H4.out.bel1 (bU w4 hl3 1 2 3 (.bool b4) (.slice A4 n4 d4) (.slice D4 m4 e4)))).mono ?_);rintro e w5 ⟨b5,A5,n5,d5,D5,m5,e5,rfl,q5,h5,hg5⟩;have p5:=bK hg5 (P4.out.x7 (.bool b4) (.slice A4 n4 d4) (.slice D4 m4 e4)) (by omega);have g5:wr.grownBy w5 (some gr):=aA (cX g4 (bU w4 hw3 1 2 3 (.bool b4) (.slice A4 n4 d4) (.slice D4 m4 e4))) hg5;have q45:=(Q4.out.tch (fS P4.out rfl 1 2 3 (.bool b4) (.slice A4 n4 d4) (.slice D4 m4 e4))).tch ((H4.out.bel1 (bU w4 hl3 1 2 3 (.bool b4) (.slice A4 n4 d4) (.slice D4 m4 e4))).tch hg5 (T:=TA) rfl);have hlp5:=p5.lt;obtain ⟨_,_,_,_,fr4,fr5,fr6⟩:=p5.f7;obtain ⟨_,_,_,_,cr4,cr5,cr6⟩:=p5.c7;have P5:=Qh p5;have H5:=Qh h5;have Q45:=Qh q45;have Q5:=Qh q5;clear p5 h5 q5 q45 hg5 g4 P4 H4 Q4 fp1 fp2 fp3 cq1 cq2 cq3;go_wp2_with fail;(with_reducible refine (dH B _ gr c1 c2 c3 c4 s'.word.2.number.2.number.2 (H5.out.bel1 (bU w5 hl3 4 5 6 (.bool b5) (.slice A5 n5 d5) (.slice D5 m5 e5))) [59]).mono ?_);rintro e w6 ⟨rfl,h6,hg6⟩;have p6:=bK hg6 (P5.out.y7 (.bool b5) (.slice A5 n5 d5) (.slice D5 m5 e5)) (by omega);have g6:wr.grownBy w6 (some gr):=aA (cX g5 (bU w5 hw3 4 5 6 (.bool b5) (.slice A5 n5 d5) (.slice D5 m5 e5))) hg6;have t6:=(fS P5.out rfl 4 5 6 (.bool b5) (.slice A5 n5 d5) (.slice D5 m5 e5)).trans ((H5.out.bel1 (bU w5 hl3 4 5 6 (.bool b5) (.slice A5 n5 d5) (.slice D5 m5 e5))).tch hg6 (T:=TA) rfl);have HM:=Qh (show MkC 130 w6 [ae s'.word.1,.bool b4,.slice A4 n4 d4,.slice D4 m4 e4,.bool b5,.slice A5 n5 d5,.slice D5 m5 e5] s'.mark.1 from ⟨b4,A4,n4,d4,D4,m4,e4,b5,A5,n5,d5,D5,m5,e5,rfl,Q45.out.tch t6,Q5.out.tch t6,hnm.out⟩);have HB6:=Qh (show BdR B w gr gb c1 c2 c3 c4 s.word.1 w6 s'.mark.2 l (.slice Ap l.length cp) from HBR.out.call h6 g6);obtain ⟨_,xs,hown,hrow⟩:=HB6.out.row;have HO:=Qh hown;have HW:=Qh hrow;obtain ⟨cb0,cb1⟩:=HB6.out.b.c2;obtain ⟨cp0,cp1,cp2,cp3,cp4,cp5,cp6⟩:=p6.c7;have hlb:=HB6.out.b.lt;have hlp6:=p6.lt;clear h6 hg6 hown hrow p6 t6 g5 g6 P5 H5 Q45 Q5 fr4 fr5 fr6 cr4 cr5 cr6;go_wp2_with (at_builtin;refine bL _ rfl noW _ _ _ rfl gb 56 i0 (.agg #[.string ⟨#[]⟩,.bool false,.slice none 0 0,.slice none 0 0,.bool false,.slice none 0 0,.slice none 0 0]) 7 128 Tryz.underlying49 HI.out.1 HI.out.2.1 HI.out.2.2.1 HI.out.2.2.2 rfl (by omega) rfl _ l.length xs rfl (HO.out.belw ((Below.refl _ _).alloc Qr _)) ⟨w6.heap.size,0,none⟩ 1 1 [_,_,_,_,_,_,_] rfl rfl (World.news_of_block (heap_alloc_new w6 _)) (by simp [Value.oneCell']) rfl (by omega) (by unfold maxLen;omega) (by omega) (by simp;omega) ?_;intro gx cap w7 hown7 hgrow hat;have fb7:=(HB6.out.b5 HO.out _ hgrow).frozen 1;obtain ⟨ce0,ce1⟩:=(HB6.out.b5 HO.out _ hgrow).c2);have hst:=jg s';have hR2:=dY (l:=l) hff hx HS2.out;rw [HR.out] at hR2;go_roundw
    case rel =>
     refine ⟨f - 1,s'.mark.2,l ++ [s'.mark.1],_,HB6.out.push HO.out HW.out HM.out rfl hown7 hgrow,fun hz=>?_,Qh hR2.symm⟩;have h9:=(hst.2.2.1 hz).2;rw [List.length_append,List.length_singleton];omega
    case measure =>
     rw [(HB6.out.push HO.out HW.out HM.out rfl hown7 hgrow).rd.meas,HBR.out.rd.meas,if_pos hx];have h8:=hst.1;by_cases hz:s'.mark.2.x=0
     ·have h9:=(hst.2.2.1 hz).2
      rw [if_pos hz];omega
     rw [if_neg hz];omega
   subst hn0;have hs2:s'.signHead=false:=hs;clear hs ht;have HS2:=Qh hs2;clear hs2;go_wp2_with fail;(with_reducible refine (ct B _ gr c1 c2 c3 c4 s' HBR.out.rd).mono ?_);rintro e w3 ⟨rfl,h3,hg3⟩;have hnm:=Qh (fA HBR.out.rd.txt);have hl3:=h3.lt;have hw3:=hg3.size;have H3:=Qh h3;clear h3 a0 a5;go_wp2_with fail;(with_reducible refine (gR B _ gr c1 c2 c3 c4 s'.word.2 (H3.out.alloc _)).mono ?_);rintro e w4 ⟨b4,A4,n4,d4,D4,m4,e4,rfl,q4,h4,hg4⟩;have p4:Blk w4 w3.heap.size 56 #[ae s'.word.1,.bool false,.slice none 0 0,.slice none 0 0,.bool false,.slice none 0 0,.slice none 0 0]:=bK hg4 (Blk.new _ _ _) (by omega);have g4:wr.grownBy w4 (some gr):=aA (bi hg3 _) hg4;have hlp4:=p4.lt;obtain ⟨_,fp1,fp2,fp3,_⟩:=p4.f7;obtain ⟨_,cq1,cq2,cq3,_⟩:=p4.c7;have P4:=Qh p4;have H4:=Qh h4;have Q4:=Qh q4;clear p4 h4 q4 hg4 hg3 H3;go_wp2_with fail;(with_reducible refine (gR B _ gr c1 c2 c3 c4 s'.word.2.number.2 (H4.out.bel1 (bU w4 hl3 1 2 3 (.bool b4) (.slice A4 n4 d4) (.slice D4 m4 e4)))).mono ?_);rintro e w5 ⟨b5,A5,n5,d5,D5,m5,e5,rfl,q5,h5,hg5⟩;have p5:=bK hg5 (P4.out.x7 (.bool b4) (.slice A4 n4 d4) (.slice D4 m4 e4)) (by omega);have g5:wr.grownBy w5 (some gr):=aA (cX g4 (bU w4 hw3 1 2 3 (.bool b4) (.slice A4 n4 d4) (.slice D4 m4 e4))) hg5;have q45:=(Q4.out.tch (fS P4.out rfl 1 2 3 (.bool b4) (.slice A4 n4 d4) (.slice D4 m4 e4))).tch ((H4.out.bel1 (bU w4 hl3 1 2 3 (.bool b4) (.slice A4 n4 d4) (.slice D4 m4 e4))).tch hg5 (T:=TA) rfl);have hlp5:=p5.lt;obtain ⟨_,_,_,_,fr4,fr5,fr6⟩:=p5.f7;obtain ⟨_,_,_,_,cr4,cr5,cr6⟩:=p5.c7;have P5:=Qh p5;have H5:=Qh h5;have Q45:=Qh q45;have Q5:=Qh q5;clear p5 h5 q5 q45 hg5 g4 P4 H4 Q4 fp1 fp2 fp3 cq1 cq2 cq3;go_wp2_with fail;(with_reducible refine (dH B _ gr c1 c2 c3 c4 s'.word.2.number.2.number.2 (H5.out.bel1 (bU w5 hl3 4 5 6 (.bool b5) (.slice A5 n5 d5) (.slice D5 m5 e5))) [59]).mono ?_);rintro e w6 ⟨rfl,h6,hg6⟩;have p6:=bK hg6 (P5.out.y7 (.bool b5) (.slice A5 n5 d5) (.slice D5 m5 e5)) (by omega);have g6:wr.grownBy w6 (some gr):=aA (cX g5 (bU w5 hw3 4 5 6 (.bool b5) (.slice A5 n5 d5) (.slice D5 m5 e5))) hg6;have t6:=(fS P5.out rfl 4 5 6 (.bool b5) (.slice A5 n5 d5) (.slice D5 m5 e5)).trans ((H5.out.bel1 (bU w5 hl3 4 5 6 (.bool b5) (.slice A5 n5 d5) (.slice D5 m5 e5))).tch hg6 (T:=TA) rfl);have HM:=Qh (show MkC 130 w6 [ae s'.word.1,.bool b4,.slice A4 n4 d4,.slice D4 m4 e4,.bool b5,.slice A5 n5 d5,.slice D5 m5 e5] s'.mark.1 from ⟨b4,A4,n4,d4,D4,m4,e4,b5,A5,n5,d5,D5,m5,e5,rfl,Q45.out.tch t6,Q5.out.tch t6,hnm.out⟩);have HB6:=Qh (show BdR B w gr gb c1 c2 c3 c4 s.word.1 w6 s'.mark.2 l (.slice Ap l.length cp) from HBR.out.call h6 g6);obtain ⟨_,xs,hown,hrow⟩:=HB6.out.row;have HO:=Qh hown;have HW:=Qh hrow;obtain ⟨cb0,cb1⟩:=HB6.out.b.c2;obtain ⟨cp0,cp1,cp2,cp3,cp4,cp5,cp6⟩:=p6.c7;have hlb:=HB6.out.b.lt;have hlp6:=p6.lt;clear h6 hg6 hown hrow p6 t6 g5 g6 P5 H5 Q45 Q5 fr4 fr5 fr6 cr4 cr5 cr6;go_wp2_with (at_builtin;refine bL _ rfl noW _ _ _ rfl gb 56 i0 (.agg #[.string ⟨#[]⟩,.bool false,.slice none 0 0,.slice none 0 0,.bool false,.slice none 0 0,.slice none 0 0]) 7 128 Tryz.underlying49 HI.out.1 HI.out.2.1 HI.out.2.2.1 HI.out.2.2.2 rfl (by omega) rfl _ l.length xs rfl (HO.out.belw ((Below.refl _ _).alloc Qr _)) ⟨w6.heap.size,0,none⟩ 1 1 [_,_,_,_,_,_,_] rfl rfl (World.news_of_block (heap_alloc_new w6 _)) (by simp [Value.oneCell']) rfl (by omega) (by unfold maxLen;omega) (by omega) (by simp;omega) ?_;intro gx cap w7 hown7 hgrow hat;have fb7:=(HB6.out.b5 HO.out _ hgrow).frozen 1;obtain ⟨ce0,ce1⟩:=(HB6.out.b5 HO.out _ hgrow).c2);have hst:=jg s';have hR2:=dY (l:=l) hff hx HS2.out;rw [HR.out] at hR2;go_roundw
   case rel =>
    refine ⟨f - 1,s'.mark.2,l ++ [s'.mark.1],_,HB6.out.push HO.out HW.out HM.out rfl hown7 hgrow,fun hz=>?_,Qh hR2.symm⟩;have h9:=(hst.2.2.1 hz).2;rw [List.length_append,List.length_singleton];omega
   case measure =>
    rw [(HB6.out.push HO.out HW.out HM.out rfl hown7 hgrow).rd.meas,HBR.out.rd.meas,if_pos hx];have h8:=hst.1;by_cases hz:s'.mark.2.x=0
    ·have h9:=(hst.2.2.1 hz).2
     rw [if_pos hz];omega
    rw [if_neg hz];omega
  rw [eVp hx] at a5;have hz:=HBR.out.out;have hbb:=HBR.out.b;obtain ⟨cz0,cz1⟩:=hz.c2;obtain ⟨fz0,fz1⟩:=hz.f2;obtain ⟨cb0,cb1⟩:=hbb.c2;have hne:¬ gb=w.heap.size:=by omega
  have hRl:=mX (f:=f) (l:=l) hx;rw [HR.out] at hRl;subst hRl;clear hz hbb hfl ht;go_wp2_with fail;refine bodyPost_ret (v:=.agg #[ae s.word.1,.slice Ap l.length cp]) (by simp [results,Tryz.results106,go_sem, *] <;> trivial) rfl ?_;exact ⟨_,_,_,rfl,(HBR.out.fin _ _).2.2,HN.out,(HBR.out.fin _ _).1,(HBR.out.fin _ _).2.1⟩
theorem rm {α:Type}{f:α→List UInt8}{l:List α}{nm:List UInt8}{i:Nat}{b:α}(h:∀ a∈l.take i,f a≠nm) (hb:l[i]?=some b) (e:f b=nm):l.findIdx? (fun x=>f x == nm)=some i:=by
 rw [List.findIdx?_eq_some_iff_getElem];obtain ⟨hi,hb⟩:=List.getElem?_eq_some_iff.1 hb;refine ⟨hi,by rw [hb];simp [e],fun j hj=>?_⟩
 have hm:l[j]'(by omega)∈l.take i:=by
  rw [List.mem_take_iff_getElem];exact ⟨j,by omega,rfl⟩
 simpa using h _ hm
theorem oZ {α:Type}{f:α→List UInt8}{l:List α}{nm:List UInt8}(h:∀ a∈l,f a≠nm):l.findIdx? (fun x=>f x == nm)=none:=by
 rw [List.findIdx?_eq_none_iff];intro x hx;simpa using h x hx
theorem mm {α:Type}{p:α→Prop}{l:List α}{i:Nat}{b:α}(h:∀ a∈l.take i,p a) (hb:l[i]?=some b) (hp:p b):∀ a∈l.take (i+1),p a:=by
 intro a ha;rw [List.take_add_one,hb] at ha;simp at ha;rcases ha with ha | rfl
 ·exact h a ha
 exact hp
section
variable {w w':World}{gr base n c:Nat}{A:Option Addr}{cs:Array Value}
theorem ay.rgt {α:Type}{T0:TypeId}{Pc:World→List Value→α→Prop}{sz:Nat}{v:Value}{l:List α}(h:ay T0 Pc sz w base v n l) (hb:Blk w gr 118 cs) (hne:T0≠118) (k:w.grownBy w' (some gr)) (hP:∀ cs a,Pc w cs a→Pc w' cs a):ay T0 Pc sz w' base v n l :=
 h.same (fun g cur _ hc=>rh k hc (fun e=>by
  subst e;unfold Blk at hb;rw [hb] at hc;injection hc with hc;injection hc with _ hc
  exact hne hc.symm)) hP
theorem ay.bds {k:Nat}{l:List aj}(h:ay 51 (BdC k) 2 w base (.slice A n c) n l):SlS (eM k) 2 w A n c l:=(h.slT (P:=eM k) fun _ _ _ _ h1 h2=>h1.at_ h2).sl fun _ _ _ p=>p
theorem ay.jts {l:List aK}(h:ay 81 JtC 7 w base (.slice A n c) n l):SlS iZ 7 w A n c l:=(h.slT (P:=iZ) fun _ _ _ _ h1 h2=>h1.at_ h2).sl fun _ _ _ p=>p
theorem ay.drs {l:List aQ}(h:ay 86 DrC 2 w base (.slice A n c) n l):SlS jc 2 w A n c l:=(h.slT (P:=jc) fun _ _ _ _ h1 h2=>h1.at_ h2).sl fun _ _ _ p=>p
end
theorem RdP.bodies {B:Nat}{w w':World}{gr n c:Nat}{A:Option Addr}{c1 c2 c3 c4:Value}{s:PS}{l:List aj}(h:RdP B w gr c1 c2 c3 c4 s) (hr:ay 51 (BdC 130) 2 w B (.slice A n c) n l) (k:w.grownBy w' (some gr)):ay 51 (BdC 130) 2 w' B (.slice A n c) n l:=by
 obtain ⟨_,_,_,hb,_⟩:=h.blk;exact hr.rgt hb (by decide) k fun _ _ x=>x.tch (T:=fun t=>t == 118) (h.tch k rfl) (by decide)
theorem o0 (B:Nat) (w:World) (gr:Nat) (c1 c3 c4:Value) (A:Option Addr) (n c:Nat) (s:PS) (h:RdP B w gr c1 (.slice A n c) c3 c4 s) (hr:ay 51 (BdC 130) 2 w B (.slice A n c) n s.L.bodies) (hn:n≤100000) (only:Int):Calls Tryz.prog 108 #[.pointer (some ⟨gr,0,none⟩),.int .i64 only] w (qo B w gr c1 (.slice A n c) c3 c4 (.int .i64 (s.named only).1) (s.named only).2):=by
 have HP:=Qh h;have HR:=Qh hr;obtain ⟨W,hW⟩:∃ W,s.named only=W:=⟨_,rfl⟩;rw [hW];have HW:=Qh hW;clear h hr hW;go_in;go_wp2_with fail;(with_reducible refine (ct B _ gr c1 (.slice A n c) c3 c4 s HP.out).mono ?_);rintro e w1 ⟨rfl,h1,hg1⟩;have HB:=Qh (HP.out.bodies HR.out hg1);have hLs:=(aw s).2.2.2;have hW:=HW.out;unfold PS.named at hW;simp only at hW;rw [hLs] at hW;generalize s.word.2=s' at h1 hW;generalize s.word.1=nm at hW ⊢;have H1:=Qh h1;obtain ⟨D,m,d,hb,_⟩:=h1.blk;obtain ⟨_,_,a2,_,_,a5⟩:=hb.c6;have hgl:=hb.lt;clear hb h1 HW HP HR hLs;by_cases hx:s'.x=0
 ·rw [if_neg (by simp [hx])] at hW
  rw [hx,bo] at a5;have HX:=Qh hx;have HW:=Qh hW;clear hx hW;go_wp2_with fail;clear a2 a5;go_loopw [21] (fun iv wr=>∃ i:Nat,iv=.int .i64 (i:Nat)∧i≤n∧Hid (∀ a∈s.L.bodies.take i,a.name≠nm)∧Below w1.heap.size w1 wr) (fun iv _=>n - (intOf iv).toNat)
  case atStart=>exact ⟨0,rfl,Nat.zero_le _,Qh (by simp),aa w1⟩
  case round =>
   obtain ⟨i,rfl,hi,HT,hb⟩:=hrel;rename World=>wr;rcases Nat.lt_or_ge i n with hlt | hge
   ·have hi1:((i:Int) < (n:Int))=True:=by simp;omega
    obtain ⟨g,o,b,e,hg,_,hbi,hB⟩:=(HB.out.bds.bd hb).at_ hlt;subst e;obtain ⟨A',n',c',d0,d1,hM,hnm⟩:=hB;clear hM hnm;have htl:=aV b.name;have htn:=aV nm;have HBI:=Qh hbi;clear hbi;by_cases heq:b.name=nm
    ·have hf:gZ s.L.bodies nm=some i:=rm (f:=aj.name) HT.out HBI.out heq
     have hW:=HW.out;rw [hf] at hW;simp only at hW;rw [heq] at d0 htl;have hee:(nm == nm)=true:=by simp
     have r1:=H1.out.belw hb;have g1:=fh hg1 hb;have R1:=Qh r1;clear HBI heq hf r1;by_cases ho:0≤only
     ·have ho1:(0≤only)=True:=eq_true ho
      by_cases hio:(i:Int)=only
      ·rw [if_neg (by simp [hio])] at hW
       subst hW;have hio1:((i:Int) == only)=true:=by simp [hio]
       clear hio;go_wp2;go_ret;exact ⟨rfl,R1.out.alloc _,bi g1 _⟩
      rw [if_pos ⟨ho,hio⟩,show s'.fail 7={ s' with x:=7 } from if_pos HX.out] at hW;subst hW;have hio1:((i:Int) == only)=false:=beq_eq_false_iff_ne.2 hio;clear hio;obtain ⟨D2,m2,d2,hbr,htr⟩:=R1.out.blk;have HBr:=Qh (hbr.alloc (.cells #[ae nm,.slice A' n' c'] 51));have HTr:=Qh htr;clear hbr htr;go_wp2_with fail;(with_reducible refine (eF _ gr (.slice D2 m2 d2) c1 (.slice (some ⟨g,o,none⟩) n c) c3 c4 s'.x 7 HBr.out (by decide)).mono ?_);rintro e w2 ⟨rfl,hb2,hg2⟩;have g2:=aA (bi (rg_refl gr wr) _) hg2;rw [if_pos HX.out] at hb2;have R2:RdP B w2 gr c1 (.slice (some ⟨g,o,none⟩) n c) c3 c4 { s' with x:=7 }:=⟨⟨D2,m2,d2,hb2,HTr.out.rg R1.out.hB g2⟩,R1.out.mx.rg R1.out.hB g2,R1.out.hB,R1.out.len,R1.out.txt,R1.out.hw⟩;clear hb2;go_wp2;go_ret;exact ⟨rfl,R2,aA g1 g2⟩
     have ho1:(0≤only)=False:=eq_false ho;rw [if_neg (by omega)] at hW;subst hW;go_wp2;go_ret;exact ⟨rfl,R1.out.alloc _,bi g1 _⟩
    have hee:(b.name == nm)=false:=beq_eq_false_iff_ne.2 heq;have HT2:=Qh (mm (p:=fun a:aj=>a.name≠nm) HT.out HBI.out heq);clear heq HT HBI;go_wp2_with fail;go_roundw
    case rel=>exact ⟨i+1,by go_num,by omega,HT2,hb.alloc hb.size _⟩
    case measure=>simp [intOf];omega
   have hi1:((i:Int) < (n:Int))=False:=by simp;omega
   obtain rfl:i=n:=by omega
   have hl:s.L.bodies.length=i:=HB.out.1;have hf:gZ s.L.bodies nm=none:=oZ (f:=aj.name) fun a ha=>HT.out a (by rw [List.take_of_length_le (by omega)];exact ha)
   have hW:=HW.out;rw [hf] at hW;simp only at hW;have e2:s'.fail 5={ s' with x:=5 }:=if_pos HX.out;rw [e2] at hW;subst hW;have r1:=H1.out.belw hb;have g1:=fh hg1 hb;have R1:=Qh r1;obtain ⟨D2,m2,d2,hbr,htr⟩:=r1.blk;have HBr:=Qh hbr;have HTr:=Qh htr;clear hbr htr r1 hf hl HT;go_wp2_with fail;(with_reducible refine (eF _ gr (.slice D2 m2 d2) c1 (.slice A i c) c3 c4 s'.x 5 HBr.out (by decide)).mono ?_);rintro e w2 ⟨rfl,hb2,g2⟩;rw [if_pos HX.out] at hb2;have R2:RdP B w2 gr c1 (.slice A i c) c3 c4 { s' with x:=5 }:=⟨⟨D2,m2,d2,hb2,HTr.out.rg R1.out.hB g2⟩,R1.out.mx.rg R1.out.hB g2,R1.out.hB,R1.out.len,R1.out.txt,R1.out.hw⟩;clear hb2;go_wp2;go_ret;exact ⟨rfl,R2,aA g1 g2⟩
 rw [if_pos (by simpa using hx)] at hW;subst hW;rw [eVp hx] at a5;clear hx;go_wp2;go_ret;exact ⟨rfl,H1.out,hg1⟩
theorem RdP.body_at {k n c i:Nat}{w:World}{A:Option Addr}{l:List aj}(h:SlS (eM k) 2 w A n c l) (hi:i < n):∃ g o b A' n' c',A=some ⟨g,o,none⟩∧l[i]?=some b∧w.cell? ⟨g,o+i * 2+1,none⟩=some (.slice A' n' c')∧SlS (dz k) 7 w A' n' c' b.pts:=by
 obtain ⟨g,o,b,e,hg,_,hbi,A',n',c',d0,d1,hM,_⟩:=h.at_ hi;exact ⟨g,o,b,A',n',c',e,hbi,d1,hM⟩
theorem ji (B:Nat) (w:World) (gr:Nat) (c1 c3 c4:Value) (A:Option Addr) (n c:Nat) (s:PS) (h:RdP B w gr c1 (.slice A n c) c3 c4 s) (hr:ay 51 (BdC 130) 2 w B (.slice A n c) n s.L.bodies) (hn:n≤100000) (hpt:∀ b∈s.L.bodies,b.pts.length≤100000) (only:Int):Calls Tryz.prog 107 #[.pointer (some ⟨gr,0,none⟩),.int .i64 only] w (qo B w gr c1 (.slice A n c) c3 c4 (.tuple #[.int .i64 (s.full only).1,.int .i64 (s.full only).2.1]) (s.full only).2.2):=by
 have HP:=Qh h;have HR:=Qh hr;have HPT:=Qh hpt;obtain ⟨W,hW⟩:∃ W,s.full only=W:=⟨_,rfl⟩;rw [hW];have HW:=Qh hW;clear h hr hW hpt;go_in;go_wp2_with fail;(with_reducible refine (o0 B _ gr c1 c3 c4 A n c s HP.out HR.out hn only).mono ?_);rintro e w1 ⟨rfl,h1,hg1⟩;have H1:=Qh h1;clear h1;go_wp2_with fail;(with_reducible refine (dH B _ gr c1 (.slice A n c) c3 c4 (s.named only).2 H1.out [46]).mono ?_);rintro e w2 ⟨rfl,h2,hg2⟩;have H2:=Qh h2;clear h2;go_wp2_with fail;(with_reducible refine (ct B _ gr c1 (.slice A n c) c3 c4 ((s.named only).2.expect 2 [46]) H2.out).mono ?_);rintro e w3 ⟨rfl,h3,hg3⟩;have G3:=aA (aA hg1 hg2) hg3;have HB:=Qh (HP.out.bodies HR.out G3);have hst:=(aI (s.named only).2 2 [46]).trans (aw ((s.named only).2.expect 2 [46]));have hLs:=((gI s only).trans hst).2.2.2;have hin:=vh s only;have hW:=HW.out;unfold PS.full at hW;simp only at hW;rw [hLs] at hW;have hxs:((s.named only).2.expect 2 [46]).word.2.x=0→(s.named only).2.x=0:=fun hx=>(hst.2.2.1 hx).1
 clear hst hLs HW H1 H2 hg1 hg2 hg3 HP HR;generalize ((s.named only).2.expect 2 [46]).word.2=s' at h3 hW hxs;generalize ((s.named only).2.expect 2 [46]).word.1=nm at hW ⊢;generalize (s.named only).1=b at hW hin ⊢;have H3:=Qh h3;obtain ⟨D,m,d,hb,_⟩:=h3.blk;obtain ⟨_,_,a2,_,_,a5⟩:=hb.c6;have hgl:=hb.lt;clear hb h3;by_cases hx:s'.x=0
 ·rw [if_neg (by simp [hx])] at hW
  rw [hx,bo] at a5;obtain ⟨ib,eb,hib⟩:=hin (hxs hx);subst eb;have HX:=Qh hx;have hl:s.L.bodies.length=n:=HB.out.1;obtain ⟨g,o,bd,A',n',c',e,hbi,d1,hM⟩:=RdP.body_at HB.out.bds (show ib < n by omega);subst e
  have hp:dy s.L (ib:Int)=bd.pts:=by
   unfold dy;rw [Int.toNat_natCast,hbi]
  rw [hp] at hW;have hi1:((ib:Int) < (n:Int))=True:=by simp;omega
  have hi2:(0:Int)≤(ib:Int):=by omega
  have hn':n'≤100000:=by rw [← hM.1];exact HPT.out bd (List.mem_of_getElem? hbi)
  have HW:=Qh hW;have HM:=Qh hM;clear hx hW hp hbi hM hxs hin hl;go_wp2_with fail;clear a2 a5 d1;go_loopw [32] (fun iv wr=>∃ i:Nat,iv=.int .i64 (i:Nat)∧i≤n'∧Hid (∀ a∈bd.pts.take i,a.name≠nm)∧Below w3.heap.size w3 wr) (fun iv _=>n' - (intOf iv).toNat)
  case atStart=>exact ⟨0,rfl,Nat.zero_le _,Qh (by simp),aa w3⟩
  case round =>
   obtain ⟨i,rfl,hi,HT,hb⟩:=hrel;rename World=>wr;rcases Nat.lt_or_ge i n' with hlt | hge
   ·have hj1:((i:Int) < (n':Int))=True:=by simp;omega
    obtain ⟨g2,o2,p,e,hg,_,hpi,hP⟩:=(HM.out.mk_ hb).at_ hlt;subst e;obtain ⟨d0,⟨bx,Ax,nx,cx,Dx,mx,ex,d1,d2,d3,_⟩,⟨by_,Ay,ny,cy,Dy,my,ey,d4,d5,d6,_⟩,_⟩:=hP;have htl:=aV p.name;have htn:=aV nm;have HPI:=Qh hpi;clear hpi;by_cases heq:p.name=nm
    ·have hf:kO bd.pts nm=some i:=rm (f:=au.name) HT.out HPI.out heq
     have hW:=HW.out;rw [hf] at hW;simp only at hW;subst hW;rw [heq] at d0 htl;have hee:(nm == nm)=true:=by simp
     have g1:=fh G3 hb;have R1:=Qh (H3.out.belw hb);clear HPI heq hf;go_wp2_with fail;refine bodyPost_ret (v:=.tuple #[.int .i64 (ib:Nat),.int .i64 (i:Nat)]) (by simp [results,Tryz.results107,go_sem, *] <;> trivial) rfl ?_;exact ⟨rfl,R1.out.alloc _,bi g1 _⟩
    have hee:(p.name == nm)=false:=beq_eq_false_iff_ne.2 heq;have HT2:=Qh (mm (p:=fun a:au=>a.name≠nm) HT.out HPI.out heq);clear heq HT HPI;go_wp2_with fail;go_roundw
    case rel=>exact ⟨i+1,by go_num,by omega,HT2,hb.alloc hb.size _⟩
    case measure=>simp [intOf];omega
   have hj1:((i:Int) < (n':Int))=False:=by simp;omega
   obtain rfl:i=n':=by omega
   have hl:bd.pts.length=i:=HM.out.1;have hf:kO bd.pts nm=none:=oZ (f:=au.name) fun a ha=>HT.out a (by rw [List.take_of_length_le (by omega)];exact ha)
   have hW:=HW.out;rw [hf] at hW;simp only at hW;have e2:s'.fail 5={ s' with x:=5 }:=if_pos HX.out;rw [e2] at hW;subst hW;have r1:=H3.out.belw hb;have g1:=fh G3 hb;have R1:=Qh r1;obtain ⟨D2,m2,d2,hbr,htr⟩:=r1.blk;have HBr:=Qh hbr;have HTr:=Qh htr;clear hbr htr r1 hf hl HT;go_wp2_with fail;(with_reducible refine (eF _ gr (.slice D2 m2 d2) c1 (.slice (some ⟨g,o,none⟩) n c) c3 c4 s'.x 5 HBr.out (by decide)).mono ?_);rintro e w5 ⟨rfl,hb2,g2⟩;rw [if_pos HX.out] at hb2;have R2:RdP B w5 gr c1 (.slice (some ⟨g,o,none⟩) n c) c3 c4 { s' with x:=5 }:=⟨⟨D2,m2,d2,hb2,HTr.out.rg R1.out.hB g2⟩,R1.out.mx.rg R1.out.hB g2,R1.out.hB,R1.out.len,R1.out.txt,R1.out.hw⟩;clear hb2;go_wp2_with fail;refine bodyPost_ret (v:=.tuple #[.int .i64 0,.int .i64 0]) (by simp [results,Tryz.results107,go_sem, *] <;> trivial) rfl ?_;exact ⟨rfl,R2,aA g1 g2⟩
 rw [if_pos (by simpa using hx)] at hW;subst hW;rw [eVp hx] at a5;clear hx;go_wp2_with fail;refine bodyPost_ret (v:=.tuple #[.int .i64 0,.int .i64 0]) (by simp [results,Tryz.results107,go_sem, *] <;> trivial) rfl ?_;exact ⟨rfl,H3.out,G3⟩
section
variable {P:Program}{ops:Array Oper}{Q:Exit→Act→World→Prop}{fr:(Nat→Value)→Act}{R:Nat→Value→World→Prop}{id:Nat}{w:World}{x0:Nat→Value}
theorem jj {L:Array Bool}{i:Nat}{o:Oper}(hlt:i < L.size) (ho:ops[i]?=some o) (hall:∀ e∈o.after,Region.binds .any e=true→L.getD e.on false=true)
 (hcl:∀ i o,ops[i]?=some o→L.getD i false=true→∀ e∈o.after,Region.binds .any e=true→L.getD e.on false=true) :
 ∀ i' o',ops[i']?=some o'→(L.setIfInBounds i true).getD i' false=true→∀ e∈o'.after,Region.binds .any e=true→(L.setIfInBounds i true).getD e.on false=true:=by
 intro i' o' ho' hl e he hbd;rw [ax hlt] at hl ⊢;by_cases h:i'=i
 ·subst h;rw [ho] at ho';injection ho' with ho';subst ho'
  rw [hall e he hbd];simp
 have:L.getD i' false=true:=by simpa [h] using hl
 rw [hcl i' o' ho' this e he hbd];simp
def vm (l:List Oper) (n:Nat):Bool:=(List.range n).all fun j=>(List.range (n+1)).any fun k=>decide (j < k) && match l[k]? with | some o=>o.after.any (fun e=>Region.binds .any e && e.on == j) | none=>false
theorem jl {l:List Oper}{n j:Nat}(h:vm l n=true) (hj:j < n):∃ k o,j < k∧k≤n∧(l.toArray)[k]?=some o∧∃ e∈o.after,Region.binds .any e=true∧e.on=j:=by
 unfold vm at h;rw [List.all_eq_true] at h;have h1:=h j (List.mem_range.2 hj);rw [List.any_eq_true] at h1;obtain ⟨k,hk,h2⟩:=h1;rw [Bool.and_eq_true,decide_eq_true_eq] at h2;obtain ⟨hjk,h2⟩:=h2
 cases hl:l[k]? with
 | none=>rw [hl] at h2;cases h2
 | some o =>
  rw [hl] at h2;obtain ⟨e,he,h3⟩:=Array.any_eq_true'.1 h2;rw [Bool.and_eq_true] at h3;exact ⟨k,o,hjk,by have:=List.mem_range.1 hk;omega,by simpa using hl,e,he,h3.1,by simpa using h3.2⟩
end
def Grw (p:Value→World→Prop):Prop:=∀ v w w',p v w→Below w.heap.size w w'→p v w'
def kV:List (Value→World→Prop)→Prop
  | []=>True
  | p :: l=>Grw p∧kV l
theorem kV.get:∀ (l:List (Value→World→Prop)),kV l→∀ i v w w',l.getD i (fun _ _=>True) v w→Below w.heap.size w w'→l.getD i (fun _ _=>True) v w':=by
 intro l
 induction l with
 | nil=>intro _ i v w w' _ _;simp
 | cons p l ih =>
  intro h i v w w' hp hk
  cases i with
  | zero=>exact h.1 v w w' hp hk
  | succ i=>exact ih h.2 i v w w' hp hk
theorem gEq (u:Value):Grw (PEq u):=fun _ _ _ h _=>h
theorem kW:Grw eK:=fun _ _ _ h _=>h
def BC (ops:Array Oper) (fr:(Nat→Value)→Act) (R:Nat→Value→Prop) (T:Nat→(Nat→Value)→World→Prop) (st:Nat→Option Nat) (K:Nat) (L:Array Bool) (a:Act) (w:World):Prop :=
  ∃ x k,a=fr x∧k≤K∧T k x w∧(∀ i j,st i=some j→(L.getD i false=true ↔ j < k))∧(∀ i,L.getD i false=true→R i (x i)) ∧
  (∀ i o,ops[i]?=some o→L.getD i false=true→∀ e∈o.after,Region.binds .any e=true→L.getD e.on false=true)
section
variable (P:Program) (ops:Array Oper) (Q:Exit→Act→World→Prop) (fr:(Nat→Value)→Act) (R:Nat→Value→Prop) (T:Nat→(Nat→Value)→World→Prop)
def o3 (i:Nat) (o:Oper):Prop :=
  ∀ k x wq,T k x wq→(∀ e∈o.after,Region.binds .any e=true→R e.on (x e.on))→∀ K':Act→World→Prop,Shut (∀ v,R i v→K' ((fr x).put o.dst v) wq) →
      if Region.wanted o (yielded ops (fr x).tmps)=true then Oper.wp P o (fr x) wq K' Q else K' ((fr x).put o.dst undef) wq
def mn (k:Nat) (i:Nat) (o:Oper):Prop :=
  ∀ x wq,T k x wq→(∀ e∈o.after,Region.binds .any e=true→R e.on (x e.on))→∀ K':Act→World→Prop,Shut (∀ v w',R i v→T (k+1) (upd x i v) w'→K' ((fr x).put o.dst v) w') →
      if Region.wanted o (yielded ops (fr x).tmps)=true then Oper.wp P o (fr x) wq K' Q else K' ((fr x).put o.dst undef) wq
end
section
variable {P:Program}{ops:Array Oper}{Q:Exit→Act→World→Prop}{fr:(Nat→Value)→Act}{R:Nat→Value→Prop}{T:Nat→(Nat→Value)→World→Prop}{st:Nat→Option Nat}{K:Nat}{id:Nat}{w:World}{x0:Nat→Value}
theorem j5 {n:Nat}(hm:P.follows .mixedOrders=true) (hn:ops.size=n+1)
 (hput:∀ i o,ops[i]?=some o→i < n→∀ x v,(fr x).put o.dst v=fr (upd x i v))
 (hac:∀ i o,ops[i]?=some o→∀ e∈o.after,Region.binds .any e=true→e.on < i)
 (hreach:∀ j,j < n→∃ k o,j < k∧k≤n∧ops[k]?=some o∧∃ e∈o.after,Region.binds .any e=true∧e.on=j)
 (hst:∀ i j,st i=some j→i < n∧j < K)
 (hinj:∀ i i' j,st i=some j→st i'=some j→i=i')
 (hall:∀ j,j < K→∃ i,st i=some j)
 (hchain:∀ i o j,ops[i]?=some o→st i=some (j+1)→∃ e∈o.after,Region.binds .any e=true∧st e.on=some j)
 (hT:∀ k x i v w,st i=none→T k x w→T k (upd x i v) w)
 (h0:T 0 x0 w.drew)
 (hpure:∀ i o,ops[i]?=some o→i < n→st i=none→o3 P ops Q fr R T i o)
 (hstage:∀ i o k,ops[i]?=some o→st i=some k→mn P ops Q fr R T k i o)
 (hlast:∀ o,ops[n]?=some o→∀ x wq,T K x wq→(∀ j,j < n→R j (x j))→∀ K':Act→World→Prop,Shut (∀ a' w',Q .normal a' w'→K' a' w') →
  if Region.wanted o (yielded ops (fr x).tmps)=true then Oper.wp P o (fr x) wq K' Q else K' ((fr x).put o.dst undef) wq) :
 (Code.region id ops true).wp P Q (fr x0) w:=by
 refine wp_region_any hm (jH (fun L a w'=>(L.getD n false=false∧BC ops fr R T st K L a w')∨((∀ i,i < ops.size→L.getD i false=true)∧Q .normal a w')) ?_ ?_ _ _ _ _ (by simp) ?_ ?_)
 ·rintro L a w1 i hs hi hcase
  obtain ⟨hun,o,ho,hall'⟩:=mem_ready.1 hi
  have hlt:i < L.size:=by
   rcases Nat.lt_or_ge i L.size with h | h
   ·exact h
   rw [Array.getD_eq_getD_getElem?,Array.getElem?_eq_none h] at hun;cases hun
  have hunf:L.getD i false=false:=by
   rw [Array.getD_eq_getD_getElem?,Array.getElem?_eq_getElem hlt] at hun ⊢;exact hun
  rcases hcase with ⟨hLn,x,k,rfl,hkK,hTk,hLk,hr,hcl⟩ | ⟨hdone,_⟩
  ·have hdep:∀ e∈o.after,Region.binds .any e=true→R e.on (x e.on):=fun e he hbd=>hr _ (hall' e he hbd)
   refine wpOp_step ho fun K' hK=>?_
   rcases Nat.lt_or_ge i n with hin | hin
   ·have hLn':(L.setIfInBounds i true).getD n false=false:=by
     rw [ax hlt,hLn];simp;omega
    have hr':∀ v,R i v→∀ j,(L.setIfInBounds i true).getD j false=true→R j (upd x i v j):=by
     intro v hv j hj;by_cases h:j=i
     ·subst h;rw [eX];exact hv
     rw [bm _ _ h];rw [ax hlt] at hj;exact hr j (by simpa [h] using hj)
    cases hsi:st i with
    | none =>
     refine hpure i o ho hin hsi k x w1 hTk hdep K' (fun v hRv=>hK _ _ (Or.inl ⟨hLn',upd x i v,k,hput i o ho hin x v,hkK,hT _ _ _ _ _ hsi hTk,fun i' j hj=>?_,hr' v hRv,jj hlt ho hall' hcl⟩));have hne:i'≠i:=by rintro rfl;rw [hsi] at hj;cases hj
     rw [ax hlt,← hLk i' j hj];simp [hne]
    | some j0 =>
     have hk:k=j0:=by
      have h1:¬ j0 < k:=fun h=>by
       have:=(hLk i j0 hsi).2 h;rw [hunf] at this;cases this
      cases j0 with
      | zero=>omega
      | succ j =>
       obtain ⟨e,he,hbd,hse⟩:=hchain i o j ho hsi;have:=(hLk e.on j hse).1 (hall' e he hbd);omega
     subst hk;refine hstage i o k ho hsi x w1 hTk hdep K' (fun v w' hRv hTv=>hK _ _ (Or.inl ⟨hLn',upd x i v,k+1,hput i o ho hin x v,(hst i k hsi).2,hTv,fun i' j hj=>?_,hr' v hRv,jj hlt ho hall' hcl⟩));rw [ax hlt];by_cases h:i'=i
     ·subst h
      rw [hsi] at hj;injection hj with hj;subst hj;simp
     have hjk:j≠k:=fun e=>h (hinj _ _ _ hj (by rw [e];exact hsi))
     rw [show (decide (i'=i) || L.getD i' false)=L.getD i' false by simp [h],hLk i' j hj];omega
   have e:i=n:=by omega
   subst e
   have hallj:∀ m j,j < i→i - j≤m→L.getD j false=true:=by
    intro m
    induction m with
    | zero=>intro j hj hm;omega
    | succ m ih =>
     intro j hj hm;obtain ⟨k,o',hjk,hk,ho',e,he,hbd,hea⟩:=hreach j hj;rcases Nat.lt_or_ge k i with h | h
     ·rw [← hea];exact hcl k o' ho' (ih k h (by omega)) e he hbd
     have e2:k=i:=by omega
     subst e2;rw [ho] at ho';injection ho' with ho';subst ho';rw [← hea];exact hall' e he hbd
   have hkk:k=K:=by
    rcases Nat.lt_or_ge k K with h | h
    ·obtain ⟨i',hi'⟩:=hall k h
     have:=(hLk i' k hi').1 (hallj (i - i') i' (hst i' k hi').1 Qr);omega
    omega
   subst hkk;refine hlast o ho x w1 hTk (fun j hj=>hr j (hallj (i - j) j hj Qr)) K' (fun a' w' hq=>hK _ _ (Or.inr ⟨fun j hj=>?_,hq⟩));rw [ax hlt];by_cases h:j=i
   ·simp [h]
   rw [hallj (i - j) j (by omega) Qr];simp
  have:=hdone i (by omega);rw [hunf] at this;cases this
 ·rintro L a w1 hs hr0 (⟨hLn,x,k,rfl,hkK,hTk,hLk,hr,hcl⟩ | ⟨_,hq⟩)
  ·have hallL:∀ i,i < ops.size→L.getD i false=true:=by
    intro i
    induction i using Nat.strongRecOn with
    | ind i ih =>
     intro hi;cases h:L.getD i false
     ·exfalso
      have:i∈Region.ready .any ops L:=by
       refine mem_ready.2 ⟨?_,ops[i],Array.getElem?_eq_getElem hi,fun e he hbd=>?_⟩
       ·rw [Array.getD_eq_getD_getElem?,Array.getElem?_eq_getElem (by omega)] at h ⊢;exact h
       have h1:=hac i _ (Array.getElem?_eq_getElem hi) e he hbd;exact ih e.on h1 (by omega)
      rw [hr0] at this;cases this
     rfl
   have:=hallL n (by omega);rw [hLn] at this;cases this
  exact hq
 ·simp
 ·have hz:∀ j,(Array.replicate ops.size false).getD j false=false:=by
   intro j;rw [Array.getD_eq_getD_getElem?,Array.getElem?_replicate];split <;> rfl
  refine Or.inl ⟨hz n,x0,0,rfl,Nat.zero_le _,h0,fun i j hj=>?_,fun i h=>?_,fun i o _ h=>?_⟩
  ·rw [hz];simp
  ·rw [hz] at h;cases h
  rw [hz] at h;cases h
end
def stg (a K i:Nat):Option Nat:=if a≤i∧i < a+K then some (i - a) else none
theorem fT {a K i j:Nat}(h:stg a K i=some j):i=a+j∧j < K:=by
 unfold stg at h;split at h
 ·injection h with h;omega
 cases h
theorem vn {a K j:Nat}(h:j < K):stg a K (a+j)=some j:=by
 unfold stg;rw [if_pos (by omega)];congr 1;omega
theorem o5 {a K i:Nat}(h:stg a K i=none):i < a∨a+K≤i:=by
 unfold stg at h;split at h
 ·cases h
 omega
section
variable {P:Program}{ops:Array Oper}{Q:Exit→Act→World→Prop}{fr:(Nat→Value)→Act}{R:Nat→Value→Prop}{T:Nat→(Nat→Value)→World→Prop}{K a:Nat}{id:Nat}{w:World}{x0:Nat→Value}
theorem dq {n:Nat}(hm:P.follows .mixedOrders=true) (hn:ops.size=n+1)
 (hput:∀ i o,ops[i]?=some o→i < n→∀ x v,(fr x).put o.dst v=fr (upd x i v))
 (hac:∀ i o,ops[i]?=some o→∀ e∈o.after,Region.binds .any e=true→e.on < i)
 (hreach:∀ j,j < n→∃ k o,j < k∧k≤n∧ops[k]?=some o∧∃ e∈o.after,Region.binds .any e=true∧e.on=j)
 (haK:a+K≤n)
 (hchain:∀ j o,j+1 < K→ops[a+(j+1)]?=some o→∃ e∈o.after,Region.binds .any e=true∧e.on=a+j)
 (hT:∀ k x i v w,i < a∨a+K≤i→T k x w→T k (upd x i v) w)
 (h0:T 0 x0 w.drew)
 (hpure:∀ i o,ops[i]?=some o→i < n→i < a∨a+K≤i→o3 P ops Q fr R T i o)
 (hstage:∀ k o,k < K→ops[a+k]?=some o→mn P ops Q fr R T k (a+k) o)
 (hlast:∀ o,ops[n]?=some o→∀ x wq,T K x wq→(∀ j,j < n→R j (x j))→∀ K':Act→World→Prop,Shut (∀ a' w',Q .normal a' w'→K' a' w') →
  if Region.wanted o (yielded ops (fr x).tmps)=true then Oper.wp P o (fr x) wq K' Q else K' ((fr x).put o.dst undef) wq) :
 (Code.region id ops true).wp P Q (fr x0) w :=
 j5 (R:=R) (T:=T) (st:=stg a K) (K:=K) hm hn hput hac hreach
  (fun i j h=>by obtain ⟨h1,h2⟩:=fT h;omega)
  (fun i i' j h h'=>by obtain ⟨h1,_⟩:=fT h;obtain ⟨h2,_⟩:=fT h';omega)
  (fun j h=>⟨a+j,vn h⟩)
  (fun i o j ho h=>by
   obtain ⟨rfl,h2⟩:=fT h;obtain ⟨e,he,hb,hon⟩:=hchain j o h2 ho
   exact ⟨e,he,hb,by rw [hon];exact vn (by omega)⟩)
  (fun k x i v w h=>hT k x i v w (o5 h)) h0
  (fun i o ho hi h=>hpure i o ho hi (o5 h))
  (fun i o k ho h=>by obtain ⟨rfl,h2⟩:=fT h;exact hstage k o h2 ho) hlast
end
def stl (sl:List Nat) (i:Nat):Option Nat:=sl.findIdx? (· == i)
theorem fU {sl:List Nat}{i j:Nat}(h:stl sl i=some j):sl[j]?=some i:=by
 unfold stl at h;rw [List.findIdx?_eq_some_iff_getElem] at h;obtain ⟨hj,h1,_⟩:=h;rw [List.getElem?_eq_getElem hj];rw [beq_iff_eq] at h1;rw [h1]
theorem vo {sl:List Nat}{i:Nat}(h:stl sl i=none):i ∉ sl:=by
 unfold stl at h;rw [List.findIdx?_eq_none_iff] at h;intro hm;have:=h i hm;simp at this
theorem ii {sl:List Nat}{i j:Nat}(h:sl[j]?=some i):j < sl.length:=(List.getElem?_eq_some_iff.1 h).1
section
variable {P:Program}{ops:Array Oper}{Q:Exit→Act→World→Prop}{fr:(Nat→Value)→Act}{R:Nat→Value→Prop}{T:Nat→(Nat→Value)→World→Prop}{id:Nat}{w:World}{x0:Nat→Value}
end
def VE (u:Value):Value→Prop:=fun v=>v=u
def VA:Value→Prop:=fun _=>True
end Go.Proofs.YtndhgcfajlalhaaGreatDoor
