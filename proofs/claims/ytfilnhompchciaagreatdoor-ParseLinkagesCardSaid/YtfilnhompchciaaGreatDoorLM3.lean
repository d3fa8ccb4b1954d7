/- Part LM3: lemmas and walks that the claim rests on. No claim is made here. -/
import Derived.Deep.RegionHeld3
import Derived.Deep.DrawnRows
import Derived.Lib.AppendIntMem
import Derived.Laws.OwnMore
import Derived.Deep.AppendLies
import Derived.Shelf.Strings.SlTrimAscii
import Derived.WalkSpells
import Derived.BigQuiet
import Derived.Deep.DeepCutAuto
import Derived.Lib.IndexMore
import Derived.Test.YtfilnhompchciaaGreatDoorLM2
set_option linter.unusedVariables false
set_option maxHeartbeats 8000000
set_option maxRecDepth 100000
/- Walks: the reference's number of bits. -/
namespace Go.Proofs.YtfilnhompchciaaGreatDoor
open Go Go.RowKit Bn
attribute [local go_sem ↓] Go.wp_at_zero Go.wp_at_succ

theorem vj {l:List Nat}(h:Wds l) (h0:0 < l.length) {t:Nat}(ht:wd l (l.length - 1) < 2 ^ t):val l < 2 ^ (32 * (l.length - 1)+t):=by
 have e:=aX l Qr;obtain ⟨m,hm⟩:∃ m,l.length=m+1:=⟨l.length - 1,by omega⟩;rw [hm] at e ht ⊢;simp only [Nat.add_sub_cancel] at ht ⊢;rw [Sm] at e;have h1:Sm (wd l) m < 4294967296 ^ m:=fj (fun i _=>bH h i);have h2:(4294967296:Nat) ^ m=2 ^ (32 * m):=by rw [Nat.pow_mul]
 rw [h2] at h1 e;rw [Nat.pow_add,← e];have h3:(wd l m+1) * 2 ^ (32 * m)≤2 ^ t * 2 ^ (32 * m):=Nat.mul_le_mul_right _ ht;rw [Nat.add_mul] at h3;rw [Nat.mul_comm (2 ^ (32 * m)) (2 ^ t)];omega
def Bv (w:World) (v n:Nat) (e:Ending) (w':World):Prop:=∃ N:Nat,e=.returned (.int .i64 (N:Nat))∧v < 2 ^ N∧N≤32 * n∧w=w'
theorem vk (w:World) (A n c l) (wa:Wd w A n c l) (hn:n≤1099511627776) :
 Calls Tryz.prog 259 #[.slice A n c] w (Bv w (val l) n):=by
 have HL:=Qh wa.2.1;by_cases h0:n=0
 ·subst h0
  have HE:=Qh (show val l=0 by rw [List.eq_nil_of_length_eq_zero HL.out.symm];rfl);clear wa;go_in;go_wp2;go_ret;exact ⟨0,rfl,by rw [HE.out];decide,by omega,rfl⟩
 obtain ⟨g,o,rfl,hgl,hc⟩:=wa.at2 (by omega);have hck:=hc (n - 1) (by omega);have hlt:=wa.lt (n - 1);have hp:0 < n:=by omega
 have HW:=Qh wa.1;obtain ⟨x0,hx0⟩:∃ x,wd l (n - 1)=x:=⟨_,rfl⟩;rw [hx0] at hck hlt;have HX:=Qh hx0;clear hc h0 hx0 wa;have hn0:((n:Int) == 0)=false:=by simp;omega
 go_in;go_wp2_with fail;go_loop [3,4] (fun nv xv=>∃ (t x:Nat),t≤32∧nv=.int .i64 ((32 * (n - 1)+t:Nat):Int)∧xv=.int .u32 (x:Nat)∧x < 4294967296∧x=x0 / 2 ^ t) (fun _ xv=>(intOf xv).toNat)
 case atStart=>exact ⟨0,x0,by omega,by congr 1;omega,rfl,hlt,by simp⟩
 case round =>
  obtain ⟨t,x,ht,rfl,rfl,hx,he⟩:=hrel;have HE:=Qh he;clear he;by_cases hz:x=0
  ·subst hz
   go_wp2;go_ret;refine ⟨32 * (n - 1)+t,rfl,?_,by omega,rfl⟩
   have h1:x0 < 2 ^ t:=by
    have:=HE.out;rcases Nat.lt_or_ge x0 (2 ^ t) with h | h
    ·exact h
    have:=Nat.div_pos h (Nat.pow_pos (by omega));omega
   have:=vj HW.out (by rw [← HL.out];exact hp) (t:=t) (by rw [← HL.out,HX.out];exact h1);rwa [← HL.out] at this
  ·have ht2:t < 32:=by
    rcases Nat.lt_or_ge t 32 with h | h
    ·exact h
    exfalso;have e:t=32:=by omega
    have:=HE.out;rw [e] at this;have:x=0:=by rw [this];exact Nat.div_eq_of_lt hlt
    omega
   have hxp:0 < x:=by omega
   go_wp2;go_round
   case rel=>exact ⟨t+1,x / 2,by omega,by congr 1 <;> omega,by congr 1 <;> omega,by omega,by rw [HE.out,Nat.pow_succ,Nat.div_div_eq_div_mul]⟩
   case measure=>simp [intOf];omega

def jF (w:World) (v:Value) (z:Int) (k:Nat) (e:Ending) (w':World):Prop:=∃ b A n c,e=.returned (.tuple #[.agg #[.bool b,.slice A n c],v])∧IV w' b A n c z k∧Below w.heap.size w w'

def Tab (w : World) : Prop := Lib.TabIs Tryz.prog w "internal/strconv.uint64pow10" .u64 Lib.pow10Tab
theorem Tab.belw {w w':World}(h:Tab w) (hb:Below w.heap.size w w'):Tab w':=Lib.tabBelow_of_tabIs h w' hb
abbrev ae (l:List UInt8):Value:=.string ⟨l.toArray⟩
def strs (ps:List (List UInt8)):List Value:=ps.map ae
def qG (w:World) (p:Value) (ps:List (List UInt8)):Prop:=(ps=[]∧p=.slice none 0 0)∨(ps≠[]∧∃ g cap,p=.slice (some ⟨g,0,none⟩) ps.length cap∧g < w.heap.size∧ps.length≤cap∧∀ j,j < ps.length→w.cell? ⟨g,j,none⟩=(strs ps)[j]?)
theorem qG.belw {w w':World}{p:Value}{ps:List (List UInt8)}(h:qG w p ps) (hb:Below w.heap.size w w'):qG w' p ps:=by
 rcases h with h | ⟨h0,g,cap,h1,h2,h3,h4⟩
 ·exact .inl h
 refine .inr ⟨h0,g,cap,h1,Nat.lt_of_lt_of_le h2 hb.size,h3,fun j hj=>?_⟩;rw [← h4 j hj];simp only [World.cell?,hb.block g h2]
theorem qG.one (w:World) (S:List UInt8):qG (w.alloc (.cells #[ae S] 9)) (.slice (some ⟨w.heap.size,0,none⟩) 1 1) [S]:=by
 refine .inr ⟨by simp,_,_,rfl,by simp,Qr,fun j hj=>?_⟩;rw [World.cell?_alloc_new];have:j=0:=by simpa using hj
 subst this;rfl
theorem qG.own {w:World}{base g cap:Nat}{S:List UInt8}{ps:List (List UInt8)}(h:w.ownsRow base 9 1 (.slice (some ⟨g,0,none⟩) (1+ps.length) cap) (1+ps.length) ([ae S] ++ strs ps)) (hg:g < w.heap.size) :
 qG w (.slice (some ⟨g,0,none⟩) (1+ps.length) cap) (S :: ps):=by
 refine .inr ⟨by simp,g,cap,by rw [List.length_cons,Nat.add_comm],hg,?_,fun j hj=>?_⟩
 ·rcases h.2 with ⟨e,_⟩ | ⟨g',c',cur,e,_,_,hc,_⟩
  ·exact absurd e (by simp)
  injection e with _ _ e2;rw [List.length_cons];omega
 rw [h.cellAt j (by rw [List.length_cons] at hj;omega)];rfl

theorem az (l:List UInt8):(⟨l.toArray⟩:ByteArray).toList=l:=by rw [Lib.toList_data]
theorem bX (l:List UInt8):(⟨l.toArray⟩:ByteArray).size=l.length:=rfl
theorem fQ (l:List UInt8) (a b:Nat):(⟨l.toArray⟩:ByteArray).extract a b=⟨((l.drop a).take (b - a)).toArray⟩:=by
 apply ByteArray.ext;rw [ByteArray.data_extract];simp
theorem bJ (w:World) (l:List UInt8) (m:Bool) (hm:cG l=m):Calls Tryz.prog 105 #[ae l,.string ⟨#[45]⟩] w (av w (.bool m)):=by
 subst hm;refine (Tryz.strings_HasPrefix ⟨l.toArray⟩ ⟨#[45]⟩ w).mono fun e w' ⟨he,hw⟩=>⟨?_,hw ▸ aa _⟩
 rw [he];exact congrArg (fun x=>Ending.returned (.bool x)) (gN l)
theorem ng (w:World) (l t:List UInt8) (ht:bR l=t):Calls Tryz.prog 223 #[ae l,.string ⟨#[45]⟩] w (av w (ae t)):=by
 subst ht;refine (Tryz.strings_TrimPrefix ⟨l.toArray⟩ ⟨#[45]⟩ w).mono fun e w' ⟨he,hw⟩=>⟨?_,hw ▸ aa _⟩
 rw [he];exact congrArg (fun x:List UInt8=>Ending.returned (ae x)) (jE l)
theorem vl (w:World) (t x:List UInt8) (hn:t.length≤1000000) (hx:Lib.trimS t lu=x):Calls Tryz.prog 91 #[ae t,.string ⟨#[48,49,50,51,52,53,54,55,56,57]⟩] w (av w (ae x)):=by
 subst hx;exact Any.strings_Trim_laid Tryz.lays160 (by kernel_rfl) ⟨t.toArray⟩ ⟨#[48,49,50,51,52,53,54,55,56,57]⟩ w (by show t.length≤_;omega) (by decide) (ascii_of_all (by decide))
theorem vm (w:World) (t:List UInt8) (x:Nat) (hn:t.length≤9) (h0:t≠[]) (ha:t.all aK=true) (hx:aj t=x):Calls Tryz.prog 90 #[ae t] w (av w (.tuple #[.int .i64 (x:Nat),.nilIface])):=by
 subst hx;refine (Tryz.strconv_Atoi ⟨t.toArray⟩ (aj t:Nat) (by show t.length≤18;omega) (vf ha h0) w).mono fun e w' ⟨he,t,hw⟩=>⟨he,?_⟩
 rw [hw];exact ⟨rfl,rfl,rfl,by rw [Lib.bytesWorld_size];omega,fun j hj=>Lib.bytesWorld_at_old _ _ _ j hj⟩
def vn (T:List UInt8) (W0 wr:World) (tv mv:Value):Prop:=∃ pre rest A1 n1 c1,tv=ae rest∧mv=.slice A1 n1 c1∧n1≤65536∧rest.length≤65536∧yY (mz T pre rest∧pre.all aK=true∧rest.all aK=true∧Wd wr A1 n1 c1 (ap (aj pre)))∧Below W0.heap.size W0 wr
def vo:Value→Nat
  | .string s=>s.size
  | _=>0
theorem vp (w:World) (A:Option Addr) (n c x:Nat) (wa:Wd w A n c (ap x)) (hn:n≤1099511627776) (A':Option Addr) (n' c' y:Nat) (wb:Wd w A' n' c' (ap y)) (hn':n'≤1099511627776) :
 Calls Tryz.prog 224 #[.slice A n c,.slice A' n' c'] w (fw w (ap (x+y))):=by
 have:=ur w A n c (ap x) wa hn A' n' c' (ap y) wb hn';rw [ag,ag] at this;exact this
theorem rO (w:World) (A:Option Addr) (n c x:Nat) (wa:Wd w A n c (ap x)) (hn:n≤1099511627776) (g:Nat) (z:Int) (y:Nat) (hz:z=y) (hy:y < 4294967296) (hb:Blk w g 58 #[.int .u32 z]) :
 Calls Tryz.prog 225 #[.slice A n c,.slice (some ⟨g,0,none⟩) 1 1] w (fw w (ap (x * y))):=by
 subst hz;have h1:Wd w (some ⟨g,0,none⟩) 1 1 [y]:=Blk.wdN (l:=[y]) hb (by intro x hx;simp at hx;omega) rfl;have:=rD w A n c (ap x) wa hn (some ⟨g,0,none⟩) 1 1 [y] h1 (by omega);rw [ag,show val [y]=y by simp [val]] at this;exact this
theorem vr (w:World) (g:Nat) (z:Int) (y:Nat) (hz:z=y) (hy:y < 4294967296) (hb:Blk w g 58 #[.int .u32 z]) :
 Calls Tryz.prog 226 #[.slice (some ⟨g,0,none⟩) 1 1] w (fw w (ap y)):=by
 subst hz;have h1:Wd w (some ⟨g,0,none⟩) 1 1 [y]:=Blk.wdN (l:=[y]) hb (by intro x hx;simp at hx;omega) rfl;have:=fz w (some ⟨g,0,none⟩) 1 1 [y] h1 (by omega);rw [show val [y]=y by simp [val]] at this;exact this
theorem qH (w:World) (l:List UInt8) (hl:l.length≤65536) (hb:okZ l=true) :
 Calls Tryz.prog 188 #[ae l] w (jF w .nilIface (fc l) l.length):=by
 have hsz:=bX l;have htl2:=tm l;have htl:=Nat.le_trans htl2 hl;obtain ⟨m,hm⟩:∃ m,cG l=m:=⟨_,rfl⟩;obtain ⟨t,ht⟩:∃ t,bR l=t:=⟨_,rfl⟩;obtain ⟨h0,h1,h2⟩:=tp hb;have hv:fc l=if m then -(aj t:Int) else aj t:=by unfold fc;rw [hm,ht]
 rw [hm,ht] at h2;rw [ht] at htl htl2 h0 h1;have HM:=Qh (And.intro hm ht);have HV:=Qh hv;have b0:Below w.heap.size w (w.alloc (.cells #[.bool false,.slice none 0 0] 194)):=(aa w).alloc Qr _;have x0:Blk (w.alloc (.cells #[.bool false,.slice none 0 0] 194)) w.heap.size 194 #[.bool false,.slice none 0 0]:=ah _ _ _ rfl;clear hb hm ht hv;obtain ⟨c,r,rfl⟩:=List.exists_cons_of_ne_nil h0;have htl0:=az (c :: r);have htl1:=az [];have hsz0:=bX (c :: r);have HX:=Qh (xA.2 h1);have HTL:=Qh (show (c :: r:List UInt8).length≤1000000 by omega);have HALL:=Qh h1
 have hcase:c≠48∨(c=48∧r=[]∧m=false):=by
  by_cases hc:c=48
  ·refine .inr ⟨hc,?_,?_⟩
   ·cases r with
    | nil=>rfl
    | cons d rs=>exact absurd ⟨by rw [hc];rfl,.inl (by simp)⟩ h2
   cases m with
   | false=>rfl
   | true=>exact absurd ⟨by rw [hc];rfl,.inr rfl⟩ h2
  exact .inl hc
 have HLL:=Qh htl
 have HSZ:=Qh (show (fc l).natAbs < 4294967296 ^ l.length by
  rw [HV.out]
  refine Nat.lt_of_lt_of_le (show (if m=true then -(aj (c :: r):Int) else (aj (c :: r):Int)).natAbs < 4294967296 ^ (c :: r).length by
   have:=oi h1
   split <;> omega) (Nat.pow_le_pow_right (by omega) htl2))
 clear h0 h1 h2;rcases hcase with hc | ⟨rfl,rfl,rfl⟩
 ·have hcn:c.toNat≠48:=fun e=>hc (UInt8.toNat.inj e)
  have hcz:¬ (c.toNat:Int)=48:=by omega
  have hcb:((c.toNat:Int) == 48)=false:=by simp;omega
  have hget:∀ h,(⟨(c :: r).toArray⟩:ByteArray)[0]'h=c:=fun h=>rfl
  go_in
  go_wp2_with (first
   | (go_at_call 105;(with_reducible refine (bJ _ l _ HM.out.1).mono ?_);rintro e w1 ⟨rfl,hb1⟩;have b1:=b0.trans (hb1.mono b0.size);have x1:=x0.below hb1 x0.lt)
   | (go_at_call 223;(with_reducible refine (ng _ l _ HM.out.2).mono ?_);rintro e w2 ⟨rfl,hb2⟩;have b2:=b1.trans (hb2.mono b1.size);have x2:=x1.below hb2 x1.lt)
   | (go_at_call 91;(with_reducible refine (vl _ _ [] ?_ HX.out).mono ?_);(exact HTL.out);rintro e w3 ⟨rfl,hb3⟩;have b3:=b2.trans (hb3.mono b2.size);have x3:=x2.below hb3 x2.lt))
  clear hget hcz hcb hcn hc htl0 htl1 hsz0;go_loopw [5,6] (fun tv mv wr=>vn (c :: r) w3 wr tv mv) (fun tv _ _=>vo tv)
  case atStart=>exact ⟨[],(c :: r),none,0,0,rfl,rfl,by omega,HLL.out,⟨mz.start _,rfl,HALL.out,by rw [show aj []=0 from rfl,aB];exact Wd.nil_ _⟩,aa _⟩
  case round =>
   obtain ⟨pre,rest,A1,n1,c1,rfl,rfl,hn1,hrl,hK,rr⟩:=hrel;have bw:=b3.trans (rr.mono b3.size);have x4:=x3.below rr x3.lt;by_cases hr0:rest=[]
   ·subst hr0
    have hpre:=hK.1.fin;subst hpre;have hsz1:=bX [];go_wp2_with (go_at_call 197;(with_reducible refine (nS _ m A1 n1 c1 (ap (aj (c :: r))) ?_ ?_).mono ?_);(exact hK.2.2.2);omega;rintro e w5 ⟨A5,n5,c5,rfl,h5,hb5⟩;have b5:=bw.trans (hb5.mono bw.size);have x5:=x4.below hb5 x4.lt;obtain ⟨d0,d1⟩:=x5.c2;obtain ⟨f0,f1⟩:=x5.f2);rw [ag] at h5;have hz:sgn m (aj (c :: r))=fc l:=by rw [HV.out];rfl
    rw [hz] at h5;refine bodyPost_ret (v:=.tuple #[.agg #[.bool _,.slice A5 n5 c5],.nilIface]) (by simp [results,Tryz.results188,go_sem, *] <;> trivial) rfl ?_;exact ⟨_,_,_,_,rfl,IV.mk_ (h5.keep (kp2 x5.box (by decide) _ _ _ _)) (by rw [ag,hz]) HSZ.out,(b5.setCell (by dsimp only;omega) _).setCell (by dsimp only;omega) _⟩
   have hlp:0 < rest.length:=List.length_pos_iff.2 hr0;obtain ⟨L,hL⟩:∃ L,rest.length=L:=⟨_,rfl⟩;obtain ⟨k,hk⟩:∃ k,(L - 1) % 9=k:=⟨_,rfl⟩;have hk9:k < 9:=by rw [← hk];exact Nat.mod_lt _ (by omega)
   have hst:=hK.1.step (n:=k+1) hlp (by rw [hL,hk]);rw [hL] at hst hlp hrl;have hkL:=hst.1;have hsz1:(⟨rest.toArray⟩:ByteArray).size=L:=hL;have e1:((L:Int) - 1) % 9=(k:Int):=by omega
   have e2:(⟨rest.toArray⟩:ByteArray).extract 0 (k+1)=⟨(rest.take (k+1)).toArray⟩:=by rw [fQ];simp
   have e3:(⟨rest.toArray⟩:ByteArray).extract (k+1) L=⟨(rest.drop (k+1)).toArray⟩:=by rw [fQ,List.take_of_length_le];rw [List.length_drop,hL];exact Qr
   obtain ⟨x,hx⟩:∃ x,aj (rest.take (k+1))=x:=⟨_,rfl⟩;have htk:=py hK.2.2.1 (k+1)
   have hx9:x < 1000000000:=by
    have h9:=eS htk;rw [hx] at h9;refine Nat.lt_of_lt_of_le h9 (Nat.le_trans (Nat.pow_le_pow_right (by omega) (show (rest.take (k+1)).length≤9 by rw [List.length_take];omega)) (by decide))
   have hpd:=pz hK.2.2.1 (k+1);have HST:=Qh hst;have HXX:=Qh hx;have HTK:=Qh htk;have HLR:=Qh hL;have hnd:(rest.drop (k+1)).length=L - (k+1):=by rw [List.length_drop,hL]
   have HND:=Qh hnd;have hT1:(rest.take (k+1)).length≤9:=by rw [List.length_take];omega
   have hT0:rest.take (k+1)≠[]:=fun e=>by have:=congrArg List.length e;rw [List.length_take,hL] at this;simp at this;omega
   have HT1:=Qh (And.intro hT1 hT0);have hpl:=eS (show (pre ++ rest.take (k+1)).all aK=true by rw [List.all_append,hK.2.1,htk];rfl);clear hk hst hx htk hL hr0 hnd hT1 hT0
   go_wp2_with (first
    | (go_at_call 90;(with_reducible refine (vm _ (rest.take (k+1)) x ?_ ?_ ?_ HXX.out).mono ?_);(exact HT1.out.1);(exact HT1.out.2);(exact HTK.out);rintro e w5 ⟨rfl,hb5⟩;have b5:Below wr.heap.size wr (w5.alloc (.cells #[.int .u32 1000000000] 58)):=hb5.alloc hb5.size _;have y5:Blk (w5.alloc (.cells #[.int .u32 1000000000] 58)) w5.heap.size 58 #[.int .u32 1000000000]:=ah _ _ _ rfl)
    | (go_at_call 225;(with_reducible refine (rO _ A1 n1 c1 (aj pre) ?_ ?_ w5.heap.size 1000000000 1000000000 ?_ ?_ ?_).mono ?_);(exact hK.2.2.2.belw b5);omega;rfl;omega;(exact y5);rintro e w6 ⟨A6,n6,c6,rfl,h6,hb6⟩;have b6:=b5.trans (hb6.mono b5.size);have hn6:n6≤1000000000:=(by have h9:=h6.2.1;rw [h9];refine Nat.le_trans (aA (k:=n1+1) ?_) (by omega);have h8:=(hK.2.2.2).vlt Qr;rw [ag] at h8;rw [Nat.pow_succ];exact Nat.mul_lt_mul'' h8 (by omega)))
    | (go_at_call 226;(with_reducible refine (vr _ w6.heap.size (x:Int) x ?_ ?_ ?_).mono ?_);(first | rfl | omega);omega;(exact ah _ _ _ rfl);rintro e w7 ⟨A7,n7,c7,rfl,h7,hb7⟩;have b7:Below wr.heap.size wr w7:=(b6.alloc b6.size _).trans (hb7.mono (by have:=b6.size;simp;omega));have h67:Below w6.heap.size w6 w7:=((aa w6).alloc Qr _).trans (hb7.mono (by simp));have hn7:n7≤1000000000:=(by have h9:=h7.2.1;rw [h9];exact Nat.le_trans (aA (k:=1) (by omega)) (by omega)))
    | (go_at_call 224;(with_reducible refine (vp _ A6 n6 c6 (aj pre * 1000000000) ?_ ?_ A7 n7 c7 x ?_ ?_).mono ?_);(exact h6.belw h67);omega;(exact h7);omega;rintro e w8 ⟨A8,n8,c8,rfl,h8,hb8⟩;have b8:=b7.trans (hb8.mono b7.size)))
   have hv8:aj pre * 1000000000+x=aj (pre ++ rest.take (k+1)):=by rw [HST.out.2.2.2.2,HXX.out]
   go_roundw
   case rel =>
    refine ⟨pre ++ rest.take (k+1),rest.drop (k+1),A8,n8,c8,rfl,rfl,?_,by rw [HND.out];omega,⟨HST.out.2.2.2.1,by rw [List.all_append,hK.2.1,HTK.out];rfl,hpd,by rw [← hv8];exact h8⟩,rr.trans (b8.mono rr.size)⟩;rw [h8.2.1,hv8];refine Nat.le_trans (aA (Nat.lt_of_lt_of_le hpl (oh _))) ?_;have h9:=congrArg List.length HST.out.2.2.2.1.1;rw [List.length_append] at h9;omega
   case measure =>
    show (rest.drop (k+1)).length < rest.length;rw [HND.out,HLR.out];omega
 go_in
 go_wp2_with (first
  | (go_at_call 105;(with_reducible refine (bJ _ l _ HM.out.1).mono ?_);rintro e w1 ⟨rfl,hb1⟩;have b1:=b0.trans (hb1.mono b0.size);have x1:=x0.below hb1 x0.lt)
  | (go_at_call 223;(with_reducible refine (ng _ l _ HM.out.2).mono ?_);rintro e w2 ⟨rfl,hb2⟩;have b2:=b1.trans (hb2.mono b1.size);have x2:=x1.below hb2 x1.lt)
  | (go_at_call 91;(with_reducible refine (vl _ _ [] ?_ HX.out).mono ?_);(exact HTL.out);rintro e w3 ⟨rfl,hb3⟩;have b3:=b2.trans (hb3.mono b2.size);have x3:=x2.below hb3 x2.lt))
 clear htl0 htl1;go_loopw [5,6] (fun tv mv wr=>vn [48] w3 wr tv mv) (fun tv _ _=>vo tv)
 case atStart=>exact ⟨[],[48],none,0,0,rfl,rfl,by omega,HLL.out,⟨mz.start _,rfl,HALL.out,by rw [show aj []=0 from rfl,aB];exact Wd.nil_ _⟩,aa _⟩
 case round =>
  obtain ⟨pre,rest,A1,n1,c1,rfl,rfl,hn1,hrl,hK,rr⟩:=hrel;have bw:=b3.trans (rr.mono b3.size);have x4:=x3.below rr x3.lt;by_cases hr0:rest=[]
  ·subst hr0
   have hpre:=hK.1.fin;subst hpre;have hsz1:=bX [];go_wp2_with (go_at_call 197;(with_reducible refine (nS _ false A1 n1 c1 (ap (aj [48])) ?_ ?_).mono ?_);(exact hK.2.2.2);omega;rintro e w5 ⟨A5,n5,c5,rfl,h5,hb5⟩;have b5:=bw.trans (hb5.mono bw.size);have x5:=x4.below hb5 x4.lt;obtain ⟨d0,d1⟩:=x5.c2;obtain ⟨f0,f1⟩:=x5.f2);rw [ag] at h5;have hz:sgn false (aj [48])=fc l:=by rw [HV.out];rfl
   rw [hz] at h5;refine bodyPost_ret (v:=.tuple #[.agg #[.bool _,.slice A5 n5 c5],.nilIface]) (by simp [results,Tryz.results188,go_sem, *] <;> trivial) rfl ?_;exact ⟨_,_,_,_,rfl,IV.mk_ (h5.keep (kp2 x5.box (by decide) _ _ _ _)) (by rw [ag,hz]) HSZ.out,(b5.setCell (by dsimp only;omega) _).setCell (by dsimp only;omega) _⟩
  have hlp:0 < rest.length:=List.length_pos_iff.2 hr0;obtain ⟨L,hL⟩:∃ L,rest.length=L:=⟨_,rfl⟩;obtain ⟨k,hk⟩:∃ k,(L - 1) % 9=k:=⟨_,rfl⟩;have hk9:k < 9:=by rw [← hk];exact Nat.mod_lt _ (by omega)
  have hst:=hK.1.step (n:=k+1) hlp (by rw [hL,hk]);rw [hL] at hst hlp hrl;have hkL:=hst.1;have hsz1:(⟨rest.toArray⟩:ByteArray).size=L:=hL;have e1:((L:Int) - 1) % 9=(k:Int):=by omega
  have e2:(⟨rest.toArray⟩:ByteArray).extract 0 (k+1)=⟨(rest.take (k+1)).toArray⟩:=by rw [fQ];simp
  have e3:(⟨rest.toArray⟩:ByteArray).extract (k+1) L=⟨(rest.drop (k+1)).toArray⟩:=by rw [fQ,List.take_of_length_le];rw [List.length_drop,hL];exact Qr
  obtain ⟨x,hx⟩:∃ x,aj (rest.take (k+1))=x:=⟨_,rfl⟩;have htk:=py hK.2.2.1 (k+1)
  have hx9:x < 1000000000:=by
   have h9:=eS htk;rw [hx] at h9;refine Nat.lt_of_lt_of_le h9 (Nat.le_trans (Nat.pow_le_pow_right (by omega) (show (rest.take (k+1)).length≤9 by rw [List.length_take];omega)) (by decide))
  have hpd:=pz hK.2.2.1 (k+1);have HST:=Qh hst;have HXX:=Qh hx;have HTK:=Qh htk;have HLR:=Qh hL;have hnd:(rest.drop (k+1)).length=L - (k+1):=by rw [List.length_drop,hL]
  have HND:=Qh hnd;have hT1:(rest.take (k+1)).length≤9:=by rw [List.length_take];omega
  have hT0:rest.take (k+1)≠[]:=fun e=>by have:=congrArg List.length e;rw [List.length_take,hL] at this;simp at this;omega
  have HT1:=Qh (And.intro hT1 hT0);have hpl:=eS (show (pre ++ rest.take (k+1)).all aK=true by rw [List.all_append,hK.2.1,htk];rfl);clear hk hst hx htk hL hr0 hnd hT1 hT0
  go_wp2_with (first
   | (go_at_call 90;(with_reducible refine (vm _ (rest.take (k+1)) x ?_ ?_ ?_ HXX.out).mono ?_);(exact HT1.out.1);(exact HT1.out.2);(exact HTK.out);rintro e w5 ⟨rfl,hb5⟩;have b5:Below wr.heap.size wr (w5.alloc (.cells #[.int .u32 1000000000] 58)):=hb5.alloc hb5.size _;have y5:Blk (w5.alloc (.cells #[.int .u32 1000000000] 58)) w5.heap.size 58 #[.int .u32 1000000000]:=ah _ _ _ rfl)
   | (go_at_call 225;(with_reducible refine (rO _ A1 n1 c1 (aj pre) ?_ ?_ w5.heap.size 1000000000 1000000000 ?_ ?_ ?_).mono ?_);(exact hK.2.2.2.belw b5);omega;rfl;omega;(exact y5);rintro e w6 ⟨A6,n6,c6,rfl,h6,hb6⟩;have b6:=b5.trans (hb6.mono b5.size);have hn6:n6≤1000000000:=(by have h9:=h6.2.1;rw [h9];refine Nat.le_trans (aA (k:=n1+1) ?_) (by omega);have h8:=(hK.2.2.2).vlt Qr;rw [ag] at h8;rw [Nat.pow_succ];exact Nat.mul_lt_mul'' h8 (by omega)))
   | (go_at_call 226;(with_reducible refine (vr _ w6.heap.size (x:Int) x ?_ ?_ ?_).mono ?_);(first | rfl | omega);omega;(exact ah _ _ _ rfl);rintro e w7 ⟨A7,n7,c7,rfl,h7,hb7⟩;have b7:Below wr.heap.size wr w7:=(b6.alloc b6.size _).trans (hb7.mono (by have:=b6.size;simp;omega));have h67:Below w6.heap.size w6 w7:=((aa w6).alloc Qr _).trans (hb7.mono (by simp));have hn7:n7≤1000000000:=(by have h9:=h7.2.1;rw [h9];exact Nat.le_trans (aA (k:=1) (by omega)) (by omega)))
   | (go_at_call 224;(with_reducible refine (vp _ A6 n6 c6 (aj pre * 1000000000) ?_ ?_ A7 n7 c7 x ?_ ?_).mono ?_);(exact h6.belw h67);omega;(exact h7);omega;rintro e w8 ⟨A8,n8,c8,rfl,h8,hb8⟩;have b8:=b7.trans (hb8.mono b7.size)))
  have hv8:aj pre * 1000000000+x=aj (pre ++ rest.take (k+1)):=by rw [HST.out.2.2.2.2,HXX.out]
  go_roundw
  case rel =>
   refine ⟨pre ++ rest.take (k+1),rest.drop (k+1),A8,n8,c8,rfl,rfl,?_,by rw [HND.out];omega,⟨HST.out.2.2.2.1,by rw [List.all_append,hK.2.1,HTK.out];rfl,hpd,by rw [← hv8];exact h8⟩,rr.trans (b8.mono rr.size)⟩;rw [h8.2.1,hv8];refine Nat.le_trans (aA (Nat.lt_of_lt_of_le hpl (oh _))) ?_;have h9:=congrArg List.length HST.out.2.2.2.1.1;rw [List.length_append] at h9;omega
  case measure =>
   show (rest.drop (k+1)).length < rest.length;rw [HND.out,HLR.out];omega
end Go.Proofs.YtfilnhompchciaaGreatDoor
namespace Bn
def bW (c:UInt8):Bool:=(decide (97≤c.toNat) && decide (c.toNat≤122)) || (decide (65≤c.toNat) && decide (c.toNat≤90))
def aM (c:UInt8):Bool:=bW c || aK c || c == 95
def cQ (c:UInt8):Bool:=c == 123 || c == 125 || c == 59 || c == 46
def dB (c:UInt8):Bool:=c == 32 || c == 9 || c == 13
def bl:List UInt8→Nat
  | []=>0
  | c :: t=>if bW c then 1+(t.takeWhile aM).length else 0
def cg (r:List UInt8):Nat:=(r.takeWhile aK).length
def cK:List UInt8→Nat
  | 45 :: _=>1
  | _=>0
def eu:List UInt8→Nat
  | c :: t=>if (c == 46 || c == 47) && decide (0 < cg t) then 1+cg t else 0
  | []=>0
def bC (r:List UInt8):Nat:=if cg (r.drop (cK r))=0 then 0 else cK r+cg (r.drop (cK r))+eu (r.drop (cK r+cg (r.drop (cK r))))
def oj:List UInt8→Bool
  | c :: _=>bW c || c == 95 || c == 46 || c == 47
  | []=>false
inductive nh where
  | ok (kind n:Nat)
  | err (x:Nat)
def aV (r:List UInt8):nh:=match r with
  | []=>.err 2
  | c :: _=>if cQ c then .ok 2 1 else if 0 < bl r then (if 24 < bl r then .err 5 else .ok 0 (bl r))
    else if bC r=0 then .err 2 else if 60 < bC r then .err 4 else if oj (r.drop (bC r)) then .err 2 else .ok 1 (bC r)
structure Tkn where
  kind:Nat
  text:List UInt8
  line:Nat
  col:Nat
deriving DecidableEq
inductive jG where
  | ok (l:List Tkn)
  | err (x:Nat)
def jG.push (t:Tkn):jG→jG
  | .ok l=>.ok (t :: l)
  | .err x=>.err x
def dw (r:List UInt8):Nat:=(r.takeWhile (fun c=>c != 10)).length
def toks:Nat→List UInt8→Nat→Nat→jG
  | 0,_,_,_=>.ok []
  | _+1,[],_,_=>.ok []
  | f+1,c :: t,line,col =>
    if c=10 then toks f t (line+1) 1
    else if dB c then toks f t line (col+1)
    else if c=37 then toks f ((c :: t).drop (dw (c :: t))) line (col+dw (c :: t))
    else match aV (c :: t) with
      | .err x=>.err x
      | .ok k n=>(toks f ((c :: t).drop n) line (col+n)).push ⟨k,(c :: t).take n,line,col⟩
theorem vt (p:UInt8→Bool) (l:List UInt8):(l.takeWhile p).length≤l.length:=(List.takeWhile_sublist p).length_le
theorem ol (r:List UInt8):cg r≤r.length:=vt _ _
theorem jH:∀ (r:List UInt8),bl r≤r.length
 | []=>Qr
 | c :: t=>by
  rw [bl];have:=vt aM t;simp only [List.length_cons];split <;> omega
theorem vv:∀ (r:List UInt8),eu r≤r.length
 | []=>Qr
 | c :: t=>by
  rw [eu];have:=ol t;simp only [List.length_cons];split <;> omega
theorem xE:∀ (r:List UInt8),cK r≤r.length
 | []=>Qr
 | c :: t=>by unfold cK;split <;> simp
theorem oo (r:List UInt8):bC r≤r.length:=by
 unfold bC;split
 ·omega
 have h1:=ol (r.drop (cK r));have h2:=vv (r.drop (cK r+cg (r.drop (cK r))));have h3:=xE r;rw [List.length_drop] at h1 h2;omega
theorem ot (r:List UInt8):dw r≤r.length:=vt _ _
theorem jI {t:List UInt8}:0 < dw (37 :: t):=by unfold dw;simp
theorem dt {r:List UInt8}{k n:Nat}(h:aV r=.ok k n):0 < n∧n≤r.length:=by
 unfold aV at h;split at h
 ·cases h
 rename_i c t;split at h
 ·injection h with _ h;subst h;simp
 split at h
 ·split at h
  ·cases h
  injection h with _ h;subst h;exact ⟨by assumption,jH _⟩
 split at h
 ·cases h
 split at h
 ·cases h
 split at h
 ·cases h
 injection h with _ h;subst h;exact ⟨by omega,oo _⟩
theorem ni:∀ (f g:Nat) (r:List UInt8) (line col:Nat),r.length < f→r.length < g→toks f r line col=toks g r line col:=by
 intro f
 induction f with
 | zero=>intro g r _ _ h;omega
 | succ f ih =>
  intro g r line col hf hg
  cases g with
  | zero=>omega
  | succ g =>
   cases r with
   | nil=>rfl
   | cons c t =>
    simp only [List.length_cons] at hf hg;unfold toks;split
    ·exact ih g t _ _ (by omega) (by omega)
    split
    ·exact ih g t _ _ (by omega) (by omega)
    split
    ·rename_i h37
     subst h37;have h1:=jI (t:=t);have h2:=ot (37 :: t);simp only [List.length_cons] at h2;exact ih g _ _ _ (by rw [List.length_drop];simp only [List.length_cons];omega) (by rw [List.length_drop];simp only [List.length_cons];omega)
    split
    ·rfl
    rename_i k n h;have h1:=dt h;simp only [List.length_cons] at h1;rw [ih g _ _ _ (by rw [List.length_drop];simp only [List.length_cons];omega) (by rw [List.length_drop];simp only [List.length_cons];omega)]
def dC (s:List UInt8):jG:=toks (s.length+1) s 1 1
end Bn

/- Tokens of joined texts: plain. -/
namespace Bn
def xF (c:UInt8):Bool:=c == 32 || c == 9 || c == 10 || c == 13 || c == 37
def tq (e:List UInt8):Prop:=e=[]∨∃ c t,e=c :: t∧xF c=true
theorem lz {c:UInt8}(h:xF c=true):aM c=false∧aK c=false∧(c == 46)=false∧(c == 47)=false∧bW c=false∧(c == 95)=false:=by
 unfold xF at h;simp only [Bool.or_eq_true,beq_iff_eq] at h;rcases h with (((h | h) | h) | h) | h <;> subst h <;> decide
theorem je {p:UInt8→Bool}:∀ (l:List UInt8),(l.takeWhile p).all p=true:=by
 intro l
 induction l with
 | nil=>rfl
 | cons x r ih =>
  rw [List.takeWhile_cons];split
  ·rename_i h;rw [List.all_cons,h,ih];rfl
  rfl
theorem lA {p:UInt8→Bool}:∀ {a:List UInt8}(e:List UInt8),a.all p=true→(∀ c t,e=c :: t→p c=false)→(a ++ e).takeWhile p=a:=by
 intro a
 induction a with
 | nil =>
  intro e _ he
  cases e with
  | nil=>rfl
  | cons c t=>rw [List.nil_append,List.takeWhile_cons,he c t rfl];rfl
 | cons x r ih =>
  intro e h he;rw [List.all_cons,Bool.and_eq_true] at h;rw [List.cons_append,List.takeWhile_cons,h.1,if_pos rfl,ih e h.2 he]
theorem gP (p:UInt8→Bool) (l:List UInt8):∃ d,l=l.takeWhile p ++ d∧(∀ c t,d=c :: t→p c=false):=by
 refine ⟨l.dropWhile p,(List.takeWhile_append_dropWhile).symm,fun c t h=>?_⟩
 induction l with
 | nil=>simp at h
 | cons x r ih =>
  rw [List.dropWhile_cons] at h;split at h
  ·exact ih h
  injection h with h1 _;subst h1;simp_all
theorem tq.np {e:List UInt8}(h:tq e) (c:UInt8) (t:List UInt8) (he:e=c :: t):xF c=true:=by
 rcases h with h | ⟨c',t',h,hs⟩
 ·rw [h] at he;cases he
 rw [h] at he;injection he with h1 _;rw [← h1];exact hs
theorem ou {l:List UInt8}(h:l.all aK=true):10 ∉ l:=fun h1=>by
 rw [List.all_eq_true] at h;exact absurd (h 10 h1) (by decide)
theorem tt (r:List UInt8):∃ M d,r=M ++ d∧eu r=M.length∧10 ∉ M∧∀ e,tq e→eu (M ++ e)=M.length∧(∀ c t,M ++ e=c :: t→aK c=false):=by
 have hs:∀ e,tq e→eu ([] ++ e)=0∧(∀ c t,([]:List UInt8) ++ e=c :: t→aK c=false):=by
  intro e he;rw [List.nil_append];refine ⟨?_,fun c t h=>(lz (he.np c t h)).2.1⟩
  cases e with
  | nil=>rfl
  | cons c t =>
   have:=lz (he.np c t rfl);rw [eu,this.2.2.1,this.2.2.2.1];rfl
 cases r with
 | nil=>exact ⟨[],[],rfl,rfl,by simp,hs⟩
 | cons c t =>
  by_cases h:((c == 46 || c == 47) && decide (0 < cg t))=true
  ·obtain ⟨d,h1,h2⟩:=gP aK t
   have h3:(c == 46 || c == 47)=true:=by rw [Bool.and_eq_true] at h;exact h.1
   have h4:0 < cg t:=by rw [Bool.and_eq_true,decide_eq_true_eq] at h;exact h.2
   refine ⟨c :: t.takeWhile aK,d,by rw [List.cons_append,← h1],?_,?_,?_⟩
   ·rw [eu,h,if_pos rfl,List.length_cons];unfold cg;omega
   ·intro h6
    rcases List.mem_cons.1 h6 with e | e
    ·subst e;exact absurd h3 (by decide)
    exact ou (je t) e
   intro e he
   have h5:cg (t.takeWhile aK ++ e)=(t.takeWhile aK).length:=by
    unfold cg;rw [lA e (je t) (fun c t h=>(lz (he.np c t h)).2.1)]
   refine ⟨?_,fun c' t' h'=>?_⟩
   ·rw [List.cons_append,eu,h5,h3]
    have:0 < (t.takeWhile aK).length:=h4;rw [if_pos (by simp;exact this),List.length_cons];omega
   injection h' with h6 _;subst h6;rw [Bool.or_eq_true,beq_iff_eq,beq_iff_eq] at h3;rcases h3 with e | e <;> subst e <;> decide
  have h':((c == 46 || c == 47) && decide (0 < cg t))=false:=by simpa using h
  exact ⟨[],c :: t,rfl,by rw [eu,h'];rfl,by simp,hs⟩
theorem qI {c:UInt8}{t:List UInt8}(h:aK c=true):cK (c :: t)=0:=by
 unfold cK;split
 ·rename_i h1;injection h1 with h1 _;subst h1;exact absurd h (by decide)
 rfl
theorem vw {r:List UInt8}(h:0 < bC r):∃ P d c t,r=P ++ d∧P.length=bC r∧P=c :: t∧(aK c=true∨c=45)∧10 ∉ P∧∀ e,tq e→bC (P ++ e)=P.length:=by
 have hk:0 < cg (r.drop (cK r)):=by
  rcases Nat.eq_zero_or_pos (cg (r.drop (cK r))) with e | e
  ·unfold bC at h;rw [if_pos e] at h;omega
  exact e
 obtain ⟨d0,e0,g0⟩:=gP aK (r.drop (cK r));obtain ⟨D,hD⟩:∃ D,(r.drop (cK r)).takeWhile aK=D:=⟨_,rfl⟩;have hDa:D.all aK=true:=by rw [← hD];exact je _
 have hDl:cg (r.drop (cK r))=D.length:=by unfold cg;rw [hD]
 rw [hD] at e0;rw [hDl] at hk
 obtain ⟨x,D',hx⟩:∃ x D',D=x :: D':=by
  cases D with
  | nil=>simp at hk
  | cons x D'=>exact ⟨x,D',rfl⟩
 have hxd:aK x=true:=by rw [hx,List.all_cons,Bool.and_eq_true] at hDa;exact hDa.1
 have hdd:(r.drop (cK r)).drop D.length=d0:=by rw [e0];simp
 obtain ⟨M,d,e1,e2,e10,e3⟩:=tt d0
 have hn:bC r=cK r+D.length+M.length:=by
  unfold bC;rw [hDl,if_neg (by omega),← List.drop_drop,hdd,e2]
 have hmin:(cK r=0∧r=D ++ d0)∨(cK r=1∧r=45 :: (D ++ d0)):=by
  cases r with
  | nil=>simp [cK] at e0;left;exact ⟨rfl,by simpa using e0⟩
  | cons c t =>
   by_cases hc:c=45
   ·subst hc;right;refine ⟨rfl,?_⟩
    have:cK (45 :: t)=1:=rfl;rw [this] at e0;simp at e0;rw [← e0]
   left
   have:cK (c :: t)=0:=by
    unfold cK;split
    ·rename_i h1;injection h1 with h1 _;exact absurd h1 hc
    rfl
   refine ⟨this,?_⟩;rw [this] at e0;simpa using e0
 have key:∀ e,tq e→cg (D ++ (M ++ e))=D.length∧eu (M ++ e)=M.length:=by
  intro e he;obtain ⟨h1,h2⟩:=e3 e he;refine ⟨?_,h1⟩;unfold cg;rw [lA (M ++ e) hDa h2]
 rcases hmin with ⟨m0,hr⟩ | ⟨m1,hr⟩
 ·refine ⟨D ++ M,d,x,D' ++ M,by rw [hr,e1,List.append_assoc],by rw [hn,m0,List.length_append];omega,by rw [hx];rfl,.inl hxd,fun h=>by rcases List.mem_append.1 h with h | h;exact ou hDa h;exact e10 h,fun e he=>?_⟩
  obtain ⟨h1,h2⟩:=key e he;have hm:cK (D ++ M ++ e)=0:=by rw [hx];exact qI hxd
  unfold bC;rw [hm,List.drop_zero,List.append_assoc,h1,if_neg (by omega),Nat.zero_add,List.drop_left,h2,List.length_append]
 refine ⟨45 :: (D ++ M),d,45,D ++ M,by rw [hr,e1,List.cons_append,List.append_assoc],by rw [hn,m1,List.length_cons,List.length_append];omega,rfl,.inr rfl,fun h=>by rcases List.mem_cons.1 h with h | h;exact absurd h (by decide);rcases List.mem_append.1 h with h | h;exact ou hDa h;exact e10 h,fun e he=>?_⟩;obtain ⟨h1,h2⟩:=key e he;have hm:cK (45 :: (D ++ M) ++ e)=1:=rfl;unfold bC;rw [hm];rw [show (45 :: (D ++ M) ++ e).drop 1=D ++ (M ++ e) by simp];rw [h1,if_neg (by omega),← List.drop_drop];rw [show (45 :: (D ++ M) ++ e).drop 1=D ++ (M ++ e) by simp];rw [List.drop_left,h2,List.length_cons,List.length_append];omega
theorem qJ {r:List UInt8}{k n:Nat}(h:aV r=.ok k n):10 ∉ r.take n:=by
 unfold aV at h;split at h
 ·cases h
 rename_i c t;split at h
 ·rename_i hs
  injection h with h1 h2;subst h2;intro h3;have h4:(10:UInt8)=c:=by simpa using h3
  subst h4;exact absurd hs (by decide)
 split at h
 ·rename_i hw
  split at h
  ·cases h
  injection h with h1 h2
  have hl:bW c=true:=by
   rw [bl] at hw;split at hw
   ·assumption
   omega
  have hwn:bl (c :: t)=1+(t.takeWhile aM).length:=by rw [bl,hl,if_pos rfl]
  obtain ⟨d,e1,_⟩:=gP aM t
  have ht:(c :: t).take n=c :: t.takeWhile aM:=by
   rw [← h2,hwn,Nat.add_comm,List.take_succ_cons];congr 1;exact (congrArg (List.take _) e1).trans List.take_left
  rw [ht];intro h3;rcases List.mem_cons.1 h3 with e | e
  ·subst e;exact absurd hl (by decide)
  have:=je (p:=aM) t;rw [List.all_eq_true] at this;exact absurd (this 10 e) (by decide)
 split at h
 ·cases h
 rename_i hn0;split at h
 ·cases h
 split at h
 ·cases h
 injection h with h1 h2;obtain ⟨P,d,x,P',e1,e2,e3,e4,e10,e5⟩:=vw (Nat.pos_of_ne_zero hn0);have hP:(c :: t).take n=P:=by rw [← h2,← e2,e1];exact List.take_left
 rw [hP];exact e10
end Bn

/- Tokens of joined texts, blanks and comments between them: plain. -/
namespace Bn
def tk (r:List UInt8) (line col:Nat):jG:=toks (r.length+1) r line col
theorem qK (line col:Nat):tk [] line col=.ok []:=rfl
theorem kN (t:List UInt8) (line col:Nat):tk (10 :: t) line col=tk t (line+1) 1:=by
 unfold tk;rw [List.length_cons]
 conv=>lhs;unfold toks
 rw [if_pos rfl]
theorem tu {c:UInt8}(h:dB c=true):c≠10:=by
 rintro rfl;exact absurd h (by decide)
theorem jJ {c:UInt8}(h:dB c=true) (t:List UInt8) (line col:Nat):tk (c :: t) line col=tk t line (col+1):=by
 unfold tk;rw [List.length_cons]
 conv=>lhs;unfold toks
 rw [if_neg (tu h),if_pos h]
theorem vy (t:List UInt8) (line col:Nat):tk (37 :: t) line col=tk ((37 :: t).drop (dw (37 :: t))) line (col+dw (37 :: t)):=by
 have h1:=jI (t:=t);have h2:=ot (37 :: t);unfold tk
 conv=>lhs;rw [List.length_cons];unfold toks
 rw [if_neg (by decide),if_neg (by decide),if_pos rfl];simp only [List.length_cons] at h2;refine ni _ _ _ _ _ ?_ ?_ <;> rw [List.length_drop,List.length_cons] <;> omega
theorem pC {c:UInt8}{t:List UInt8}{k n:Nat}(h:aV (c :: t)=.ok k n):c≠10∧dB c=false∧c≠37:=by
 have key:∀ c:UInt8,cQ c=false→bW c=false→aK c=false→c≠45→∀ t k n,aV (c :: t)≠.ok k n:=by
  intro c h1 h2 h3 h4 t k n h;have hw:bl (c :: t)=0:=by rw [bl,h2];rfl
  have hm:cK (c :: t)=0:=by
   unfold cK;split
   ·rename_i h5;injection h5 with h5 _;exact absurd h5 h4
   rfl
  have hn:bC (c :: t)=0:=by
   unfold bC;rw [hm,List.drop_zero,if_pos (by unfold cg;rw [List.takeWhile_cons,h3];rfl)]
  unfold aV at h;simp [h1,hw,hn] at h
 refine ⟨?_,?_,?_⟩
 ·rintro rfl;exact key 10 (by decide) (by decide) (by decide) (by decide) t k n h
 ·cases hb:dB c
  ·rfl
  exfalso;unfold dB at hb;simp only [Bool.or_eq_true,beq_iff_eq] at hb;rcases hb with (e | e) | e <;> subst e
  ·exact key 32 (by decide) (by decide) (by decide) (by decide) t k n h
  ·exact key 9 (by decide) (by decide) (by decide) (by decide) t k n h
  exact key 13 (by decide) (by decide) (by decide) (by decide) t k n h
 rintro rfl;exact key 37 (by decide) (by decide) (by decide) (by decide) t k n h
theorem qL {c:UInt8}{t:List UInt8}{k n:Nat}(h:aV (c :: t)=.ok k n) (line col:Nat) :
 tk (c :: t) line col=(tk ((c :: t).drop n) line (col+n)).push ⟨k,(c :: t).take n,line,col⟩:=by
 obtain ⟨h1,h2,h3⟩:=pC h;have h4:=dt h;unfold tk
 conv=>lhs;rw [List.length_cons];unfold toks
 rw [if_neg h1,if_neg (by rw [h2];simp),if_neg h3,h];simp only [List.length_cons] at h4;dsimp only;rw [ni (t.length+1) (((c :: t).drop n).length+1) _ _ _ (by rw [List.length_drop,List.length_cons];omega) (by omega)]
theorem vz {c:UInt8}{t:List UInt8}{x:Nat}(h:aV (c :: t)=.err x) (h1:c≠10) (h2:dB c=false) (h3:c≠37) (line col:Nat):tk (c :: t) line col=.err x:=by
 unfold tk;rw [List.length_cons];unfold toks;rw [if_neg h1,if_neg (by rw [h2];simp),if_neg h3,h]
def pD (s:List UInt8):Prop:=∀ rest line col,∃ line' col',tk (s ++ rest) line col=tk rest line' col'
theorem pD.nil:pD []:=fun _ line col=>⟨line,col,rfl⟩
theorem pD.line {s:List UInt8}(h:pD s):pD (10 :: s):=fun rest line col=>by
 obtain ⟨a,b,e⟩:=h rest (line+1) 1;exact ⟨a,b,by rw [List.cons_append,kN,e]⟩
theorem pD.blank {c:UInt8}{s:List UInt8}(hc:dB c=true) (h:pD s):pD (c :: s):=fun rest line col=>by
 obtain ⟨a,b,e⟩:=h rest line (col+1);exact ⟨a,b,by rw [List.cons_append,jJ hc,e]⟩
def shape:jG→Option (List (Nat × List UInt8))
  | .ok l=>some (l.map fun t=>(t.kind,t.text))
  | .err _=>none
theorem qM (t:Tkn) (x:jG):shape (x.push t)=(shape x).map ((t.kind,t.text) :: ·):=by
 cases x <;> rfl
def gC (k:Nat) (x:List UInt8):Prop:=∃ r n,aV r=.ok k n∧x=r.take n
theorem tw:∀ (f:Nat) (r:List UInt8) (line col:Nat) (l:List Tkn),toks f r line col=.ok l→∀ t∈l,gC t.kind t.text:=by
 intro f
 induction f with
 | zero=>intro r line col l h t ht;unfold toks at h;injection h with h;subst h;cases ht
 | succ f ih =>
  intro r line col l h t ht
  cases r with
  | nil=>unfold toks at h;injection h with h;subst h;cases ht
  | cons c s =>
   unfold toks at h;split at h
   ·exact ih _ _ _ _ h t ht
   split at h
   ·exact ih _ _ _ _ h t ht
   split at h
   ·exact ih _ _ _ _ h t ht
   split at h
   ·cases h
   rename_i k n hf
   cases hx:toks f ((c :: s).drop n) line (col+n) with
   | err x=>rw [hx] at h;cases h
   | ok l' =>
    rw [hx] at h;injection h with h;subst h;rcases List.mem_cons.1 ht with e | e
    ·subst e;exact ⟨_,_,hf,rfl⟩
    exact ih _ _ _ _ hx t e
end Bn

/- Every token stands at its place: plain. -/
namespace Bn
def pE (line col:Nat) (t:Tkn):Prop:=line < t.line∨(line=t.line∧col≤t.col)
theorem pE.mono {line col col':Nat}{t:Tkn}(h:pE line col' t) (hc:col≤col'):pE line col t:=by
 rcases h with h | ⟨h,h1⟩
 ·exact .inl h
 exact .inr ⟨h,Nat.le_trans hc h1⟩
theorem jf:∀ (f:Nat) (r:List UInt8) (line col:Nat) (l:List Tkn),toks f r line col=.ok l→∀ t∈l,pE line col t:=by
 intro f
 induction f with
 | zero=>intro r line col l h t ht;unfold toks at h;injection h with h;subst h;cases ht
 | succ f ih =>
  intro r line col l h t ht
  cases r with
  | nil=>unfold toks at h;injection h with h;subst h;cases ht
  | cons c s =>
   unfold toks at h;split at h
   ·rcases ih _ _ _ _ h t ht with e | ⟨e,_⟩
    ·exact .inl (by omega)
    exact .inl (by omega)
   split at h
   ·exact (ih _ _ _ _ h t ht).mono (by omega)
   split at h
   ·exact (ih _ _ _ _ h t ht).mono (by omega)
   split at h
   ·cases h
   rename_i k n hf
   cases hx:toks f ((c :: s).drop n) line (col+n) with
   | err x=>rw [hx] at h;cases h
   | ok l' =>
    rw [hx] at h;injection h with h;subst h;rcases List.mem_cons.1 ht with e | e
    ·subst e;exact .inr ⟨rfl,Qr⟩
    exact (ih _ _ _ _ hx t e).mono (by omega)
def PlI (s:List UInt8) (l:List Tkn) (i line col k left:Nat):Prop:=k≤l.length∧∃ u rest,s.drop i=u ++ rest∧10 ∉ u∧tk rest line (col+u.length)=.ok (l.drop k)∧(left=u.length∨left=0)
theorem PlI.start {s:List UInt8}{l:List Tkn}(h:dC s=.ok l):PlI s l 0 1 1 0 0:=⟨Nat.zero_le _,[],s,rfl,by simp,h,.inr rfl⟩
theorem PlI.fin {s:List UInt8}{l:List Tkn}{line col k left:Nat}(h:PlI s l s.length line col k left):k=l.length:=by
 obtain ⟨hk,u,rest,h1,_,h2,_⟩:=h;rw [List.drop_length] at h1;have h3:=List.append_eq_nil_iff.1 h1.symm;rw [h3.2,qK] at h2;injection h2 with h2;have:=congrArg List.length h2;rw [List.length_drop] at this;simp at this;omega
def nl (l:List Tkn) (line col k left:Nat):Bool:=decide (left=0) && (match l[k]? with | some t=>decide (t.line=line) && decide (t.col=col) | none=>false)
def fR (c:UInt8) (line:Nat):Nat:=if c=10 then line+1 else line
def ip (c:UInt8) (col:Nat):Nat:=if c=10 then 1 else col+1
theorem lB {l:List Tkn}{line col k left:Nat}{line' col':Nat}(h:∀ t∈l.drop k,pE line' col' t) (hp:line < line'∨(line=line'∧col < col')):nl l line col k left=false:=by
 unfold nl
 cases hk:l[k]? with
 | none=>simp
 | some t =>
  have hm:t∈l.drop k:=by
   obtain ⟨h1,h2⟩:=List.getElem?_eq_some_iff.1 hk;rw [List.drop_eq_getElem_cons h1,h2];simp
  have:=h t hm
  have h3:¬ (t.line=line∧t.col=col):=by
   rintro ⟨a,b⟩;rcases this with e | ⟨e,e2⟩ <;> rcases hp with g | ⟨g,g2⟩ <;> omega
  simp only [Bool.and_eq_false_iff,decide_eq_false_iff_not];right;by_cases ha:t.line=line
  ·right;exact fun hb=>h3 ⟨ha,hb⟩
  left;exact ha
theorem PlI.inner {s:List UInt8}{l:List Tkn}{i line col k left:Nat}{c:UInt8}{t u rest:List UInt8}(hk:k≤l.length) (hd:s.drop i=c :: t) (h1:s.drop i=u ++ rest) (hu:10 ∉ u) (h2:tk rest line (col+u.length)=.ok (l.drop k)) (h3:left=u.length∨left=0) (hne:u≠[]) :
 nl l line col k left=false∧PlI s l (i+1) (fR c line) (ip c col) k (left - 1):=by
 obtain ⟨x,u',rfl⟩:=List.exists_cons_of_ne_nil hne;have hx:x=c∧t=u' ++ rest:=by rw [hd] at h1;injection h1 with a b;exact ⟨a.symm,b⟩
 obtain ⟨rfl,ht⟩:=hx;have hx10:x≠10:=fun e=>hu (by rw [e];simp)
 rw [List.length_cons] at h2 h3;have hd1:s.drop (i+1)=t:=by rw [← List.drop_drop,hd];rfl
 refine ⟨lB (jf _ _ _ _ _ h2) (.inr ⟨rfl,by omega⟩),hk,u',rest,by rw [hd1,ht],fun h=>hu (by simp [h]),?_,by omega⟩;unfold fR ip;rw [if_neg hx10,if_neg hx10,show col+1+u'.length=col+(u'.length+1) by omega];exact h2
theorem PlI.step {s:List UInt8}{l:List Tkn}{i line col k left:Nat}(h:PlI s l i line col k left) {c:UInt8}{t:List UInt8}(hd:s.drop i=c :: t) :
 (nl l line col k left=false∧PlI s l (i+1) (fR c line) (ip c col) k (left - 1)) ∨
 (nl l line col k left=true∧∃ x,l[k]?=some x∧0 < x.text.length∧i+x.text.length≤s.length∧(s.drop i).take x.text.length=x.text∧PlI s l (i+1) (fR c line) (ip c col) (k+1) (x.text.length - 1)):=by
 obtain ⟨hk,u,rest,h1,hu,h2,h3⟩:=h;by_cases hne:u=[]
 ·subst hne
  rw [List.nil_append] at h1;rw [List.length_nil,Nat.add_zero] at h2;have hl0:left=0:=by rcases h3 with e | e <;> simpa using e
  subst hl0;have hd1:s.drop (i+1)=t:=by rw [← List.drop_drop,hd];rfl
  have hr:rest=c :: t:=by rw [← h1,hd]
  subst hr;by_cases h10:c=10
  ·subst h10
   rw [kN] at h2;left;refine ⟨lB (jf _ _ _ _ _ h2) (.inl (by omega)),hk,[],t,by rw [hd1];rfl,by simp,?_,.inr rfl⟩;exact h2
  by_cases hb:dB c=true
  ·rw [jJ hb] at h2
   left;refine ⟨lB (jf _ _ _ _ _ h2) (.inr ⟨rfl,by omega⟩),hk,[],t,by rw [hd1];rfl,by simp,?_,.inr rfl⟩;unfold fR ip;rw [if_neg h10,if_neg h10];exact h2
  by_cases h37:c=37
  ·subst h37
   rw [vy] at h2;left;have hp:=jI (t:=t);have hle:=ot (37 :: t);have hlen:((37 :: t).take (dw (37 :: t))).length=dw (37 :: t):=by rw [List.length_take];omega
   refine PlI.inner hk hd (h1.trans (List.take_append_drop _ _).symm) ?_ (by rw [hlen];exact h2) (.inr rfl) (fun e=>by rw [e] at hlen;simp at hlen;omega);intro hm
   have:(37 :: t).take (dw (37 :: t))=(37 :: t).takeWhile (fun c=>c != 10):=by
    obtain ⟨d,e,_⟩:=gP (fun c=>c != 10) (37 :: t);exact (congrArg (List.take _) e).trans List.take_left
   rw [this] at hm;have h4:=je (p:=fun c=>c != 10) (37 :: t);rw [List.all_eq_true] at h4;exact absurd (h4 10 hm) (by decide)
  cases hf:aV (c :: t) with
  | err x=>rw [vz hf h10 (by simpa using hb) h37] at h2;cases h2
  | ok kk n =>
   rw [qL hf] at h2;have hn:=dt hf
   cases hx:tk ((c :: t).drop n) line (col+n) with
   | err x=>rw [hx] at h2;cases h2
   | ok l' =>
    rw [hx] at h2;injection h2 with h2
    have hkl:k < l.length:=by
     rcases Nat.lt_or_ge k l.length with e | e
     ·exact e
     rw [List.drop_eq_nil_of_le e] at h2;cases h2
    rw [List.drop_eq_getElem_cons hkl] at h2;injection h2 with h4 h5;have hlt:((c :: t).take n).length=n:=by rw [List.length_take];omega
    right;have hg:l[k]?=some ⟨kk,(c :: t).take n,line,col⟩:=by rw [List.getElem?_eq_getElem hkl,h4]
    have hlen:i+n≤s.length:=by
     have:=congrArg List.length hd;rw [List.length_drop] at this;have h7:(c :: t).length≤s.length - i:=by omega
     have h8:0 < (c :: t).length:=by simp
     omega
    refine ⟨?_,⟨kk,(c :: t).take n,line,col⟩,hg,by dsimp only;omega,by dsimp only;omega,by dsimp only;rw [hlt,hd],?_⟩
    ·unfold nl;rw [hg];simp
    dsimp only;rw [hlt];obtain ⟨m,rfl⟩:∃ m,n=m+1:=⟨n - 1,by omega⟩;have hno:=qJ hf;rw [List.take_succ_cons] at hno;refine ⟨by omega,t.take m,t.drop m,by rw [hd1,List.take_append_drop],fun h=>hno (by simp [h]),?_,.inl ?_⟩
    ·unfold fR ip
     rw [if_neg h10,if_neg h10];have hm:(t.take m).length=m:=by rw [List.length_take];simp at hn;omega
     rw [hm,← h5];rw [List.drop_succ_cons] at hx;rw [show col+1+m=col+(m+1) by omega];exact hx
    rw [List.length_take];simp at hn;omega
 exact .inl (PlI.inner hk hd h1 hu h2 h3 hne)
end Bn

/- Walks: tokens: what a byte is. -/
namespace Go.Proofs.YtfilnhompchciaaGreatDoor
open Go Go.RowKit Bn
attribute [local go_sem ↓] Go.wp_at_zero Go.wp_at_succ
def gQ (c:UInt8):Bool:=c == 32 || c == 9 || c == 10 || c == 13
theorem fp (c d:UInt8):(c == d)=decide (c.toNat=d.toNat):=by
 by_cases h:c=d
 ·subst h;simp
 rw [beq_eq_false_iff_ne.2 h,decide_eq_false (fun e=>h (UInt8.toNat.inj e))]
theorem ke (c:UInt8):bW c=((decide (97≤c.toNat) && decide (c.toNat≤122)) || (decide (65≤c.toNat) && decide (c.toNat≤90))):=rfl
theorem lC (c:UInt8):aK c=(decide (48≤c.toNat) && decide (c.toNat≤57)):=rfl
theorem kf (c:UInt8):cQ c=(decide (c.toNat=123) || decide (c.toNat=125) || decide (c.toNat=59) || decide (c.toNat=46)):=by unfold cQ;rw [fp,fp,fp,fp];rfl
theorem qN (c:UInt8):gQ c=(decide (c.toNat=32) || decide (c.toNat=9) || decide (c.toNat=10) || decide (c.toNat=13)):=by unfold gQ;rw [fp,fp,fp,fp];rfl
theorem cU (w:World) (c:UInt8) (v:Bool) (hv:bW c=v):Calls Tryz.prog 110 #[.int .u8 (c.toNat:Nat)] w (av w (.bool v)):=by
 have hc:c.toNat < 256:=c.toNat_lt;obtain ⟨n,hn⟩:∃ n,c.toNat=n:=⟨_,rfl⟩;rw [hn] at hc ⊢;have hd:v=((decide (97≤n) && decide (n≤122)) || (decide (65≤n) && decide (n≤90))):=by rw [← hv,ke,hn]
 clear hv;rcases (show (0≤n∧n≤64)∨(65≤n∧n≤90)∨(91≤n∧n≤96)∨(97≤n∧n≤122)∨(123≤n∧n≤255) by omega) with ⟨ha,hb⟩ | ⟨ha,hb⟩ | ⟨ha,hb⟩ | ⟨ha,hb⟩ | ⟨ha,hb⟩
 ·have ege97:((97:Int)≤(n:Int))=False:=by simp;omega
  have ele122:((n:Int)≤122)=True:=by simp;omega
  have ege65:((65:Int)≤(n:Int))=False:=by simp;omega
  have ele90:((n:Int)≤90)=True:=by simp;omega
  obtain rfl:v=false:=by rw [hd];simp;omega
  clear hd hn;go_in;go_wp2;go_ret;exact bj rfl (aa w)
 ·have ege97:((97:Int)≤(n:Int))=False:=by simp;omega
  have ele122:((n:Int)≤122)=True:=by simp;omega
  have ege65:((65:Int)≤(n:Int))=True:=by simp;omega
  have ele90:((n:Int)≤90)=True:=by simp;omega
  obtain rfl:v=true:=by rw [hd];simp;omega
  clear hd hn;go_in;go_wp2;go_ret;exact bj rfl (aa w)
 ·have ege97:((97:Int)≤(n:Int))=False:=by simp;omega
  have ele122:((n:Int)≤122)=True:=by simp;omega
  have ege65:((65:Int)≤(n:Int))=True:=by simp;omega
  have ele90:((n:Int)≤90)=False:=by simp;omega
  obtain rfl:v=false:=by rw [hd];simp;omega
  clear hd hn;go_in;go_wp2;go_ret;exact bj rfl (aa w)
 ·have ege97:((97:Int)≤(n:Int))=True:=by simp;omega
  have ele122:((n:Int)≤122)=True:=by simp;omega
  have ege65:((65:Int)≤(n:Int))=True:=by simp;omega
  have ele90:((n:Int)≤90)=False:=by simp;omega
  obtain rfl:v=true:=by rw [hd];simp;omega
  clear hd hn;go_in;go_wp2;go_ret;exact bj rfl (aa w)
 have ege97:((97:Int)≤(n:Int))=True:=by simp;omega
 have ele122:((n:Int)≤122)=False:=by simp;omega
 have ege65:((65:Int)≤(n:Int))=True:=by simp;omega
 have ele90:((n:Int)≤90)=False:=by simp;omega
 obtain rfl:v=false:=by rw [hd];simp;omega
 clear hd hn;go_in;go_wp2;go_ret;exact bj rfl (aa w)
theorem cV (w:World) (c:UInt8) (v:Bool) (hv:bW c=v):Calls Tryz.prog 117 #[.int .u8 (c.toNat:Nat)] w (av w (.bool v)):=by
 have hc:c.toNat < 256:=c.toNat_lt;obtain ⟨n,hn⟩:∃ n,c.toNat=n:=⟨_,rfl⟩;rw [hn] at hc ⊢;have hd:v=((decide (97≤n) && decide (n≤122)) || (decide (65≤n) && decide (n≤90))):=by rw [← hv,ke,hn]
 clear hv;rcases (show (0≤n∧n≤64)∨(65≤n∧n≤90)∨(91≤n∧n≤96)∨(97≤n∧n≤122)∨(123≤n∧n≤255) by omega) with ⟨ha,hb⟩ | ⟨ha,hb⟩ | ⟨ha,hb⟩ | ⟨ha,hb⟩ | ⟨ha,hb⟩
 ·have ege97:((97:Int)≤(n:Int))=False:=by simp;omega
  have ele122:((n:Int)≤122)=True:=by simp;omega
  have ege65:((65:Int)≤(n:Int))=False:=by simp;omega
  have ele90:((n:Int)≤90)=True:=by simp;omega
  obtain rfl:v=false:=by rw [hd];simp;omega
  clear hd hn;go_in;go_wp2;go_ret;exact bj rfl (aa w)
 ·have ege97:((97:Int)≤(n:Int))=False:=by simp;omega
  have ele122:((n:Int)≤122)=True:=by simp;omega
  have ege65:((65:Int)≤(n:Int))=True:=by simp;omega
  have ele90:((n:Int)≤90)=True:=by simp;omega
  obtain rfl:v=true:=by rw [hd];simp;omega
  clear hd hn;go_in;go_wp2;go_ret;exact bj rfl (aa w)
 ·have ege97:((97:Int)≤(n:Int))=False:=by simp;omega
  have ele122:((n:Int)≤122)=True:=by simp;omega
  have ege65:((65:Int)≤(n:Int))=True:=by simp;omega
  have ele90:((n:Int)≤90)=False:=by simp;omega
  obtain rfl:v=false:=by rw [hd];simp;omega
  clear hd hn;go_in;go_wp2;go_ret;exact bj rfl (aa w)
 ·have ege97:((97:Int)≤(n:Int))=True:=by simp;omega
  have ele122:((n:Int)≤122)=True:=by simp;omega
  have ege65:((65:Int)≤(n:Int))=True:=by simp;omega
  have ele90:((n:Int)≤90)=False:=by simp;omega
  obtain rfl:v=true:=by rw [hd];simp;omega
  clear hd hn;go_in;go_wp2;go_ret;exact bj rfl (aa w)
 have ege97:((97:Int)≤(n:Int))=True:=by simp;omega
 have ele122:((n:Int)≤122)=False:=by simp;omega
 have ege65:((65:Int)≤(n:Int))=True:=by simp;omega
 have ele90:((n:Int)≤90)=False:=by simp;omega
 obtain rfl:v=false:=by rw [hd];simp;omega
 clear hd hn;go_in;go_wp2;go_ret;exact bj rfl (aa w)
theorem jK (w:World) (c:UInt8) (v:Bool) (hv:aK c=v):Calls Tryz.prog 187 #[.int .u8 (c.toNat:Nat)] w (av w (.bool v)):=by
 have hc:c.toNat < 256:=c.toNat_lt;obtain ⟨n,hn⟩:∃ n,c.toNat=n:=⟨_,rfl⟩;rw [hn] at hc ⊢;have hd:v=(decide (48≤n) && decide (n≤57)):=by rw [← hv,lC,hn]
 clear hv;rcases (show (0≤n∧n≤47)∨(48≤n∧n≤57)∨(58≤n∧n≤255) by omega) with ⟨ha,hb⟩ | ⟨ha,hb⟩ | ⟨ha,hb⟩
 ·have ege48:((48:Int)≤(n:Int))=False:=by simp;omega
  have ele57:((n:Int)≤57)=True:=by simp;omega
  obtain rfl:v=false:=by rw [hd];simp;omega
  clear hd hn;go_in;go_wp2;go_ret;exact bj rfl (aa w)
 ·have ege48:((48:Int)≤(n:Int))=True:=by simp;omega
  have ele57:((n:Int)≤57)=True:=by simp;omega
  obtain rfl:v=true:=by rw [hd];simp;omega
  clear hd hn;go_in;go_wp2;go_ret;exact bj rfl (aa w)
 have ege48:((48:Int)≤(n:Int))=True:=by simp;omega
 have ele57:((n:Int)≤57)=False:=by simp;omega
 obtain rfl:v=false:=by rw [hd];simp;omega
 clear hd hn;go_in;go_wp2;go_ret;exact bj rfl (aa w)
theorem jL (w:World) (c:UInt8) (v:Bool) (hv:aK c=v):Calls Tryz.prog 134 #[.int .u8 (c.toNat:Nat)] w (av w (.bool v)):=by
 have hc:c.toNat < 256:=c.toNat_lt;obtain ⟨n,hn⟩:∃ n,c.toNat=n:=⟨_,rfl⟩;rw [hn] at hc ⊢;have hd:v=(decide (48≤n) && decide (n≤57)):=by rw [← hv,lC,hn]
 clear hv;rcases (show (0≤n∧n≤47)∨(48≤n∧n≤57)∨(58≤n∧n≤255) by omega) with ⟨ha,hb⟩ | ⟨ha,hb⟩ | ⟨ha,hb⟩
 ·have ege48:((48:Int)≤(n:Int))=False:=by simp;omega
  have ele57:((n:Int)≤57)=True:=by simp;omega
  obtain rfl:v=false:=by rw [hd];simp;omega
  clear hd hn;go_in;go_wp2;go_ret;exact bj rfl (aa w)
 ·have ege48:((48:Int)≤(n:Int))=True:=by simp;omega
  have ele57:((n:Int)≤57)=True:=by simp;omega
  obtain rfl:v=true:=by rw [hd];simp;omega
  clear hd hn;go_in;go_wp2;go_ret;exact bj rfl (aa w)
 have ege48:((48:Int)≤(n:Int))=True:=by simp;omega
 have ele57:((n:Int)≤57)=False:=by simp;omega
 obtain rfl:v=false:=by rw [hd];simp;omega
 clear hd hn;go_in;go_wp2;go_ret;exact bj rfl (aa w)
theorem pF (w:World) (c:UInt8) (v:Bool) (hv:cQ c=v):Calls Tryz.prog 118 #[.int .u8 (c.toNat:Nat)] w (av w (.bool v)):=by
 have hc:c.toNat < 256:=c.toNat_lt;obtain ⟨n,hn⟩:∃ n,c.toNat=n:=⟨_,rfl⟩;rw [hn] at hc ⊢;have hd:v=(decide (n=123) || decide (n=125) || decide (n=59) || decide (n=46)):=by rw [← hv,kf,hn]
 clear hv;rcases (show (0≤n∧n≤45)∨(46≤n∧n≤46)∨(47≤n∧n≤58)∨(59≤n∧n≤59)∨(60≤n∧n≤122)∨(123≤n∧n≤123)∨(124≤n∧n≤124)∨(125≤n∧n≤125)∨(126≤n∧n≤255) by omega) with ⟨ha,hb⟩ | ⟨ha,hb⟩ | ⟨ha,hb⟩ | ⟨ha,hb⟩ | ⟨ha,hb⟩ | ⟨ha,hb⟩ | ⟨ha,hb⟩ | ⟨ha,hb⟩ | ⟨ha,hb⟩
 ·have q123:((n:Int) == 123)=false:=by simp;omega
  have q125:((n:Int) == 125)=false:=by simp;omega
  have q59:((n:Int) == 59)=false:=by simp;omega
  have q46:((n:Int) == 46)=false:=by simp;omega
  obtain rfl:v=false:=by rw [hd];simp;omega
  clear hd hn;go_in;go_wp2;go_ret;exact bj rfl (aa w)
 ·have q123:((n:Int) == 123)=false:=by simp;omega
  have q125:((n:Int) == 125)=false:=by simp;omega
  have q59:((n:Int) == 59)=false:=by simp;omega
  have q46:((n:Int) == 46)=true:=by simp;omega
  obtain rfl:v=true:=by rw [hd];simp;omega
  clear hd hn;go_in;go_wp2;go_ret;exact bj rfl (aa w)
 ·have q123:((n:Int) == 123)=false:=by simp;omega
  have q125:((n:Int) == 125)=false:=by simp;omega
  have q59:((n:Int) == 59)=false:=by simp;omega
  have q46:((n:Int) == 46)=false:=by simp;omega
  obtain rfl:v=false:=by rw [hd];simp;omega
  clear hd hn;go_in;go_wp2;go_ret;exact bj rfl (aa w)
 ·have q123:((n:Int) == 123)=false:=by simp;omega
  have q125:((n:Int) == 125)=false:=by simp;omega
  have q59:((n:Int) == 59)=true:=by simp;omega
  have q46:((n:Int) == 46)=false:=by simp;omega
  obtain rfl:v=true:=by rw [hd];simp;omega
  clear hd hn;go_in;go_wp2;go_ret;exact bj rfl (aa w)
 ·have q123:((n:Int) == 123)=false:=by simp;omega
  have q125:((n:Int) == 125)=false:=by simp;omega
  have q59:((n:Int) == 59)=false:=by simp;omega
  have q46:((n:Int) == 46)=false:=by simp;omega
  obtain rfl:v=false:=by rw [hd];simp;omega
  clear hd hn;go_in;go_wp2;go_ret;exact bj rfl (aa w)
 ·have q123:((n:Int) == 123)=true:=by simp;omega
  have q125:((n:Int) == 125)=false:=by simp;omega
  have q59:((n:Int) == 59)=false:=by simp;omega
  have q46:((n:Int) == 46)=false:=by simp;omega
  obtain rfl:v=true:=by rw [hd];simp;omega
  clear hd hn;go_in;go_wp2;go_ret;exact bj rfl (aa w)
 ·have q123:((n:Int) == 123)=false:=by simp;omega
  have q125:((n:Int) == 125)=false:=by simp;omega
  have q59:((n:Int) == 59)=false:=by simp;omega
  have q46:((n:Int) == 46)=false:=by simp;omega
  obtain rfl:v=false:=by rw [hd];simp;omega
  clear hd hn;go_in;go_wp2;go_ret;exact bj rfl (aa w)
 ·have q123:((n:Int) == 123)=false:=by simp;omega
  have q125:((n:Int) == 125)=true:=by simp;omega
  have q59:((n:Int) == 59)=false:=by simp;omega
  have q46:((n:Int) == 46)=false:=by simp;omega
  obtain rfl:v=true:=by rw [hd];simp;omega
  clear hd hn;go_in;go_wp2;go_ret;exact bj rfl (aa w)
 have q123:((n:Int) == 123)=false:=by simp;omega
 have q125:((n:Int) == 125)=false:=by simp;omega
 have q59:((n:Int) == 59)=false:=by simp;omega
 have q46:((n:Int) == 46)=false:=by simp;omega
 obtain rfl:v=false:=by rw [hd];simp;omega
 clear hd hn;go_in;go_wp2;go_ret;exact bj rfl (aa w)
theorem jM (w:World) (c:UInt8) (v:Bool) (hv:gQ c=v):Calls Tryz.prog 79 #[.int .u8 (c.toNat:Nat)] w (av w (.bool v)):=by
 have hc:c.toNat < 256:=c.toNat_lt;obtain ⟨n,hn⟩:∃ n,c.toNat=n:=⟨_,rfl⟩;rw [hn] at hc ⊢;have hd:v=(decide (n=32) || decide (n=9) || decide (n=10) || decide (n=13)):=by rw [← hv,qN,hn]
 clear hv;rcases (show (0≤n∧n≤8)∨(9≤n∧n≤9)∨(10≤n∧n≤10)∨(11≤n∧n≤12)∨(13≤n∧n≤13)∨(14≤n∧n≤31)∨(32≤n∧n≤32)∨(33≤n∧n≤255) by omega) with ⟨ha,hb⟩ | ⟨ha,hb⟩ | ⟨ha,hb⟩ | ⟨ha,hb⟩ | ⟨ha,hb⟩ | ⟨ha,hb⟩ | ⟨ha,hb⟩ | ⟨ha,hb⟩
 ·have q32:((n:Int) == 32)=false:=by simp;omega
  have q9:((n:Int) == 9)=false:=by simp;omega
  have q10:((n:Int) == 10)=false:=by simp;omega
  have q13:((n:Int) == 13)=false:=by simp;omega
  obtain rfl:v=false:=by rw [hd];simp;omega
  clear hd hn;go_in;go_wp2;go_ret;exact bj rfl (aa w)
 ·have q32:((n:Int) == 32)=false:=by simp;omega
  have q9:((n:Int) == 9)=true:=by simp;omega
  have q10:((n:Int) == 10)=false:=by simp;omega
  have q13:((n:Int) == 13)=false:=by simp;omega
  obtain rfl:v=true:=by rw [hd];simp;omega
  clear hd hn;go_in;go_wp2;go_ret;exact bj rfl (aa w)
 ·have q32:((n:Int) == 32)=false:=by simp;omega
  have q9:((n:Int) == 9)=false:=by simp;omega
  have q10:((n:Int) == 10)=true:=by simp;omega
  have q13:((n:Int) == 13)=false:=by simp;omega
  obtain rfl:v=true:=by rw [hd];simp;omega
  clear hd hn;go_in;go_wp2;go_ret;exact bj rfl (aa w)
 ·have q32:((n:Int) == 32)=false:=by simp;omega
  have q9:((n:Int) == 9)=false:=by simp;omega
  have q10:((n:Int) == 10)=false:=by simp;omega
  have q13:((n:Int) == 13)=false:=by simp;omega
  obtain rfl:v=false:=by rw [hd];simp;omega
  clear hd hn;go_in;go_wp2;go_ret;exact bj rfl (aa w)
 ·have q32:((n:Int) == 32)=false:=by simp;omega
  have q9:((n:Int) == 9)=false:=by simp;omega
  have q10:((n:Int) == 10)=false:=by simp;omega
  have q13:((n:Int) == 13)=true:=by simp;omega
  obtain rfl:v=true:=by rw [hd];simp;omega
  clear hd hn;go_in;go_wp2;go_ret;exact bj rfl (aa w)
 ·have q32:((n:Int) == 32)=false:=by simp;omega
  have q9:((n:Int) == 9)=false:=by simp;omega
  have q10:((n:Int) == 10)=false:=by simp;omega
  have q13:((n:Int) == 13)=false:=by simp;omega
  obtain rfl:v=false:=by rw [hd];simp;omega
  clear hd hn;go_in;go_wp2;go_ret;exact bj rfl (aa w)
 ·have q32:((n:Int) == 32)=true:=by simp;omega
  have q9:((n:Int) == 9)=false:=by simp;omega
  have q10:((n:Int) == 10)=false:=by simp;omega
  have q13:((n:Int) == 13)=false:=by simp;omega
  obtain rfl:v=true:=by rw [hd];simp;omega
  clear hd hn;go_in;go_wp2;go_ret;exact bj rfl (aa w)
 have q32:((n:Int) == 32)=false:=by simp;omega
 have q9:((n:Int) == 9)=false:=by simp;omega
 have q10:((n:Int) == 10)=false:=by simp;omega
 have q13:((n:Int) == 13)=false:=by simp;omega
 obtain rfl:v=false:=by rw [hd];simp;omega
 clear hd hn;go_in;go_wp2;go_ret;exact bj rfl (aa w)
def atB (s:List UInt8) (i:Nat):UInt8:=s.getD i 0
theorem cw {s:List UInt8}{i:Nat}(h:i < s.length):atB s i=s[i]:=by unfold atB;rw [List.getD_eq_getElem?_getD,List.getElem?_eq_getElem h];rfl
theorem fd {s:List UInt8}{i:Nat}(h:s.length≤i):atB s i=0:=by unfold atB;rw [List.getD_eq_getElem?_getD,List.getElem?_eq_none h];rfl
theorem bG {s:List UInt8}{i:Nat}(h:i < s.length):s.drop i=atB s i :: s.drop (i+1):=by rw [cw h];exact List.drop_eq_getElem_cons h
theorem fZ {p:UInt8→Bool}{s:List UInt8}{i:Nat}(hp:p 0=false) (h:p (atB s i)=true):i < s.length∧((s.drop i).takeWhile p).length=1+((s.drop (i+1)).takeWhile p).length:=by
 have hl:i < s.length:=by
  rcases Nat.lt_or_ge i s.length with x | x
  ·exact x
  rw [fd x,hp] at h;cases h
 refine ⟨hl,?_⟩;rw [bG hl,List.takeWhile_cons,if_pos h,List.length_cons];omega
theorem iq {p:UInt8→Bool}{s:List UInt8}{i:Nat}(h:p (atB s i)=false):((s.drop i).takeWhile p).length=0:=by
 rcases Nat.lt_or_ge i s.length with x | x
 ·rw [bG x,List.takeWhile_cons,if_neg (by rw [h];decide)];rfl
 rw [List.drop_eq_nil_of_le x];rfl
theorem pG {s:List UInt8}{i:Nat}(h:bW (atB s i)=true):i < s.length∧bl (s.drop i)=1+((s.drop (i+1)).takeWhile aM).length:=by
 have hl:i < s.length:=by
  rcases Nat.lt_or_ge i s.length with x | x
  ·exact x
  rw [fd x] at h;cases h
 refine ⟨hl,?_⟩;rw [bG hl,bl,if_pos h]
theorem lD {s:List UInt8}{i:Nat}(h:bW (atB s i)=false):bl (s.drop i)=0:=by
 rcases Nat.lt_or_ge i s.length with x | x
 ·rw [bG x,bl,if_neg (by rw [h];decide)]
 rw [List.drop_eq_nil_of_le x];rfl
theorem lF {c:UInt8}(h:bW c=true):aM c=true:=by unfold aM;rw [h];rfl
theorem pH {c:UInt8}(h:aK c=true):aM c=true:=by unfold aM;rw [h,Bool.or_true];rfl
theorem pI {c:UInt8}(h:(c == 95)=true):aM c=true:=by unfold aM;rw [h,Bool.or_true]
theorem pJ {c:UInt8}(h1:bW c=false) (h2:aK c=false) (h3:(c == 95)=false):aM c=false:=by unfold aM;rw [h1,h2,h3];rfl
theorem am (c d:UInt8):(((c.toNat:Nat):Int) == ((d.toNat:Nat):Int))=(c == d):=by
 by_cases h:c=d
 ·subst h;simp
 rw [beq_eq_false_iff_ne.2 h,beq_eq_false_iff_ne];intro e;exact h (UInt8.toNat.inj (by omega))
theorem vA (w:World) (c:UInt8) (v:Bool) (hv:aM c=v):Calls Tryz.prog 148 #[.int .u8 (c.toNat:Nat)] w (av w (.bool v)):=by
 cases hl:bW c
 ·cases hd:aK c
  ·cases hu:(c == 95)
   ·obtain rfl:v=false:=by rw [← hv];exact pJ hl hd hu
    have h95:(((c.toNat:Nat):Int) == 95)=false:=(am c 95).trans hu;clear hv hu;go_in;go_wp2_with fail;(with_reducible refine (cU _ c false hl).mono ?_);rintro e w1 ⟨rfl,q1⟩;have bw1:=(aa w).trans (q1.mono (aa w).size);have lw1:=q1.size;clear q1;go_wp2_with fail;(with_reducible refine (jK _ c false hd).mono ?_);rintro e w2 ⟨rfl,q2⟩;have bw2:=bw1.trans (q2.mono bw1.size);have lw2:=q2.size;clear q2 bw1;go_wp2;go_ret;exact bj rfl bw2
   obtain rfl:v=true:=by rw [← hv];exact pI hu
   have h95:(((c.toNat:Nat):Int) == 95)=true:=(am c 95).trans hu;clear hv hu;go_in;go_wp2_with fail;(with_reducible refine (cU _ c false hl).mono ?_);rintro e w1 ⟨rfl,q1⟩;have bw1:=(aa w).trans (q1.mono (aa w).size);have lw1:=q1.size;clear q1;go_wp2_with fail;(with_reducible refine (jK _ c false hd).mono ?_);rintro e w2 ⟨rfl,q2⟩;have bw2:=bw1.trans (q2.mono bw1.size);have lw2:=q2.size;clear q2 bw1;go_wp2;go_ret;exact bj rfl bw2
  obtain rfl:v=true:=by rw [← hv];exact pH hd
  clear hv;go_in;go_wp2_with fail;(with_reducible refine (cU _ c false hl).mono ?_);rintro e w1 ⟨rfl,q1⟩;have bw1:=(aa w).trans (q1.mono (aa w).size);have lw1:=q1.size;clear q1;go_wp2_with fail;(with_reducible refine (jK _ c true hd).mono ?_);rintro e w2 ⟨rfl,q2⟩;have bw2:=bw1.trans (q2.mono bw1.size);have lw2:=q2.size;clear q2 bw1;go_wp2;go_ret;exact bj rfl bw2
 obtain rfl:v=true:=by rw [← hv];exact lF hl
 clear hv;go_in;go_wp2_with fail;(with_reducible refine (cU _ c true hl).mono ?_);rintro e w1 ⟨rfl,q1⟩;have bw1:=(aa w).trans (q1.mono (aa w).size);have lw1:=q1.size;clear q1;go_wp2;go_ret;exact bj rfl bw1
theorem jN (w:World) (s:List UInt8) (i:Nat) (d:UInt8) (hd:atB s i=d):Calls Tryz.prog 116 #[ae s,.int .i64 (i:Nat)] w (av w (.int .u8 (d.toNat:Nat))):=by
 have hszs:=bX s;rcases Nat.lt_or_ge i s.length with hl | hl
 ·have hget:∀ h,(⟨s.toArray⟩:ByteArray)[i]'h=d:=fun h=>by rw [← hd];exact (cw hl).symm
  have hlts:i < s.length:=hl;have hi0:(0:Int)≤((i:Nat):Int):=by omega
  have e1:((i:Int) < (s.length:Int))=True:=by simp;omega
  clear hd;go_in;go_wp2;go_ret;exact ⟨rfl,(aa w)⟩
 obtain rfl:d=0:=by rw [← hd];exact fd hl
 have e1:((i:Int) < (s.length:Int))=False:=by simp;omega
 clear hd;go_in;go_wp2;go_ret;exact ⟨rfl,(aa w)⟩
theorem tx (w:World) (s:List UInt8) (i:Nat) (hi:i≤s.length) (hs:s.length < 4611686018427387904) (v:Nat) (hv:i+bl (s.drop i)=v):Calls Tryz.prog 92 #[ae s,.int .i64 (i:Nat)] w (av w (.int .i64 (v:Nat))):=by
 obtain ⟨d,hd⟩:∃ d,atB s i=d:=⟨_,rfl⟩;cases hl:bW d
 ·obtain rfl:i=v:=by rw [← hv,lD (by rw [hd];exact hl)];rfl
  clear hv;go_in;go_wp2_with fail;(with_reducible refine (jN _ (s) (i) d hd).mono ?_);rintro e w1 ⟨rfl,q1⟩;have bw1:=(aa w).trans (q1.mono (aa w).size);have lw1:=q1.size;clear q1;go_wp2_with fail;(with_reducible refine (cV _ d false hl).mono ?_);rintro e w2 ⟨rfl,q2⟩;have bw2:=bw1.trans (q2.mono bw1.size);have lw2:=q2.size;clear q2 bw1;go_wp2;go_ret;exact ⟨rfl,bw2⟩
 have hv:i+((s.drop i).takeWhile aM).length=v:=by rw [← hv,(pG (by rw [hd];exact hl)).2,(fZ (p:=aM) rfl (by rw [hd];exact lF hl)).2]
 have HV:=Qh hv;clear hv;go_in;go_wp2_with fail;(with_reducible refine (jN _ (s) (i) d hd).mono ?_);rintro e w1 ⟨rfl,q1⟩;have bw1:=(aa w).trans (q1.mono (aa w).size);have lw1:=q1.size;clear q1;go_wp2_with fail;(with_reducible refine (cV _ d true hl).mono ?_);rintro e w2 ⟨rfl,q2⟩;have bw2:=bw1.trans (q2.mono bw1.size);have lw2:=q2.size;clear q2 bw1;go_wp2_with fail;clear hd hl;go_loopw [1] (fun iv wr=>∃ (j:Nat),iv=.int .i64 (j:Nat)∧j≤s.length∧Hid (j+((s.drop j).takeWhile aM).length=v)∧Kp w2 wr∧Below w.heap.size w wr∧w2.heap.size≤wr.heap.size) (fun iv _=>s.length - (intOf iv).toNat)
 case atStart=>exact ⟨i,rfl,hi,HV,Kp.refl _,bw2,Qr⟩
 case round =>
  obtain ⟨j,rfl,hj,hw,hkp,hbw,hlw⟩:=hrel;obtain ⟨d,hd⟩:∃ d,atB s j=d:=⟨_,rfl⟩;cases hl:bW d
  ·cases hg:aK d
   ·cases hu:(d == 95)
    ·have hjv:j=v:=by rw [← hw.out,iq (p:=aM) (by rw [hd];exact pJ hl hg hu)];rfl
     subst hjv;have h95:(((d.toNat:Nat):Int) == 95)=false:=(am d 95).trans hu;go_wp2_with fail;(with_reducible refine (jN _ (s) (j) d hd).mono ?_);rintro e w3 ⟨rfl,q3⟩;replace hkp:=hkp.below q3;have bw3:=hbw.trans (q3.mono hbw.size);have lw3:=q3.size;clear q3;go_wp2_with fail;(with_reducible refine (cV _ d false hl).mono ?_);rintro e w4 ⟨rfl,q4⟩;replace hkp:=hkp.below q4;have bw4:=bw3.trans (q4.mono bw3.size);have lw4:=q4.size;clear q4 bw3;go_wp2_with fail;(with_reducible refine (jN _ (s) (j) d hd).mono ?_);rintro e w5 ⟨rfl,q5⟩;replace hkp:=hkp.below q5;have bw5:=bw4.trans (q5.mono bw4.size);have lw5:=q5.size;clear q5 bw4;go_wp2_with fail;(with_reducible refine (jL _ d false hg).mono ?_);rintro e w6 ⟨rfl,q6⟩;replace hkp:=hkp.below q6;have bw6:=bw5.trans (q6.mono bw5.size);have lw6:=q6.size;clear q6 bw5;go_wp2_with fail;(with_reducible refine (jN _ (s) (j) d hd).mono ?_);rintro e w7 ⟨rfl,q7⟩;replace hkp:=hkp.below q7;have bw7:=bw6.trans (q7.mono bw6.size);have lw7:=q7.size;clear q7 bw6;go_wp2;go_ret;exact ⟨rfl,bw7⟩
    obtain ⟨hlt,hst⟩:=fZ (p:=aM) (s:=s) (i:=j) rfl (by rw [hd];exact pI hu);have hw2:Hid (j+1+((s.drop (j+1)).takeWhile aM).length=v):=Qh (by rw [← hw.out,hst];omega);clear hst;have h95:(((d.toNat:Nat):Int) == 95)=true:=(am d 95).trans hu;go_wp2_with fail;(with_reducible refine (jN _ (s) (j) d hd).mono ?_);rintro e w3 ⟨rfl,q3⟩;replace hkp:=hkp.below q3;have bw3:=hbw.trans (q3.mono hbw.size);have lw3:=q3.size;clear q3;go_wp2_with fail;(with_reducible refine (cV _ d false hl).mono ?_);rintro e w4 ⟨rfl,q4⟩;replace hkp:=hkp.below q4;have bw4:=bw3.trans (q4.mono bw3.size);have lw4:=q4.size;clear q4 bw3;go_wp2_with fail;(with_reducible refine (jN _ (s) (j) d hd).mono ?_);rintro e w5 ⟨rfl,q5⟩;replace hkp:=hkp.below q5;have bw5:=bw4.trans (q5.mono bw4.size);have lw5:=q5.size;clear q5 bw4;go_wp2_with fail;(with_reducible refine (jL _ d false hg).mono ?_);rintro e w6 ⟨rfl,q6⟩;replace hkp:=hkp.below q6;have bw6:=bw5.trans (q6.mono bw5.size);have lw6:=q6.size;clear q6 bw5;go_wp2_with fail;(with_reducible refine (jN _ (s) (j) d hd).mono ?_);rintro e w7 ⟨rfl,q7⟩;replace hkp:=hkp.below q7;have bw7:=bw6.trans (q7.mono bw6.size);have lw7:=q7.size;clear q7 bw6;go_wp2_with fail;go_roundw
    case rel=>exact ⟨j+1,by go_num,by omega,hw2,hkp,bw7,by omega⟩
    case measure=>simp [intOf];omega
   obtain ⟨hlt,hst⟩:=fZ (p:=aM) (s:=s) (i:=j) rfl (by rw [hd];exact pH hg);have hw2:Hid (j+1+((s.drop (j+1)).takeWhile aM).length=v):=Qh (by rw [← hw.out,hst];omega);clear hst;go_wp2_with fail;(with_reducible refine (jN _ (s) (j) d hd).mono ?_);rintro e w3 ⟨rfl,q3⟩;replace hkp:=hkp.below q3;have bw3:=hbw.trans (q3.mono hbw.size);have lw3:=q3.size;clear q3;go_wp2_with fail;(with_reducible refine (cV _ d false hl).mono ?_);rintro e w4 ⟨rfl,q4⟩;replace hkp:=hkp.below q4;have bw4:=bw3.trans (q4.mono bw3.size);have lw4:=q4.size;clear q4 bw3;go_wp2_with fail;(with_reducible refine (jN _ (s) (j) d hd).mono ?_);rintro e w5 ⟨rfl,q5⟩;replace hkp:=hkp.below q5;have bw5:=bw4.trans (q5.mono bw4.size);have lw5:=q5.size;clear q5 bw4;go_wp2_with fail;(with_reducible refine (jL _ d true hg).mono ?_);rintro e w6 ⟨rfl,q6⟩;replace hkp:=hkp.below q6;have bw6:=bw5.trans (q6.mono bw5.size);have lw6:=q6.size;clear q6 bw5;go_wp2_with fail;go_roundw
   case rel=>exact ⟨j+1,by go_num,by omega,hw2,hkp,bw6,by omega⟩
   case measure=>simp [intOf];omega
  obtain ⟨hlt,hst⟩:=fZ (p:=aM) (s:=s) (i:=j) rfl (by rw [hd];exact lF hl);have hw2:Hid (j+1+((s.drop (j+1)).takeWhile aM).length=v):=Qh (by rw [← hw.out,hst];omega);clear hst;go_wp2_with fail;(with_reducible refine (jN _ (s) (j) d hd).mono ?_);rintro e w3 ⟨rfl,q3⟩;replace hkp:=hkp.below q3;have bw3:=hbw.trans (q3.mono hbw.size);have lw3:=q3.size;clear q3;go_wp2_with fail;(with_reducible refine (cV _ d true hl).mono ?_);rintro e w4 ⟨rfl,q4⟩;replace hkp:=hkp.below q4;have bw4:=bw3.trans (q4.mono bw3.size);have lw4:=q4.size;clear q4 bw3;go_wp2_with fail;go_roundw
  case rel=>exact ⟨j+1,by go_num,by omega,hw2,hkp,bw4,by omega⟩
  case measure=>simp [intOf];omega
theorem pK (w:World) (s:List UInt8) (i:Nat) (hi:i≤s.length) (hs:s.length < 4611686018427387904) (v:Nat) (hv:i+cg (s.drop i)=v):Calls Tryz.prog 156 #[ae s,.int .i64 (i:Nat)] w (av w (.int .i64 (v:Nat))):=by
 have HV:=Qh hv;clear hv;go_in;go_wp2_with fail;go_loopw [1] (fun iv wr=>∃ (j:Nat),iv=.int .i64 (j:Nat)∧j≤s.length∧Hid (j+((s.drop j).takeWhile aK).length=v)∧Kp w wr∧Below w.heap.size w wr∧w.heap.size≤wr.heap.size) (fun iv _=>s.length - (intOf iv).toNat)
 case atStart=>exact ⟨i,rfl,hi,HV,Kp.refl _,(aa w),Qr⟩
 case round =>
  obtain ⟨j,rfl,hj,hw,hkp,hbw,hlw⟩:=hrel;obtain ⟨d,hd⟩:∃ d,atB s j=d:=⟨_,rfl⟩;cases hg:aK d
  ·have hjv:j=v:=by rw [← hw.out,iq (p:=aK) (by rw [hd];exact hg)];rfl
   subst hjv;go_wp2_with fail;(with_reducible refine (jN _ (s) (j) d hd).mono ?_);rintro e w1 ⟨rfl,q1⟩;replace hkp:=hkp.below q1;have bw1:=hbw.trans (q1.mono hbw.size);have lw1:=q1.size;clear q1;go_wp2_with fail;(with_reducible refine (jL _ d false hg).mono ?_);rintro e w2 ⟨rfl,q2⟩;replace hkp:=hkp.below q2;have bw2:=bw1.trans (q2.mono bw1.size);have lw2:=q2.size;clear q2 bw1;go_wp2;go_ret;exact ⟨rfl,bw2⟩
  obtain ⟨hlt,hst⟩:=fZ (p:=aK) (s:=s) (i:=j) rfl (by rw [hd];exact hg);have hw2:Hid (j+1+((s.drop (j+1)).takeWhile aK).length=v):=Qh (by rw [← hw.out,hst];omega);clear hst;go_wp2_with fail;(with_reducible refine (jN _ (s) (j) d hd).mono ?_);rintro e w1 ⟨rfl,q1⟩;replace hkp:=hkp.below q1;have bw1:=hbw.trans (q1.mono hbw.size);have lw1:=q1.size;clear q1;go_wp2_with fail;(with_reducible refine (jL _ d true hg).mono ?_);rintro e w2 ⟨rfl,q2⟩;replace hkp:=hkp.below q2;have bw2:=bw1.trans (q2.mono bw1.size);have lw2:=q2.size;clear q2 bw1;go_wp2_with fail;go_roundw
  case rel=>exact ⟨j+1,by go_num,by omega,hw2,hkp,bw2,by omega⟩
  case measure=>simp [intOf];omega
theorem vB (w:World) (s:List UInt8) (i:Nat) (hi:i≤s.length) (hs:s.length < 4611686018427387904) (v:Nat) (hv:cg (s.drop i)=v):Calls Tryz.prog 149 #[ae s,.int .i64 (i:Nat)] w (av w (.int .i64 (v:Nat))):=by
 have HV:Hid (0+((s.drop (i+0)).takeWhile aK).length=v):=Qh (by rw [← hv,Nat.zero_add];rfl);have hszs:=bX s;clear hv;go_in;go_wp2_with fail;go_loopw [5] (fun iv wr=>∃ (j:Nat),iv=.int .i64 (j:Nat)∧i+j≤s.length∧Hid (j+((s.drop (i+j)).takeWhile aK).length=v)∧Kp w wr∧Below w.heap.size w wr∧w.heap.size≤wr.heap.size) (fun iv _=>s.length - (intOf iv).toNat)
 case atStart=>exact ⟨0,rfl,hi,HV,Kp.refl _,(aa w),Qr⟩
 case round =>
  obtain ⟨j,rfl,hj,hw,hkp,hbw,hlw⟩:=hrel;have hw1:IntKind.i64.wrap ((i:Int)+(j:Int))=(i:Int)+(j:Int):=IntWalk.i64_in _ ⟨by omega,by omega⟩;rcases Nat.lt_or_ge (i+j) s.length with hl | hl
  ·obtain ⟨d,hd⟩:∃ d,atB s (i+j)=d:=⟨_,rfl⟩
   have hi0:(0:Int)≤(i:Int)+(j:Int):=by omega
   have hi1:(i:Int)+(j:Int) < (s.length:Int):=by omega
   have et:((i:Int)+(j:Int)).toNat=i+j:=by omega
   have hget:∀ h,(⟨s.toArray⟩:ByteArray)[i+j]'h=d:=fun h=>by rw [← hd];exact (cw hl).symm
   cases hg:aK d
   ·have hjv:j=v:=by rw [← hw.out,iq (p:=aK) (by rw [hd];exact hg)];rfl
    subst hjv;clear hd;go_wp2_with fail;(with_reducible refine (jK _ d false hg).mono ?_);rintro e w1 ⟨rfl,q1⟩;replace hkp:=hkp.below q1;have bw1:=hbw.trans (q1.mono hbw.size);have lw1:=q1.size;clear q1;go_wp2;go_ret;exact ⟨rfl,bw1⟩
   obtain ⟨_,hst⟩:=fZ (p:=aK) (s:=s) (i:=i+j) rfl (by rw [hd];exact hg);have hw2:Hid (j+1+((s.drop (i+(j+1))).takeWhile aK).length=v):=Qh (by rw [← hw.out,hst,Nat.add_assoc i j 1];omega);clear hst hd;go_wp2_with fail;(with_reducible refine (jK _ d true hg).mono ?_);rintro e w1 ⟨rfl,q1⟩;replace hkp:=hkp.below q1;have bw1:=hbw.trans (q1.mono hbw.size);have lw1:=q1.size;clear q1;go_wp2_with fail;go_roundw
   case rel=>exact ⟨j+1,by go_num,by omega,hw2,hkp,bw1,by omega⟩
   case measure=>simp [intOf];omega
  have hjv:j=v:=by rw [← hw.out,iq (p:=aK) (by rw [fd hl];rfl)];rfl
  subst hjv;have hi1:((i:Int)+(j:Int) < (s.length:Int))=False:=by simp;omega
  go_wp2;go_ret;exact ⟨rfl,hbw⟩
theorem dD (w:World) (s:List UInt8) (hs:s.length < 4611686018427387904) (v:Nat) (hv:bl s=v):Calls Tryz.prog 108 #[ae s] w (av w (.int .i64 (v:Nat))):=by
 have hszs:=bX s;rcases Nat.eq_zero_or_pos s.length with h0 | h0
 ·obtain rfl:s=[]:=List.eq_nil_of_length_eq_zero h0
  obtain rfl:0=v:=hv;clear hs;go_in;go_wp2;go_ret;exact ⟨rfl,(aa w)⟩
 obtain ⟨y,ys,hyy⟩:∃ y ys,s=y :: ys:=List.exists_cons_of_length_pos h0;have hBe:((⟨s.toArray⟩:ByteArray) == ⟨#[]⟩)=false:=by rw [hyy];rfl
 have hBl:(s == [])=false:=by rw [hyy];rfl
 have hBn:(s=[])=False:=by rw [hyy];simp
 clear hyy;obtain ⟨d,hd⟩:∃ d,atB s 0=d:=⟨_,rfl⟩;have hget:∀ h,(⟨s.toArray⟩:ByteArray)[0]'h=d:=fun h=>by rw [← hd];exact (cw h0).symm
 have hi1:(0:Int) < (s.length:Int):=by omega
 cases hl:bW d
 ·obtain rfl:0=v:=by rw [← hv];exact (lD (s:=s) (i:=0) (by rw [hd];exact hl)).symm
  clear hd hv;go_in;go_wp2_with fail;(with_reducible refine (cU _ d false hl).mono ?_);rintro e w1 ⟨rfl,q1⟩;have bw1:=(aa w).trans (q1.mono (aa w).size);have lw1:=q1.size;clear q1;go_wp2;go_ret;exact ⟨rfl,bw1⟩
 have HV:Hid (1+((s.drop 1).takeWhile aM).length=v):=Qh (by rw [← hv];exact ((pG (s:=s) (i:=0) (by rw [hd];exact hl)).2).symm);clear hv hd;go_in;go_wp2_with fail;(with_reducible refine (cU _ d true hl).mono ?_);rintro e w1 ⟨rfl,q1⟩;have bw1:=(aa w).trans (q1.mono (aa w).size);have lw1:=q1.size;clear q1;go_wp2_with fail;clear hget hl hi1 hBe hBl hBn;go_loopw [3] (fun iv wr=>∃ (j:Nat),iv=.int .i64 (j:Nat)∧j≤s.length∧Hid (j+((s.drop j).takeWhile aM).length=v)∧Kp w1 wr∧Below w.heap.size w wr∧w1.heap.size≤wr.heap.size) (fun iv _=>s.length - (intOf iv).toNat)
 case atStart=>exact ⟨1,rfl,h0,HV,Kp.refl _,bw1,Qr⟩
 case round =>
  obtain ⟨j,rfl,hj,hw,hkp,hbw,hlw⟩:=hrel;rcases Nat.lt_or_ge j s.length with hl | hl
  ·obtain ⟨d,hd⟩:∃ d,atB s j=d:=⟨_,rfl⟩
   have hget:∀ h,(⟨s.toArray⟩:ByteArray)[j]'h=d:=fun h=>by rw [← hd];exact (cw hl).symm
   have hlt:j < s.length:=hl;cases hg:aM d
   ·have hjv:j=v:=by rw [← hw.out,iq (p:=aM) (by rw [hd];exact hg)];rfl
    subst hjv;clear hd;go_wp2_with fail;(with_reducible refine (vA _ d false hg).mono ?_);rintro e w2 ⟨rfl,q2⟩;replace hkp:=hkp.below q2;have bw2:=hbw.trans (q2.mono hbw.size);have lw2:=q2.size;clear q2;go_wp2;go_ret;exact ⟨rfl,bw2⟩
   obtain ⟨_,hst⟩:=fZ (p:=aM) (s:=s) (i:=j) rfl (by rw [hd];exact hg);have hw2:Hid (j+1+((s.drop (j+1)).takeWhile aM).length=v):=Qh (by rw [← hw.out,hst];omega);clear hst hd;go_wp2_with fail;(with_reducible refine (vA _ d true hg).mono ?_);rintro e w2 ⟨rfl,q2⟩;replace hkp:=hkp.below q2;have bw2:=hbw.trans (q2.mono hbw.size);have lw2:=q2.size;clear q2;go_wp2_with fail;go_roundw
   case rel=>exact ⟨j+1,by go_num,by omega,hw2,hkp,bw2,by omega⟩
   case measure=>simp [intOf];omega
  have hjv:j=v:=by rw [← hw.out,iq (p:=aM) (by rw [fd hl];rfl)];rfl
  subst hjv;have hi1:((j:Int) < (s.length:Int))=False:=by simp;omega
  go_wp2;go_ret;exact ⟨rfl,hbw⟩
theorem aY (w:World) (s:List UInt8) (x:Int) (i:Nat) (hx:x=((i:Nat):Int)) (d:UInt8) (hd:atB s i=d):Calls Tryz.prog 116 #[ae s,.int .i64 x] w (av w (.int .u8 (d.toNat:Nat))):=by
 subst hx;exact jN w s i d hd
theorem au (w:World) (s:List UInt8) (x:Int) (i:Nat) (hx:x=((i:Nat):Int)) (hi:i≤s.length) (hs:s.length < 4611686018427387904) (y:Int) (hy:((i+cg (s.drop i):Nat):Int)=y):Calls Tryz.prog 156 #[ae s,.int .i64 x] w (av w (.int .i64 y)):=by
 subst hx hy;exact pK w s i hi hs _ rfl
theorem bp (w:World) (s:List UInt8) (x:Int) (i:Nat) (hx:x=((i:Nat):Int)) (hi:i≤s.length) (hs:s.length < 4611686018427387904) (y:Int) (hy:((i+bl (s.drop i):Nat):Int)=y):Calls Tryz.prog 92 #[ae s,.int .i64 x] w (av w (.int .i64 y)):=by
 subst hx hy;exact tx w s i hi hs _ rfl
theorem aI (w:World) (s:List UInt8) (x:Int) (i:Nat) (hx:x=((i:Nat):Int)) (hi:i≤s.length) (hs:s.length < 4611686018427387904) (y:Int) (hy:((cg (s.drop i):Nat):Int)=y):Calls Tryz.prog 149 #[ae s,.int .i64 x] w (av w (.int .i64 y)):=by
 subst hx hy;exact vB w s i hi hs _ rfl

theorem val_rep (m:Nat):val (List.replicate m 0)=0:=by
 induction m with
 | zero=>rfl
 | succ m ih=>rw [List.replicate_succ,val,ih]
theorem rP (m:Nat):Wds (List.replicate m 0):=by intro x hx;rw [List.eq_of_mem_replicate hx];omega
theorem pL (l:List Nat):(cellsOf l).toList=words l:=by simp [cellsOf,words]
theorem OwS.made (w:World) {B:Nat}(L:List Nat) (n:Nat) (hB:B≤w.heap.size) (hn:n≤4398046511104) (hL:L.length=n) (hW:Wds L):OwS (w.alloc (.cells (cellsOf L) 58)) B w.heap.size n n L:=by
 refine ⟨?_,hW⟩;rw [← pL];exact World.ownsRow_lit w (cellsOf L) n hB (by unfold maxLen;omega) (by simp [cellsOf,hL])
theorem OwS.far {w:World}{B g n cap:Nat}{l:List Nat}(h:OwS w B g n cap l) {p:Addr}(hp:g≠p.block) (u:Value):OwS (w.setCell p u) B g n cap l:=by
 refine ⟨⟨h.1.1,?_⟩,h.2⟩;rcases h.1.2 with ⟨e,_⟩ | ⟨g',c',cur,e,hB,hgg,r⟩
 ·cases e
 have e':=e;injection e with e1 _ e2;injection e1 with e1;injection e1 with e1;subst e1;exact .inr ⟨g,c',cur,e',hB,(Below.heap_setCell w p u g hp).trans hgg,r⟩
theorem xG {u p s:Nat}(hu:u+p < 4294967296) (ho:u ||| p=u+p) (hp:2 ^ s=p):bits .or .u32 (u:Int) ((2:Int) ^ s % 4294967296)=((u+p:Nat):Int):=by
 have e:(2:Int) ^ s % 4294967296=(p:Int):=by
  have h:(2:Int) ^ s=((2 ^ s:Nat):Int):=by simp
  rw [h,hp];omega
 rw [e,← ho];exact u32_or_nat u p (by omega) (by omega)
theorem Bw {q m:Nat}:(2 * q+1) * 2 ^ m=q * 2 ^ (m+1)+2 ^ m:=by rw [Nat.pow_succ];grind
theorem AJ {q m:Nat}:(2 * q) * 2 ^ m=q * 2 ^ (m+1):=by rw [Nat.pow_succ];grind
def Bx (a b:Nat) (Lq Lr:List Nat) (k:Nat):Prop:=val Lq=a / 2 ^ k / b * 2 ^ k∧val Lr=a / 2 ^ k % b
theorem qO (w:World) (A n c l) (wa:Wd w A n c l) (hn:n≤1000000000000) (A' n' c' l') (wb:Wd w A' n' c' l') (hn':n'≤1000000000000) (h0:val l'≠0) :
 Calls Tryz.prog 258 #[.slice A n c,.slice A' n' c'] w (qA w (val l) (val l')):=by
 have HL:=Qh wa.2.1;have HL':=Qh wb.2.1;obtain ⟨va,hva⟩:∃ v,val l=v:=⟨_,rfl⟩;obtain ⟨vb,hvb⟩:∃ v,val l'=v:=⟨_,rfl⟩;have HA:=Qh hva;have HB:=Qh hvb;rw [hvb] at h0;have H0:=Qh (Nat.pos_of_ne_zero h0);rw [hva,hvb]
 obtain ⟨gb,ob,rfl,hgb,_⟩:=wb.at2 (by
  rcases Nat.eq_zero_or_pos n' with e | e
  ·exfalso
   have h9:=HL'.out;rw [e] at h9;rw [List.eq_nil_of_length_eq_zero h9.symm] at hvb;exact h0 hvb.symm
  exact e)
 clear h0 hva hvb;go_in
 go_wp2_with (first
  | (at_make;refine aO _ rfl _ _ rfl _ _ _ _ n rfl rfl (by omega) (by omega) (by omega) ?_)
  | (at_make;refine aO _ rfl _ _ rfl _ _ _ _ (n'+1) rfl rfl (by omega) (by omega) (by omega) ?_))
 (with_reducible refine (vk _ A n c l ?_ (by omega)).mono ?_);(exact wa.keep (((Kp.refl w).alloc _).alloc _));rintro e w1 ⟨N,rfl,hN1,hN2,rfl⟩;rw [HA.out] at hN1;go_wp2_with fail
 have oq0:OwS ((w.alloc (.cells (cellsOf (List.replicate n 0)) 58)).alloc (.cells (cellsOf (List.replicate (n'+1) 0)) 58)) w.heap.size w.heap.size n n (List.replicate n 0) :=
  (OwS.made w (List.replicate n 0) n Qr (by omega) (by simp) (rP n)).belw ((aa _).alloc Qr _)
 have or0:OwS ((w.alloc (.cells (cellsOf (List.replicate n 0)) 58)).alloc (.cells (cellsOf (List.replicate (n'+1) 0)) 58)) w.heap.size (w.heap.size+1) (n'+1) (n'+1) (List.replicate (n'+1) 0):=by
  have h:=OwS.made (w.alloc (.cells (cellsOf (List.replicate n 0)) 58)) (B:=w.heap.size) (List.replicate (n'+1) 0) (n'+1) (by simp) (by omega) (by simp) (rP _);simpa using h
 have HO:=Qh (And.intro oq0 or0);clear oq0 or0;go_loopw [8] (fun iv wr=>∃ (k:Nat) (z:Int) (Lq Lr:List Nat),k≤N∧iv=.int .i64 z∧z+1=(k:Int)∧Bx va vb Lq Lr k∧OwS wr w.heap.size w.heap.size n n Lq∧OwS wr w.heap.size (w.heap.size+1) (n'+1) (n'+1) Lr∧Below w.heap.size w wr) (fun iv _=>(intOf iv+1).toNat)
 case atStart =>
  refine ⟨N,(N:Int) - 1,_,_,Qr,by go_num,by omega,⟨?_,?_⟩,HO.out.1,HO.out.2,((aa w).alloc Qr _).alloc (by simp) _⟩
  ·rw [val_rep,Nat.div_eq_of_lt hN1];simp
  rw [val_rep,Nat.div_eq_of_lt hN1];simp
 case round =>
  obtain ⟨k,z,Lq,Lr,hk,rfl,hz,hI,hq,hr,hbel⟩:=hrel;have HK:=Qh ((Kp.refl w).below hbel);have HI:=Qh hI;have HQ:=Qh hq;have HR:=Qh hr;have HBL:=Qh hbel;clear hI hq hr hbel HO;by_cases hk0:k=0
  ·subst hk0
   have ez:z=-1:=by omega
   subst ez;go_wp2_with fail;(with_reducible refine (eX _ (some ⟨w.heap.size,0,none⟩) n n Lq ?_ (by omega)).mono ?_);(exact HQ.out.toWd);rintro e w1 ⟨A1,n1,c1,rfl,h1,hb1⟩;have HR2:=Qh (HR.out.belw hb1);have HBL2:=Qh (HBL.out.trans (hb1.mono HBL.out.size));clear hb1;go_wp2_with fail;(with_reducible refine (eX _ (some ⟨w.heap.size+1,0,none⟩) (n'+1) (n'+1) Lr ?_ (by omega)).mono ?_);(exact HR2.out.toWd);rintro e w2 ⟨A2,n2,c2,rfl,h2,hb2⟩;have h1':=h1.keep ((Kp.refl w1).below hb2);have HBL3:=HBL2.out.trans (hb2.mono HBL2.out.size);rw [HI.out.1] at h1';rw [HI.out.2] at h2;simp only [Nat.pow_zero,Nat.div_one,Nat.mul_one] at h1' h2;have HF:=Qh (And.intro h1' (And.intro h2 HBL3));clear h1 h1' h2 HBL3 hb2;go_wp2;refine bodyPost_ret (v:=.tuple #[.slice A1 n1 c1,.slice A2 n2 c2]) (by simp [results,Tryz.results258,go_sem]) rfl ?_;exact ⟨A1,n1,c1,A2,n2,c2,rfl,HF.out.1,HF.out.2.1,HF.out.2.2⟩
  obtain ⟨m,rfl⟩:∃ m,k=m+1:=⟨k - 1,by omega⟩;have ez:z=(m:Int):=by omega
  subst ez;have hm32:m / 32 < n:=by omega
  obtain ⟨ga,oa,rfl,hgl,hca⟩:=(wa.keep HK.out).at2 (by omega);have hcx:=hca (m / 32) hm32;obtain ⟨x,hx⟩:∃ x,wd l (m / 32)=x:=⟨_,rfl⟩;have hx1:x < 4294967296:=by rw [← hx];exact wa.lt _
  rw [hx] at hcx;have HX:=Qh hx;obtain ⟨br,hbr⟩:∃ d,bits .and .u32 ((x:Int) / 2 ^ (m % 32)) 1=d:=⟨_,rfl⟩;obtain ⟨b,hb⟩:∃ b,va / 2 ^ m % 2=b:=⟨_,rfl⟩
  have hbb:br=(b:Int):=by
   rw [← hbr,← hb,← HA.out,← zA wa.1 m,hx];have e:(x:Int) / 2 ^ (m % 32)=((x / 2 ^ (m % 32):Nat):Int):=by simp
   rw [e,n0 _ (Nat.lt_of_le_of_lt (Nat.div_le_self _ _) hx1)]
  have HB1:=Qh hb;have hb1:b≤1:=by omega
  clear hca hx hz hk0 hb;go_wp2_with fail
  try rw [hbb]
  clear hbr hbb;go_loopw [9,36] (fun cv kv w2=>∃ (k cr:Nat) (L2:List Nat),k≤n'+1∧kv=.int .i64 (k:Nat)∧cv=.int .u32 (cr:Nat)∧cr≤1∧mA Lr L2 b k cr∧OwS w2 w.heap.size w.heap.size n n Lq∧OwS w2 w.heap.size (w.heap.size+1) (n'+1) (n'+1) L2∧Below w.heap.size w w2) (fun _ kv _=>n'+1 - (intOf kv).toNat)
  case atStart=>exact ⟨0,b,Lr,Nat.zero_le _,rfl,rfl,hb1,mA.start _ _,HQ.out,HR.out,HBL.out⟩
  case round =>
   obtain ⟨k,cr,L2,hk2,rfl,rfl,hcr,hI2,hq2,hr2,hbel2⟩:=hrel;have HI2:=Qh hI2;have HQ2:=Qh hq2;have HR2:=Qh hr2;have HBL2:=Qh hbel2;clear hI2 hq2 hr2 hbel2;by_cases hkk:k < n'+1
   ·obtain ⟨y,hy⟩:∃ y,wd Lr k=y:=⟨_,rfl⟩
    have hy1:y < 4294967296:=by rw [← hy];exact bH HR.out.2 _
    have hck:=HR2.out.cell k hkk;rw [HI2.out.1 k Qr,hy] at hck;have hfk:=HR2.out.frozen k;have HY:=Qh hy;obtain ⟨s,hs⟩:∃ s,bits .or .u32 ((y:Int) * 2 % 4294967296) (cr:Int)=s:=⟨_,rfl⟩
    have he:s=((y * 2 % 4294967296+cr:Nat):Int):=by
     rw [← hs,← (pB hcr hy1).1];exact u32_or_nat (y * 2 % 4294967296) cr (Nat.mod_lt _ (by decide)) (by omega)
    have HE:=Qh he;have HS:=Qh (pB hcr hy1).2;clear hy he;go_wp2;go_region;clear hs;go_wp2;go_roundw
    case rel =>
     have hst:=HI2.out.step HY.out hy1 (by rw [← HR2.out.len];exact hkk);refine ⟨k+1,y / 2147483648,L2.set k (y * 2 % 4294967296+cr),by omega,by go_num,by go_num,HS.out.2,hst,?_,?_,?_⟩
     ·exact OwS.far (w:=wr) HQ2.out (p:=⟨w.heap.size+1,k,none⟩) (by simp) _
     ·exact OwS.set (w:=wr) HR2.out k HS.out.1 HE.out
     exact (Below.setCell HBL2.out (p:=⟨w.heap.size+1,k,none⟩) (by simp) _).drew
    case measure=>simp [intOf];omega
   have hkn:k=n'+1:=by omega
   subst hkn
   have hv2:val L2=2 * val Lr+b:=by
    have h3:=HR2.out.len;have h4:=HR.out.len;refine mA.fin HI2.out (by omega) (by omega) ?_;refine vi (v:=vb) ?_ ?_ hb1
    ·rw [HI.out.2];exact Nat.mod_lt _ H0.out
    rw [← HB.out,HL'.out];exact cT wb.1
   rw [HI.out.2,← HB1.out] at hv2;obtain ⟨r2,hr2⟩:∃ r,val L2=r:=⟨_,rfl⟩;rw [hr2] at hv2;have HV:=Qh hv2;have HR2v:=Qh hr2;clear hv2 hr2;by_cases hge:vb≤r2
   ·have hc0:0≤bA r2 vb:=by unfold bA;(repeat' split) <;> omega
    obtain ⟨cv,hcv⟩:∃ cv,bA r2 vb=cv:=⟨_,rfl⟩;rw [hcv] at hc0;have HC:=Qh hcv;clear hcv;go_wp2_with fail;(with_reducible refine (er _ (some ⟨w.heap.size+1,0,none⟩) (n'+1) (n'+1) L2 ?_ ?_ (some ⟨gb,ob,none⟩) n' c' l' ?_ ?_).mono ?_);(exact HR2.out.toWd);(omega);(exact wb.keep ((Kp.refl w).below HBL2.out));(omega);rintro e w1 ⟨rfl,hbl1⟩;rw [HR2v.out,HB.out,HC.out];have HQ3:=Qh (HQ2.out.belw hbl1);have HR3:=Qh (HR2.out.belw hbl1);have HBL3:=Qh (HBL2.out.trans (hbl1.mono HBL2.out.size));clear hbl1 HQ2 HR2 HBL2;go_wp2_with fail;(with_reducible refine (gM _ w.heap.size (w.heap.size+1) (n'+1) (n'+1) L2 ?_ ?_ (some ⟨gb,ob,none⟩) n' c' l' ?_ ?_ ?_ ?_).mono ?_)
    ·exact HR3.out
    ·omega
    ·exact wb.keep ((Kp.refl w).below HBL3.out)
    ·intro ad e;injection e with e;subst e;show gb≠_;omega
    ·omega
    ·rw [HR2v.out,HB.out];exact hge
    rintro e w2 ⟨L3,rfl,hr3,hv3,hon⟩;rw [HR2v.out,HB.out] at hv3;have hq3:=hon.own HQ3.out (by omega);have HBL4:=Qh (HBL3.out.trans (hon.1.mono (by omega)));have HR4:=Qh hr3;have HV3:=Qh hv3;obtain ⟨u,hu⟩:∃ u,wd Lq (m / 32)=u:=⟨_,rfl⟩;have hcq:=hq3.cell (m / 32) hm32;have hfq:=hq3.frozen (m / 32);rw [hu] at hcq;have hob:=zB HQ.out.2 m (by rw [← HQ.out.len];exact hm32) HI.out.1;rw [hu] at hob;obtain ⟨p,hp⟩:∃ p,2 ^ (m % 32)=p:=⟨_,rfl⟩;rw [hp] at hob;have HQ4:=Qh hq3;have HOB:=Qh hob;have HU:=Qh hu;have HP:=Qh hp;clear hr3 hv3 hon hq3 HQ3 HR3 HBL3 hu hob hp;go_wp2;go_region;go_wp2;go_roundw
    case rel =>
     have hbi:=zC (a:=va) (k:=m) HV.out hge H0.out;have he:=xG HOB.out.2.1 HOB.out.1 HP.out;refine ⟨m,(m:Int) - 1,Lq.set (m / 32) (u+p),L3,by omega,by go_num,by omega,⟨?_,?_⟩,?_,?_,?_⟩
     ·rw [HOB.out.2.2,HI.out.1,hbi.1,Bw]
     ·rw [HV3.out,hbi.2]
     ·exact OwS.set (w:=w2) HQ4.out (m / 32) HOB.out.2.1 he
     ·exact OwS.far (w:=w2) HR4.out (p:=⟨w.heap.size,m / 32,none⟩) (by simp) _
     exact (Below.setCell HBL4.out (p:=⟨w.heap.size,m / 32,none⟩) (by simp) _).drew
    case measure=>simp [intOf] <;> omega
   have hc0:bA r2 vb < 0:=by unfold bA;(repeat' split) <;> omega
   obtain ⟨cv,hcv⟩:∃ cv,bA r2 vb=cv:=⟨_,rfl⟩;rw [hcv] at hc0;have HC:=Qh hcv;clear hcv;go_wp2_with fail;(with_reducible refine (er _ (some ⟨w.heap.size+1,0,none⟩) (n'+1) (n'+1) L2 ?_ ?_ (some ⟨gb,ob,none⟩) n' c' l' ?_ ?_).mono ?_);(exact HR2.out.toWd);(omega);(exact wb.keep ((Kp.refl w).below HBL2.out));(omega);rintro e w1 ⟨rfl,hbl1⟩;rw [HR2v.out,HB.out,HC.out];have HQ3:=Qh (HQ2.out.belw hbl1);have HR3:=Qh (HR2.out.belw hbl1);have HBL3:=Qh (HBL2.out.trans (hbl1.mono HBL2.out.size));clear hbl1 HQ2 HR2 HBL2;go_wp2;go_roundw
   case rel =>
    have hbi:=xD (a:=va) (k:=m) HV.out (by omega);refine ⟨m,(m:Int) - 1,Lq,L2,by omega,by go_num,by omega,⟨?_,?_⟩,HQ3.out,HR3.out,HBL3.out⟩
    ·rw [HI.out.1,hbi.1,AJ]
    rw [HR2v.out,hbi.2]
   case measure=>simp [intOf] <;> omega
theorem ir (w:World) (b:Bool) (A:Option Addr) (n c:Nat) (l:List Nat) (s:Bool) (wa:Wd w A n c l) (hn:n≤1099511627776) (hs:WD.s ⟨b,l⟩=s) :
 Calls Tryz.prog 222 #[.agg #[.bool b,.slice A n c]] w (av w (.bool s)):=by subst hs;exact dS w b A n c l wa hn
theorem vC (w:World) (b:Bool) (A:Option Addr) (n c:Nat) (l:List Nat) (s:Int) (wa:Wd w A n c l) (hn:n≤1099511627000) (hs:(WD.z ⟨b,l⟩).sign=s) :
 Calls Tryz.prog 211 #[.agg #[.bool b,.slice A n c]] w (av w (.int .i64 s)):=by subst hs;exact pl w b A n c l wa hn
theorem qP (w:World) (A n c l) (wa:Wd w A n c l) (hn:n≤1000000000000) (A' n' c' l') (wb:Wd w A' n' c' l') (hn':n'≤1000000000000) (x y:Nat) (hx:val l=x) (hy:val l'=y) (h0:y≠0) :
 Calls Tryz.prog 258 #[.slice A n c,.slice A' n' c'] w (qA w x y):=by subst hx hy;exact qO w A n c l wa hn A' n' c' l' wb hn' h0
def xH (w:World) (q r:Int) (e:Ending) (w':World):Prop:=∃ A1 n1 c1 A2 n2 c2,e=.returned (.tuple #[.agg #[.bool (wh q).neg,.slice A1 n1 c1],.agg #[.bool (wh r).neg,.slice A2 n2 c2],.int .i64 0])∧Wd w' A1 n1 c1 (wh q).mag∧Wd w' A2 n2 c2 (wh r).mag∧Below w.heap.size w w'
theorem xI (w:World) (b:Bool) (A n c l) (wa:Wd w A n c l) (hn:n≤1000000000000) (b':Bool) (A' n' c' l') (wb:Wd w A' n' c' l') (hn':n'≤1000000000000) (h0:WD.z ⟨b',l'⟩≠0) (hr0:WD.z ⟨b,l⟩ % WD.z ⟨b',l'⟩=0) :
 Calls Tryz.prog 254 #[.agg #[.bool b,.slice A n c],.agg #[.bool b',.slice A' n' c']] w (xH w (WD.z ⟨b,l⟩ / WD.z ⟨b',l'⟩) (WD.z ⟨b,l⟩ % WD.z ⟨b',l'⟩)):=by
 have HL:=Qh wa.2.1;have HL':=Qh wb.2.1;obtain ⟨s0,hs0'⟩:∃ s,(WD.z ⟨b',l'⟩).sign=s:=⟨_,rfl⟩;have es0:((s0:Int) == 0)=false:=by simp;rintro rfl;exact h0 (Int.sign_eq_zero_iff_zero.1 hs0')
 have HSG:=Qh hs0';clear hs0'
 have hd0:val (WD.m ⟨b',l'⟩) ∣ val (WD.m ⟨b,l⟩):=by
  rw [← mT ⟨b,l⟩,← mT ⟨b',l'⟩];exact Int.natAbs_dvd_natAbs.2 (Int.dvd_of_emod_eq_zero hr0)
 rw [WD.z_eq] at h0 ⊢;rw [WD.z_eq ⟨b',l'⟩];have hv2:val (WD.m ⟨b',l'⟩)≠0:=by intro e;rw [e] at h0;exact h0 (by cases (WD.s ⟨b',l'⟩) <;> rfl)
 obtain ⟨sa,hsa⟩:∃ s,WD.s ⟨b,l⟩=s:=⟨_,rfl⟩;obtain ⟨sb,hsb⟩:∃ s,WD.s ⟨b',l'⟩=s:=⟨_,rfl⟩;rw [hsa,hsb];obtain ⟨x,hx⟩:∃ x,val (WD.m ⟨b,l⟩)=x:=⟨_,rfl⟩;obtain ⟨y,hy⟩:∃ y,val (WD.m ⟨b',l'⟩)=y:=⟨_,rfl⟩;rw [hx,hy];rw [hx,hy] at hd0;have HS:=Qh (And.intro hsa hsb);have HX:=Qh (And.intro hx hy);have HY:=Qh (show y≠0 from hy ▸ hv2);have HR0:=Qh (Nat.mod_eq_zero_of_dvd hd0);clear hsa hsb hx hy hv2 h0 hr0 hd0;go_in;go_wp2_with fail;have b0:Below w.heap.size w ((((w.alloc (.cells #[.bool b,.slice A n c] 194)).alloc (.cells #[.bool b',.slice A' n' c'] 194)).alloc (.cells #[.bool false,.slice none 0 0] 194)).alloc (.cells #[.bool false,.slice none 0 0] 194)):=(((((Below.refl _ _).alloc Qr _).alloc (by simp) _).alloc (by simp;omega) _).alloc (by simp;omega) _);generalize hW0:((((w.alloc (.cells #[.bool b,.slice A n c] 194)).alloc (.cells #[.bool b',.slice A' n' c'] 194)).alloc (.cells #[.bool false,.slice none 0 0] 194)).alloc (.cells #[.bool false,.slice none 0 0] 194))=W0 at b0 ⊢;have c00:W0.cell? ⟨w.heap.size,0,none⟩=some (.bool b):=by subst hW0;simp [go_sem]
 have f00:W0.frozen? ⟨w.heap.size,0,none⟩=false:=by subst hW0;simp [go_sem]
 have c01:W0.cell? ⟨w.heap.size,1,none⟩=some (.slice A n c):=by subst hW0;simp [go_sem]
 have f01:W0.frozen? ⟨w.heap.size,1,none⟩=false:=by subst hW0;simp [go_sem]
 have c10:W0.cell? ⟨w.heap.size+1,0,none⟩=some (.bool b'):=by subst hW0;simp [go_sem]
 have f10:W0.frozen? ⟨w.heap.size+1,0,none⟩=false:=by subst hW0;simp [go_sem]
 have c11:W0.cell? ⟨w.heap.size+1,1,none⟩=some (.slice A' n' c'):=by subst hW0;simp [go_sem]
 have f11:W0.frozen? ⟨w.heap.size+1,1,none⟩=false:=by subst hW0;simp [go_sem]
 have c20:W0.cell? ⟨w.heap.size+1+1,0,none⟩=some (.bool false):=by subst hW0;simp [go_sem]
 have f20:W0.frozen? ⟨w.heap.size+1+1,0,none⟩=false:=by subst hW0;simp [go_sem]
 have c21:W0.cell? ⟨w.heap.size+1+1,1,none⟩=some (.slice none 0 0):=by subst hW0;simp [go_sem]
 have f21:W0.frozen? ⟨w.heap.size+1+1,1,none⟩=false:=by subst hW0;simp [go_sem]
 have c30:W0.cell? ⟨w.heap.size+1+1+1,0,none⟩=some (.bool false):=by subst hW0;simp [go_sem]
 have f30:W0.frozen? ⟨w.heap.size+1+1+1,0,none⟩=false:=by subst hW0;simp [go_sem]
 have c31:W0.cell? ⟨w.heap.size+1+1+1,1,none⟩=some (.slice none 0 0):=by subst hW0;simp [go_sem]
 have f31:W0.frozen? ⟨w.heap.size+1+1+1,1,none⟩=false:=by subst hW0;simp [go_sem]
 have x0:Box W0 w.heap.size 194:=by subst hW0;exact (((bB _ _ _ (by simp)).alloc _).alloc _).alloc _
 have x1:Box W0 (w.heap.size+1) 194:=by subst hW0;exact ((bB _ _ _ (by simp)).alloc _).alloc _
 have x2:Box W0 (w.heap.size+1+1) 194:=by subst hW0;exact (bB _ _ _ (by simp)).alloc _
 have x3:Box W0 (w.heap.size+1+1+1) 194:=by subst hW0;exact bB _ _ _ (by simp)
 have hm0:iZ (w.heap.size+1+1) (w.heap.size+1+1+1+1) 2 W0:=by subst hW0;exact yn (by simp) rfl
 have hs0:w.heap.size+1+1+1+1≤W0.heap.size:=by subst hW0;simp
 clear hW0;have wa:=wa.belw b0;have wb:=wb.belw b0;have r0:Below W0.heap.size W0 W0:=aa _
 go_wp2_with (first
  | (go_at_call 211;(with_reducible refine (vC _ b' A' n' c' l' s0 ?_ ?_ ?_).mono ?_);(exact wb);(omega);(exact HSG.out);rintro e w1 ⟨rfl,hb1⟩;have r1:=ak r0 hb1;replace wa:=wa.belw hb1;replace wb:=wb.belw hb1;(try clear sc sf sr sz);obtain ⟨⟨sc,sf⟩,sr,sz⟩:=bm.of (by omega) hs0 hm0 r1))
 (try clear sc sf sr sz);have hRB:w.heap.size+1+1≤w.heap.size+1+1+1+1:=by omega
 go_region_held3 (fun w'=>Sees (w.heap.size+1+1) W0 w') (first | exact Sees.of (Nat.le_trans hRB hs0) (by assumption) | exact Sees.of (Nat.le_trans hRB hs0) (af (by assumption) _))
  (first
   | (go_at_call 215;(with_reducible refine (dy _ b A n c l ?_ ?_).mono ?_);(exact wa);(omega);rintro e w2 ⟨A2,n2,c2,rfl,h2,hb2⟩;replace hb2:=ak (af (aa _) 1) hb2;have r2:=ak r1 hb2;replace wa:=wa.belw hb2;replace wb:=wb.belw hb2)
   | (go_at_call 215;(with_reducible refine (dy _ b' A' n' c' l' ?_ ?_).mono ?_);(exact wb);(omega);rintro e w3 ⟨A3,n3,c3,rfl,h3,hb3⟩;have r3:=ak r2 hb3;replace wa:=wa.belw hb3;replace wb:=wb.belw hb3;replace h2:=h2.belw hb3)
   | (go_at_call 258;(with_reducible refine (qP _ A2 n2 c2 (WD.m ⟨b,l⟩) ?_ ?_ A3 n3 c3 (WD.m ⟨b',l'⟩) ?_ ?_ x y ?_ ?_ ?_).mono ?_);(exact h2);(exact h2.m_len (by rw [← HL.out];exact hn));(exact h3);(exact h3.m_len (by rw [← HL'.out];exact hn'));(exact HX.out.1);(exact HX.out.2);(exact HY.out);rintro e w4 ⟨A4,n4,c4,A5,n5,c5,rfl,h4,h5,hb4⟩;have r4:=ak r3 hb4;replace wa:=wa.belw hb4;replace wb:=wb.belw hb4;replace h2:=h2.belw hb4;replace h3:=h3.belw hb4))
 obtain ⟨⟨sc,sf⟩,sr,sz⟩:=bm.of (by omega) hs0 hm0 r4;clear hRB
 have hn4:n4≤1000000000000:=by
  rw [h4.2.1];exact qs (Nat.lt_of_le_of_lt (Nat.div_le_self _ _) (HX.out.1 ▸ h2.vlt Qr)) (h2.m_len (by rw [← HL.out];exact hn))
 have hn5:n5=0:=by rw [h5.2.1,HR0.out,aB];rfl
 subst hn5;cases sa
 ·go_wp2_with (first
   | (go_at_call 222;(with_reducible refine (ir _ b A n c l false ?_ ?_ ?_).mono ?_);(exact wa);(omega);(exact HS.out.1);rintro e w5 ⟨rfl,hb5⟩;have r5:=ak r4 hb5;replace wa:=wa.belw hb5;replace wb:=wb.belw hb5;replace h2:=h2.belw hb5;replace h3:=h3.belw hb5;replace h4:=h4.belw hb5;replace h5:=h5.belw hb5;(try clear sc sf sr sz);obtain ⟨⟨sc,sf⟩,sr,sz⟩:=bm.of (by omega) hs0 hm0 r5))
  have HZ:=Qh (ig (sa:=false) (sb:=sb) (x:=x) HY.out (.inr HR0.out));(try clear sc sf sr sz);have hRB:w.heap.size+1+1≤w.heap.size+1+1+1+1:=by omega
  go_region_held3 (fun w'=>Sees (w.heap.size+1+1) W0 w') (first | exact Sees.of (Nat.le_trans hRB hs0) (by assumption) | exact Sees.of (Nat.le_trans hRB hs0) (af (by assumption) _) | exact (Sees.set (Sees.of (Nat.le_trans hRB hs0) (by assumption)) (by simp)) | exact (Sees.set (Sees.set (Sees.of (Nat.le_trans hRB hs0) (by assumption)) (by simp)) (by simp)) | exact (Sees.set (Sees.set (Sees.set (Sees.of (Nat.le_trans hRB hs0) (by assumption)) (by simp)) (by simp)) (by simp)) | exact (Sees.set (Sees.set (Sees.set (Sees.set (Sees.of (Nat.le_trans hRB hs0) (by assumption)) (by simp)) (by simp)) (by simp)) (by simp)))
   (first
    | (go_at_call 222;(with_reducible refine (ir _ b A n c l false ?_ ?_ ?_).mono ?_);(exact wa);(omega);(exact HS.out.1);rintro e w6 ⟨rfl,hb6⟩;replace hb6:=ak (af (aa _) 1) hb6;have r6:=ak r5 hb6;replace wa:=wa.belw hb6;replace wb:=wb.belw hb6;replace h2:=h2.belw hb6;replace h3:=h3.belw hb6;replace h4:=h4.belw hb6;replace h5:=h5.belw hb6)
    | (go_at_call 222;(with_reducible refine (ir _ b' A' n' c' l' sb ?_ ?_ ?_).mono ?_);(exact wb);(omega);(exact HS.out.2);rintro e w7 ⟨rfl,hb7⟩;have r7:=ak r6 hb7;replace wa:=wa.belw hb7;replace wb:=wb.belw hb7;replace h2:=h2.belw hb7;replace h3:=h3.belw hb7;replace h4:=h4.belw hb7;replace h5:=h5.belw hb7)
    | (go_at_call 213;(with_reducible refine (dz _ sb A4 n4 c4 (ap (x / y)) (sgn false x / sgn sb y) ?_ ?_ ?_).mono ?_);(exact h4);(omega);(rw [HZ.out.1,ag];cases sb <;> rfl);rintro e w8 ⟨A8,n8,c8,rfl,h8,hb8⟩;have r8:=ak r7 hb8;replace wa:=wa.belw hb8;replace wb:=wb.belw hb8;replace h2:=h2.belw hb8;replace h3:=h3.belw hb8;replace h4:=h4.belw hb8;replace h5:=h5.belw hb8)
    | (go_at_call 213;(with_reducible refine (dz _ false A5 0 c5 (ap (x % y)) (sgn false x % sgn sb y) ?_ ?_ ?_).mono ?_);(exact h5);(omega);(rw [HZ.out.2,ag];rfl);rintro e w9 ⟨A9,n9,c9,rfl,h9,hb9⟩;have r9:=ak r8 hb9;replace wa:=wa.belw hb9;replace wb:=wb.belw hb9;replace h2:=h2.belw hb9;replace h3:=h3.belw hb9;replace h4:=h4.belw hb9;replace h5:=h5.belw hb9;replace h8:=h8.belw hb9;obtain ⟨⟨sc,sf⟩,sr,sz⟩:=bm.of (by omega) hs0 hm0 r9))
  clear hRB;go_wp2_with fail;refine bodyPost_ret (v:=.tuple #[.agg #[.bool _,.slice A8 n8 c8],.agg #[.bool _,.slice A9 n9 c9],.int .i64 0]) (by simp [results,Tryz.results254,go_sem,sr];first | rfl | exact ⟨rfl,rfl⟩) rfl ?_;have y2:=x2.below r9;have y3:=x3.below r9;refine ⟨A8,n8,c8,A9,n9,c9,rfl,?_,?_,?_⟩
  ·exact h8.keep (kp4 y2 y3 (by decide) (by decide) _ _ _ _ _ _ _ _)
  ·exact h9.keep (kp4 y2 y3 (by decide) (by decide) _ _ _ _ _ _ _ _)
  exact ((((b0.trans (r9.mono b0.size)).setCell (by dsimp only;omega) _).setCell (by dsimp only;omega) _).setCell (by dsimp only;omega) _).setCell (by dsimp only;omega) _
 ·go_wp2_with (first
   | (go_at_call 222;(with_reducible refine (ir _ b A n c l true ?_ ?_ ?_).mono ?_);(exact wa);(omega);(exact HS.out.1);rintro e w5 ⟨rfl,hb5⟩;have r5:=ak r4 hb5;replace wa:=wa.belw hb5;replace wb:=wb.belw hb5;replace h2:=h2.belw hb5;replace h3:=h3.belw hb5;replace h4:=h4.belw hb5;replace h5:=h5.belw hb5;(try clear sc sf sr sz);obtain ⟨⟨sc,sf⟩,sr,sz⟩:=bm.of (by omega) hs0 hm0 r5))
  have HZ:=Qh (ig (sa:=true) (sb:=sb) (x:=x) HY.out (.inr HR0.out));(try clear sc sf sr sz);have hRB:w.heap.size+1+1≤w.heap.size+1+1+1+1:=by omega
  go_region_held3 (fun w'=>Sees (w.heap.size+1+1) W0 w') (first | exact Sees.of (Nat.le_trans hRB hs0) (by assumption) | exact Sees.of (Nat.le_trans hRB hs0) (af (by assumption) _) | exact (Sees.set (Sees.of (Nat.le_trans hRB hs0) (by assumption)) (by simp)) | exact (Sees.set (Sees.set (Sees.of (Nat.le_trans hRB hs0) (by assumption)) (by simp)) (by simp)) | exact (Sees.set (Sees.set (Sees.set (Sees.of (Nat.le_trans hRB hs0) (by assumption)) (by simp)) (by simp)) (by simp)) | exact (Sees.set (Sees.set (Sees.set (Sees.set (Sees.of (Nat.le_trans hRB hs0) (by assumption)) (by simp)) (by simp)) (by simp)) (by simp)))
   (first
    | (go_at_call 222;(with_reducible refine (ir _ b A n c l true ?_ ?_ ?_).mono ?_);(exact wa);(omega);(exact HS.out.1);rintro e w6 ⟨rfl,hb6⟩;replace hb6:=ak (af (aa _) 1) hb6;have r6:=ak r5 hb6;replace wa:=wa.belw hb6;replace wb:=wb.belw hb6;replace h2:=h2.belw hb6;replace h3:=h3.belw hb6;replace h4:=h4.belw hb6;replace h5:=h5.belw hb6)
    | (go_at_call 222;(with_reducible refine (ir _ b' A' n' c' l' sb ?_ ?_ ?_).mono ?_);(exact wb);(omega);(exact HS.out.2);rintro e w7 ⟨rfl,hb7⟩;have r7:=ak r6 hb7;replace wa:=wa.belw hb7;replace wb:=wb.belw hb7;replace h2:=h2.belw hb7;replace h3:=h3.belw hb7;replace h4:=h4.belw hb7;replace h5:=h5.belw hb7)
    | (go_at_call 213;(with_reducible refine (dz _ (!sb) A4 n4 c4 (ap (x / y)) (sgn true x / sgn sb y) ?_ ?_ ?_).mono ?_);(exact h4);(omega);(rw [HZ.out.1,ag];cases sb <;> rfl);rintro e w8 ⟨A8,n8,c8,rfl,h8,hb8⟩;have r8:=ak r7 hb8;replace wa:=wa.belw hb8;replace wb:=wb.belw hb8;replace h2:=h2.belw hb8;replace h3:=h3.belw hb8;replace h4:=h4.belw hb8;replace h5:=h5.belw hb8)
    | (go_at_call 213;(with_reducible refine (dz _ false A5 0 c5 (ap (x % y)) (sgn true x % sgn sb y) ?_ ?_ ?_).mono ?_);(exact h5);(omega);(rw [HZ.out.2,ag];rfl);rintro e w9 ⟨A9,n9,c9,rfl,h9,hb9⟩;have r9:=ak r8 hb9;replace wa:=wa.belw hb9;replace wb:=wb.belw hb9;replace h2:=h2.belw hb9;replace h3:=h3.belw hb9;replace h4:=h4.belw hb9;replace h5:=h5.belw hb9;replace h8:=h8.belw hb9;obtain ⟨⟨sc,sf⟩,sr,sz⟩:=bm.of (by omega) hs0 hm0 r9))
  clear hRB;go_wp2_with fail;refine bodyPost_ret (v:=.tuple #[.agg #[.bool _,.slice A8 n8 c8],.agg #[.bool _,.slice A9 n9 c9],.int .i64 0]) (by simp [results,Tryz.results254,go_sem,sr];first | rfl | exact ⟨rfl,rfl⟩) rfl ?_;have y2:=x2.below r9;have y3:=x3.below r9;refine ⟨A8,n8,c8,A9,n9,c9,rfl,?_,?_,?_⟩
  ·exact h8.keep (kp4 y2 y3 (by decide) (by decide) _ _ _ _ _ _ _ _)
  ·exact h9.keep (kp4 y2 y3 (by decide) (by decide) _ _ _ _ _ _ _ _)
  exact ((((b0.trans (r9.mono b0.size)).setCell (by dsimp only;omega) _).setCell (by dsimp only;omega) _).setCell (by dsimp only;omega) _).setCell (by dsimp only;omega) _
theorem rQ (w:World) (b A n c z k) (h:IZ w b A n c z k) (b' A' n' c' z' k') (h':IZ w b' A' n' c' z' k') (hk:k+k'≤1000000000) (h0:z'≠0) (hr:z % z'=0):Calls Tryz.prog 254 #[.agg #[.bool b,.slice A n c],.agg #[.bool b',.slice A' n' c']] w (yq w (.int .i64 0) (z / z') (z % z') (k+k')):=by
 have hz:=h.mono (Nat.le_add_right k k') |>.lt
 have hz':=h'.mono (Nat.le_add_left k' k) |>.lt
 obtain ⟨l,h1,rfl,h3⟩:=h;obtain ⟨l',h1',rfl,h3'⟩:=h';refine (xI w b A n c l h1 (by omega) b' A' n' c' l' h1' (by omega) h0 hr).mono fun _ _ r=>?_
 obtain ⟨A1,n1,c1,A2,n2,c2,rfl,r1,r2,r3⟩:=r;refine ⟨_,A1,n1,c1,_,A2,n2,c2,rfl,IV.mk_ r1 rfl ?_,IV.mk_ r2 rfl ?_,r3⟩
 ·exact Nat.lt_of_le_of_lt (Int.natAbs_ediv_le_natAbs _ _) hz
 have e1:=Int.emod_nonneg (WD.z ⟨b,l⟩) h0;have e2:=Int.emod_lt (WD.z ⟨b,l⟩) h0;omega
theorem jg (w:World) (b A n c z k) (h:IZ w b A n c z k) (s:Int) (hs:z.sign=s) (hk:k≤1000000000):Calls Tryz.prog 211 #[.agg #[.bool b,.slice A n c]] w (av w (.int .i64 s)):=by
 subst hs;exact lq w b A n c z k h hk
theorem vD {z d:Int}{q:Rat}(hz:z≠0) (hd:0 < d) (hq:Rat.divInt z d=q) :
 (rd q).num=(wh (z / ((Nat.gcd z.natAbs d.natAbs:Nat):Int))).mag∧(rd q).den=(wh (d / ((Nat.gcd z.natAbs d.natAbs:Nat):Int))).mag∧(rd q).neg=(wh (z / ((Nat.gcd z.natAbs d.natAbs:Nat):Int))).neg:=by
 rw [← hq,jZ hz hd,lm _ hd];have hg:0 < Nat.gcd z.natAbs d.natAbs:=Nat.gcd_pos_of_pos_right _ (by omega);have hdv:((Nat.gcd z.natAbs d.natAbs:Nat):Int) ∣ z:=Int.ofNat_dvd_left.2 (Nat.gcd_dvd_left _ _);generalize Nat.gcd z.natAbs d.natAbs=g at *;obtain ⟨m,rfl⟩:=hdv;have e:(g:Int) * m / (g:Int)=m:=Int.mul_ediv_cancel_left _ (by omega);have e2:((g:Int) * m).natAbs / g=m.natAbs:=by rw [Int.natAbs_mul,Int.natAbs_natCast];exact Nat.mul_div_cancel_left _ hg
 rw [e,e2];refine ⟨rfl,rfl,?_⟩;unfold wh;simp only [decide_eq_decide];constructor
 ·intro h;rcases (show m < 0∨0≤m by omega) with h1 | h1;exact h1;exact absurd (Int.mul_nonneg (Int.natCast_nonneg g) h1) (by omega)
 intro h;exact Int.mul_neg_of_pos_of_neg (by omega) h
theorem lG (w:World) (b A n c z k) (h:IZ w b A n c z k) (b' A' n' c' z' k') (h':IZ w b' A' n' c' z' k') (q:Rat) (K:Nat) (hd:z'≠0) (hq:Rat.divInt z z'=q) (hs:Sz q K) (hk:k+k'≤300000000) :
 Calls Tryz.prog 237 #[.agg #[.bool b,.slice A n c],.agg #[.bool b',.slice A' n' c']] w (ph w q K):=by
 have HD:=Qh hd;have HQ:=Qh hq;have HS:=Qh hs;obtain ⟨s,hs1⟩:∃ s,z.sign=s:=⟨_,rfl⟩;obtain ⟨s',hs2⟩:∃ s,z'.sign=s:=⟨_,rfl⟩;have H1:=Qh hs1;have H2:=Qh hs2;clear hd hq hs hs1 hs2;go_in;go_upto_region 1 with fail;refine ef ?_;intro w1 hw1;have k1:B3 w w.heap.size 194 #[.bool b,.slice A n c] 194 #[.bool b',.slice A' n' c'] 65 #[.bool false,.slice none 0 0,.slice none 0 0] w1:=by rw [hw1];exact ⟨((Blk.new w _ _).alloc _).alloc _,(ah _ _ _ (by simp)).alloc _,ah _ _ _ (by simp),(((aa w).alloc Qr _).alloc (by simp) _).alloc (by simp <;> omega) _⟩
 replace h:=h.belw k1.q;replace h':=h'.belw k1.q;clear hw1;have y:=k1.s.v2;go_wp2_with fail;(refine (jg _ b A n c z k h s H1.out (by omega)).mono ?_);rintro e w2 ⟨rfl,hb2⟩;replace k1:=k1.call hb2;replace h:=h.belw hb2;replace h':=h'.belw hb2;clear hb2 y;by_cases hz:z=0
 ·obtain rfl:s=0:=by rw [← H1.out,hz];rfl
  have hq0:q=0:=by rw [← HQ.out,hz,Rat.zero_divInt]
  subst hq0;have y:=k1.r.v3;go_wp2_with fail;refine bodyPost_ret (v:=.agg #[.bool false,.slice none 0 0,.slice none 0 0]) (by simp [results,Tryz.results237,go_sem, *] <;> trivial) rfl ?_;exact ⟨false,none,0,0,none,0,0,rfl,QV.zero _ _,((k1.q.setCell (p:=⟨w.heap.size+1+1,0,none⟩) (by show w.heap.size≤w.heap.size+1+1;omega) (.bool false)).setCell (p:=⟨w.heap.size+1+1,1,none⟩) (by show w.heap.size≤w.heap.size+1+1;omega) (.slice none 0 0)).setCell (p:=⟨w.heap.size+1+1,2,none⟩) (by show w.heap.size≤w.heap.size+1+1;omega) (.slice none 0 0)⟩
 obtain ⟨hp,hqq,hsg⟩:=pj hz HD.out HQ.out;have HP:=Qh hp;have HQQ:=Qh hqq;have HSG:=Qh hsg;have u1:(s == 0)=false:=beq_eq_false_iff_ne.2 (by rw [← H1.out];exact fun e=>hz (Int.sign_eq_zero_iff_zero.1 e));have u2:(s=0)=False:=by simpa using u1
 clear hz hp hqq hsg HQ;have y:=k1.t.v2;go_wp2_with fail;(refine (jg _ b' A' n' c' z' k' h' s' H2.out (by omega)).mono ?_);rintro e w3 ⟨rfl,hb3⟩;replace k1:=k1.call hb3;replace h:=h.belw hb3;replace h':=h'.belw hb3;clear hb3 y;obtain ⟨y1,hy1⟩:∃ y,sgz z z'=y:=⟨_,rfl⟩;obtain ⟨y2,hy2⟩:∃ y,sgz z' z'=y:=⟨_,rfl⟩;rw [hy1] at HQQ HSG;rw [hy2] at HP HQQ;have HY1:=Qh hy1;have HY2:=Qh hy2;clear hy1 hy2;go_upto_if 18 with fail;go_cut [] (fun wx=>∃ b8 A8 n8 c8 b9 A9 n9 c9,B3 w w.heap.size 194 #[.bool b8,.slice A8 n8 c8] 194 #[.bool b9,.slice A9 n9 c9] 65 #[.bool false,.slice none 0 0,.slice none 0 0] wx∧IZ wx b8 A8 n8 c8 y1 k∧IZ wx b9 A9 n9 c9 y2 k')
 case first =>
  have y:=k1.s.v2;have y9:=k1.t.v2;by_cases hn:z' < 0
  ·obtain rfl:s'=-1:=by rw [← H2.out];exact Int.sign_eq_neg_one_iff_neg.2 hn
   obtain rfl:-z=y1:=by rw [← HY1.out];exact (if_pos hn).symm
   obtain rfl:-z'=y2:=by rw [← HY2.out];exact (if_pos hn).symm
   clear hn;go_wp2_with fail
   go_region_with (first
    | (go_at_call 238;(with_reducible refine (kM _ b A n c z k ?_ ?_).mono ?_);(first | exact h | exact h.belw (af (aa _) _) | fail);(omega);rintro e w5 ⟨b5,A5,n5,c5,rfl,h5,hb5⟩;replace hb5:=ak (af (aa _) 1) hb5;replace h':=h'.belw hb5;replace k1:=k1.call hb5;have y:=k1.s.v2;have y9:=k1.t.v2)
    | (go_at_call 238;(with_reducible refine (kM _ b' A' n' c' z' k' ?_ ?_).mono ?_);(exact h');(omega);rintro e w6 ⟨b6,A6,n6,c6,rfl,h6,hb6⟩;replace h5:=h5.belw hb6;replace k1:=k1.call hb6;have y:=k1.s.v2;have y9:=k1.t.v2))
   all_goals
    go_wp2_with fail;go_meet;exact ⟨_,_,_,_,_,_,_,_,(k1.p0 _ _).p1 _ _,h5.iz.keep ((k1.s.k2 (by decide) _ _).trans ((k1.p0 _ _).t.k2 (by decide) _ _)),h6.iz.keep ((k1.s.k2 (by decide) _ _).trans ((k1.p0 _ _).t.k2 (by decide) _ _))⟩
  have hp:0 < z':=by have:=HD.out;omega
  obtain rfl:s'=1:=by rw [← H2.out];exact Int.sign_eq_one_iff_pos.2 hp
  obtain rfl:z=y1:=by rw [← HY1.out];exact (if_neg hn).symm
  obtain rfl:z'=y2:=by rw [← HY2.out];exact (if_neg hn).symm
  clear hn hp;go_wp2_with fail;go_meet;exact ⟨_,_,_,_,_,_,_,_,k1,h,h'⟩
 case rest =>
  clear k1 h h' HY1 HY2;obtain ⟨b8,A8,n8,c8,b9,A9,n9,c9,k1,h8,h9⟩:=hcut;rename World=>w7;have y:=And.intro k1.s.v2 k1.t.v2;go_wp2_with fail;(refine (rK _ b8 A8 n8 c8 y1 k h8 b9 A9 n9 c9 y2 k' h9 (by omega)).mono ?_);rintro e w8 ⟨b3,A3,n3,c3,rfl,h3,hb8⟩;replace k1:=k1.call hb8;replace h8:=h8.belw hb8;replace h9:=h9.belw hb8;obtain ⟨g,hg⟩:∃ g:Int,((Nat.gcd y1.natAbs y2.natAbs:Nat):Int)=g:=⟨_,rfl⟩;have HG:=Qh hg;rw [hg] at h3;clear hb8 y hg;go_upto_region 6 with fail;refine ef ?_;intro w9 hw9;have q9:Below w8.heap.size w8 w9:=by rw [hw9];exact (aa w8).alloc Qr _
  have x9:Blk w9 w8.heap.size 194 #[.bool b3,.slice A3 n3 c3]:=by rw [hw9];exact Blk.new w8 _ _
  replace h8:=h8.belw q9;replace h9:=h9.belw q9;replace h3:=h3.belw q9;replace k1:=k1.call q9;clear hw9 q9;have g0:g≠0:=by rw [← HG.out];exact uJ HP.out
  have m1:y1 % g=0:=by rw [← HG.out];exact Int.emod_eq_zero_of_dvd (Int.ofNat_dvd_left.2 (Nat.gcd_dvd_left _ _))
  have m2:y2 % g=0:=by rw [← HG.out];exact Int.emod_eq_zero_of_dvd (Int.ofNat_dvd_left.2 (Nat.gcd_dvd_right _ _))
  have M1:=Qh m1;have M2:=Qh m2;clear m1 m2;have y:=And.intro k1.s.v2 x9.v2;go_wp2_with fail;(refine (rQ _ b8 A8 n8 c8 y1 k h8 b3 A3 n3 c3 g (k+k') h3.iz (by omega) g0 M1.out).mono ?_);rintro e w10 ⟨b4,A4,n4,c4,bx,Ax,nx,cx,rfl,h4,_,hb10⟩;replace k1:=k1.call hb10;replace x9:=x9.b hb10;replace h9:=h9.belw hb10;replace h3:=h3.belw hb10;clear hb10 y;go_upto_region 7 with fail;refine ef ?_;intro w11 hw11;have q11:Below w10.heap.size w10 w11:=by rw [hw11];exact ((aa w10).alloc Qr _).alloc (by simp) _
  have x11:Blk w11 w10.heap.size 194 #[.bool b4,.slice A4 n4 c4]:=by rw [hw11];exact (Blk.new w10 _ _).alloc _
  replace k1:=k1.call q11;replace x9:=x9.b q11;replace h9:=h9.belw q11;replace h3:=h3.belw q11;replace h4:=h4.belw q11;clear hw11 q11;have y:=And.intro k1.t.v2 x9.v2;go_wp2_with fail;(refine (rQ _ b9 A9 n9 c9 y2 k' h9 b3 A3 n3 c3 g (k+k') h3.iz (by omega) g0 M2.out).mono ?_);rintro e w12 ⟨b5,A5,n5,c5,bz,Az,nz,cz,rfl,h5,_,hb12⟩;replace k1:=k1.call hb12;replace x11:=x11.b hb12;replace h4:=h4.belw hb12;clear hb12 y;go_upto_region 8 with fail;refine ef ?_;intro w13 hw13;have q13:Below w12.heap.size w12 w13:=by rw [hw13];exact ((aa w12).alloc Qr _).alloc (by simp) _
  have x13:Blk w13 w12.heap.size 194 #[.bool b5,.slice A5 n5 c5]:=by rw [hw13];exact (Blk.new w12 _ _).alloc _
  replace k1:=k1.call q13;replace x11:=x11.b q13;replace h4:=h4.belw q13;replace h5:=h5.belw q13;clear hw13 q13;have y:=And.intro x11.v2 (And.intro x13.v2 k1.r.v3);go_wp2_with fail;refine bodyPost_ret (v:=.agg #[.bool b4,.slice A4 n4 c4,.slice A5 n5 c5]) (by simp [results,Tryz.results237,go_sem, *] <;> trivial) rfl ?_;clear y;have kp:=k1.r.k3 (by decide) (.bool b4) (.slice A4 n4 c4) (.slice A5 n5 c5);obtain ⟨e1,e2,e3⟩:=vD (fun e=>by rw [e] at HSG;rcases HSG.out with h | h <;> cases h) HP.out HQQ.out
  rw [HG.out] at e1 e2 e3;exact ⟨_,_,_,_,_,_,_,rfl,QV.mk_ (by rw [e1];exact h4.2.1.keep kp) (by rw [e2];exact h5.2.1.keep kp) (by rw [e3];exact h4.1.symm) HS.out,((k1.q.setCell (p:=⟨w.heap.size+1+1,0,none⟩) (by show w.heap.size≤w.heap.size+1+1;omega) _).setCell (p:=⟨w.heap.size+1+1,1,none⟩) (by show w.heap.size≤w.heap.size+1+1;omega) _).setCell (p:=⟨w.heap.size+1+1,2,none⟩) (by show w.heap.size≤w.heap.size+1+1;omega) _⟩
theorem tz (w:World) (A n c l) (wa:Wd w A n c l) (hn:n≤1099511627776) (A' n' c' l') (wb:Wd w A' n' c' l') (hn':n'≤1099511627776) :
 Calls Tryz.prog 253 #[.slice A n c,.slice A' n' c'] w (fw w (ap (val l * val l'))):=by
 have HL:=Qh wa.2.1;have HL':=Qh wb.2.1;go_in;go_wp2_with (at_make;refine aO _ rfl _ _ rfl _ _ _ _ (n+n') rfl rfl (by omega) (by omega) (by omega) ?_);go_loopw [18] (fun iv wr=>∃ (i:Nat) (L:List Nat),i≤n∧iv=.int .i64 (i:Nat)∧L.length=n+n'∧uu l l' L (n+n') n' i∧Blk wr w.heap.size 58 (cellsOf L)∧Below w.heap.size w wr) (fun iv _=>n - (intOf iv).toNat)
 case atStart =>
  refine ⟨0,List.replicate (n+n') 0,Nat.zero_le _,rfl,by simp,⟨by intro x hx;rw [List.eq_of_mem_replicate hx];omega,fun j _=>?_,?_⟩,Blk.new _ _ _,(Below.refl _ _).alloc Qr _⟩
  ·unfold wd;by_cases hj:j < n+n' <;> simp [List.getD,hj]
  rw [Sm]
  have:∀ m,Sm (wd (List.replicate (n+n') 0)) m=0:=by
   intro m
   induction m with
   | zero=>rfl
   | succ m ih =>
    rw [Sm,ih];unfold wd;by_cases hj:m < n+n' <;> simp [List.getD,hj]
  rw [this];simp
 case round =>
  obtain ⟨i,L,hi,rfl,hLM,hI,hB,hbel⟩:=hrel;have hKp:=Qh ((Kp.refl w).below hbel);have HI:=Qh hI;have HB:=Qh hB;have HLM:=Qh hLM;clear hI hB hLM;by_cases hkM:i < n
  ·obtain ⟨x,hx⟩:∃ x,wd l i=x:=⟨_,rfl⟩
   have hx1:x < 4294967296:=by rw [← hx];exact wa.lt i
   have HX:=Qh hx;clear hx;go_wp2_with fail;obtain ⟨wo,hwo⟩:∃ wo:World,wo=wr:=⟨_,rfl⟩;have HWO:=Qh hwo;clear hwo;go_loopw [7,23] (fun cv kv w2=>∃ (k cr:Nat) (L2:List Nat),k≤n'∧kv=.int .i64 (k:Nat)∧cv=.int .u64 (cr:Nat)∧cr < 4294967296∧L2.length=n+n'∧uv l l' L2 (n+n') n' i x k cr∧Blk w2 w.heap.size 58 (cellsOf L2)∧Below w.heap.size w w2) (fun _ kv _=>n' - (intOf kv).toNat)
   case atStart=>exact ⟨0,0,L,Nat.zero_le _,rfl,rfl,by omega,HLM.out,⟨HI.out.1,HI.out.2.1,by rw [HI.out.2.2];simp [Sm]⟩,HB.out,hbel⟩
   case round =>
    obtain ⟨k,cr,L2,hk,rfl,rfl,hcr,hLM2,hI2,hB2,hbel2⟩:=hrel;have hKp2:=Qh ((Kp.refl w).below hbel2);have HI2:=Qh hI2;have HB2:=Qh hB2;have HLM2:=Qh hLM2;clear hI2 hB2 hLM2;by_cases hkk:k < n'
    ·obtain ⟨g2,o2,rfl,hgl2,hc2⟩:=(wb.keep hKp2.out).at2 (by omega)
     obtain ⟨g,o,rfl,hgl,hc1⟩:=(wa.keep hKp2.out).at2 (by omega);have hcx:=hc1 i hkM;rw [HX.out] at hcx;clear hc1;have hcy:=hc2 k hkk;obtain ⟨y,z,hy,hz⟩:∃ y z,wd l' k=y∧wd L2 (i+k)=z:=⟨_,_,rfl,rfl⟩;have hy1:y < 4294967296:=by rw [← hy];exact wb.lt k
     have hz1:z < 4294967296:=by rw [← hz];exact bH HI2.out.1 _
     rw [hy] at hcy;have hck:=HB2.out.cell (i+k);rw [aw (by rw [HLM2.out];omega),hz] at hck;have hfk:=HB2.out.frozen (i+k);have HY:=Qh hy;have HZ:=Qh hz;clear hy hz hc2;obtain ⟨p,hp⟩:∃ d,IntKind.u64.wrap ((x:Int) * (y:Int))=d:=⟨_,rfl⟩;obtain ⟨q,hq⟩:∃ d,IntKind.u64.wrap (p+(z:Int))=d:=⟨_,rfl⟩;obtain ⟨s,hs⟩:∃ d,IntKind.u64.wrap (q+(cr:Int))=d:=⟨_,rfl⟩;have HD:=Qh (lh hx1 hy1 hz1 hcr hp hq (show IntKind.u64.wrap ((cr:Int)+q)=s by rw [Int.add_comm];exact hs));go_wp2;go_quiet (fail);go_wp2;obtain ⟨es,hs2⟩:=HD.out;clear hp hq hs;go_roundw
     case rel =>
      refine ⟨k+1,(cr+x * y+z) / 4294967296,L2.set (i+k) ((cr+x * y+z) % 4294967296),by omega,by go_num,by rw [es];go_num,hs2,by rw [List.length_set];exact HLM2.out,⟨wds_set HI2.out.1 _ (Nat.mod_lt _ (by omega)),?_,?_⟩,?_,(af hbel2 _).setCell Qr _⟩
      ·intro j hj;rw [bQ,if_neg (by omega)];exact HI2.out.2.1 j hj
      ·have hm:=dJ L2 (i+k) ((cr+x * y+z) % 4294967296) (n+n') (by rw [HLM2.out];omega) (by omega)
       rw [HZ.out] at hm;have ht:=lg (o:=z) (x:=x) (y:=y) (Sb:=Sm (wd l') k) (Pi:=4294967296 ^ i) (Pk:=4294967296 ^ k) HI2.out.2.2 (by rw [Nat.pow_add]) hm;rw [← Nat.add_assoc,Nat.pow_succ,Sm,HY.out];exact ht
      exact (HB2.out.below (af (aa _) _) HB2.out.lt).setW (i+k) _ _ (by rw [es];omega)
     case measure=>simp [intOf];omega
    have hk2:k=n':=by omega
    have HK2:=Qh hk2;have hck:=HB2.out.cell (i+n');have hz:wd L2 (i+n')=0:=HI2.out.2.1 _ (by omega);rw [aw (by rw [HLM2.out];omega),hz] at hck;have hfk:=HB2.out.frozen (i+n');have hge:n'≤k:=by omega
    clear hk2 hkk hz;go_wp2;go_roundw
    case rel =>
     refine ⟨i+1,L2.set (i+n') cr,by omega,by go_num,by rw [List.length_set];exact HLM2.out,⟨wds_set HI2.out.1 _ hcr,?_,?_⟩,?_,hbel2.setCell Qr _⟩
     ·intro j hj;rw [bQ,if_neg (by omega)];exact HI2.out.2.1 j (by omega)
     ·have hm:=dJ L2 (i+n') cr (n+n') (by rw [HLM2.out];omega) (by omega)
      rw [HI2.out.2.1 _ (by omega),Nat.zero_mul,Nat.add_zero] at hm;have h2:=HI2.out.2.2;rw [HK2.out,aX l' (by rw [← HL'.out];exact Qr)] at h2;rw [hm,h2,Sm,HX.out,Nat.add_mul];congr 1;rw [Nat.mul_assoc,Nat.mul_comm (val l'),← Nat.mul_assoc]
     exact HB2.out.setW (i+n') _ _ rfl
    case measure=>simp [intOf];omega
  have hkk:i=n:=by omega
  subst hkk
  have hv2:val L=val l * val l':=by
   have h1:=HI.out.2.2;rw [aX L (by rw [HLM.out];exact Qr),aX l (by rw [← HL.out];omega)] at h1;exact h1
  have HV2:=Qh hv2;clear hv2;go_wp2_with fail;refine (eX _ _ (i+n') (i+n') L ?_ ?_).mono ?_
  ·exact HB.out.wdN HI.out.1 HLM.out
  ·omega
  rintro e w1 ⟨A1,n1,c1,rfl,h1,hb1⟩;go_wp2;go_ret;rw [HV2.out] at h1;exact ⟨_,_,_,rfl,h1,hbel.trans (hb1.mono hbel.size)⟩
theorem xJ (w:World) (b:Bool) (A n c l) (wa:Wd w A n c l) (hn:n≤500000000000) (b':Bool) (A' n' c' l') (wb:Wd w A' n' c' l') (hn':n'≤500000000000) :
 Calls Tryz.prog 236 #[.agg #[.bool b,.slice A n c],.agg #[.bool b',.slice A' n' c']] w (iR w (wh (WD.z ⟨b,l⟩ * WD.z ⟨b',l'⟩))):=by
 have HL:=Qh wa.2.1;have HL':=Qh wb.2.1;go_in;go_wp2_with fail;have b0:Below w.heap.size w (((w.alloc (.cells #[.bool b,.slice A n c] 194)).alloc (.cells #[.bool b',.slice A' n' c'] 194)).alloc (.cells #[.bool false,.slice none 0 0] 194)):=((((Below.refl _ _).alloc Qr _).alloc (by simp) _).alloc (by simp;omega) _);generalize hW0:(((w.alloc (.cells #[.bool b,.slice A n c] 194)).alloc (.cells #[.bool b',.slice A' n' c'] 194)).alloc (.cells #[.bool false,.slice none 0 0] 194))=W0 at b0 ⊢;have c00:W0.cell? ⟨w.heap.size,0,none⟩=some (.bool b):=by subst hW0;simp [go_sem]
 have f00:W0.frozen? ⟨w.heap.size,0,none⟩=false:=by subst hW0;simp [go_sem]
 have c01:W0.cell? ⟨w.heap.size,1,none⟩=some (.slice A n c):=by subst hW0;simp [go_sem]
 have f01:W0.frozen? ⟨w.heap.size,1,none⟩=false:=by subst hW0;simp [go_sem]
 have c10:W0.cell? ⟨w.heap.size+1,0,none⟩=some (.bool b'):=by subst hW0;simp [go_sem]
 have f10:W0.frozen? ⟨w.heap.size+1,0,none⟩=false:=by subst hW0;simp [go_sem]
 have c11:W0.cell? ⟨w.heap.size+1,1,none⟩=some (.slice A' n' c'):=by subst hW0;simp [go_sem]
 have f11:W0.frozen? ⟨w.heap.size+1,1,none⟩=false:=by subst hW0;simp [go_sem]
 have c20:W0.cell? ⟨w.heap.size+1+1,0,none⟩=some (.bool false):=by subst hW0;simp [go_sem]
 have f20:W0.frozen? ⟨w.heap.size+1+1,0,none⟩=false:=by subst hW0;simp [go_sem]
 have c21:W0.cell? ⟨w.heap.size+1+1,1,none⟩=some (.slice none 0 0):=by subst hW0;simp [go_sem]
 have f21:W0.frozen? ⟨w.heap.size+1+1,1,none⟩=false:=by subst hW0;simp [go_sem]
 have x0:Box W0 w.heap.size 194:=by subst hW0;exact ((bB _ _ _ (by simp)).alloc _).alloc _
 have x1:Box W0 (w.heap.size+1) 194:=by subst hW0;exact (bB _ _ _ (by simp)).alloc _
 have x2:Box W0 (w.heap.size+1+1) 194:=by subst hW0;exact bB _ _ _ (by simp)
 have hm0:iZ (w.heap.size+1+1) (w.heap.size+1+1+1) 2 W0:=by subst hW0;exact lf (by simp)
 have hs0:w.heap.size+1+1+1≤W0.heap.size:=by subst hW0;simp
 clear hW0;have wa:=wa.belw b0;have wb:=wb.belw b0;have r0:Below W0.heap.size W0 W0:=aa _;have hRB:w.heap.size+1+1≤w.heap.size+1+1+1:=by omega
 go_region_held3 (fun w'=>Sees (w.heap.size+1+1) W0 w') (first | exact Sees.of (Nat.le_trans hRB hs0) (by assumption) | exact Sees.of (Nat.le_trans hRB hs0) (af (by assumption) _) | exact (Sees.set (Sees.of (Nat.le_trans hRB hs0) (by assumption)) (by simp)) | exact (Sees.set (Sees.set (Sees.of (Nat.le_trans hRB hs0) (by assumption)) (by simp)) (by simp)))
  (first
   | (go_at_call 222;(with_reducible refine (dS _ b A n c l ?_ ?_).mono ?_);(exact wa);(omega);rintro e w1 ⟨rfl,hb1⟩;replace hb1:=ak (af (aa _) 1) hb1;have r1:=ak r0 hb1;replace wa:=wa.belw hb1;replace wb:=wb.belw hb1)
   | (go_at_call 222;(with_reducible refine (dS _ b' A' n' c' l' ?_ ?_).mono ?_);(exact wb);(omega);rintro e w2 ⟨rfl,hb2⟩;have r2:=ak r1 hb2;replace wa:=wa.belw hb2;replace wb:=wb.belw hb2)
   | (go_at_call 215;(with_reducible refine (dy _ b A n c l ?_ ?_).mono ?_);(exact wa);(omega);rintro e w3 ⟨A1,n1,c1,rfl,h1,hb3⟩;have r3:=ak r2 hb3;replace wa:=wa.belw hb3;replace wb:=wb.belw hb3)
   | (go_at_call 215;(with_reducible refine (dy _ b' A' n' c' l' ?_ ?_).mono ?_);(exact wb);(omega);rintro e w4 ⟨A2,n2,c2,rfl,h2,hb4⟩;have r4:=ak r3 hb4;replace wa:=wa.belw hb4;replace wb:=wb.belw hb4;replace h1:=h1.belw hb4)
   | (go_at_call 253;(with_reducible refine (tz _ A1 n1 c1 (WD.m ⟨b,l⟩) ?_ ?_ A2 n2 c2 (WD.m ⟨b',l'⟩) ?_ ?_).mono ?_);(exact h1);(exact Nat.le_trans (h1.m_len (by rw [← HL.out];exact hn)) (by decide));(exact h2);(exact Nat.le_trans (h2.m_len (by rw [← HL'.out];exact hn')) (by decide));rintro e w5 ⟨A3,n3,c3,rfl,h3,hb5⟩;have r5:=ak r4 hb5;replace wa:=wa.belw hb5;replace wb:=wb.belw hb5;replace h1:=h1.belw hb5;replace h2:=h2.belw hb5)
   | (go_at_call 213;(with_reducible refine (dz _ (!(WD.s ⟨b,l⟩ == WD.s ⟨b',l'⟩)) A3 n3 c3 (ap (val (WD.m ⟨b,l⟩) * val (WD.m ⟨b',l'⟩))) (WD.z ⟨b,l⟩ * WD.z ⟨b',l'⟩) ?_ ?_ ?_).mono ?_);(exact h3);(rw [h3.2.1];exact mO h1 h2 (Nat.le_trans (Nat.add_le_add (h1.m_len (by rw [← HL.out];exact hn)) (h2.m_len (by rw [← HL'.out];exact hn'))) (by decide)));(rw [ag];exact (yp _ _).symm);rintro e w6 ⟨A4,n4,c4,rfl,h4,hb6⟩;have r6:=ak r5 hb6;replace wa:=wa.belw hb6;replace wb:=wb.belw hb6;replace h1:=h1.belw hb6;replace h2:=h2.belw hb6;replace h3:=h3.belw hb6;obtain ⟨⟨sc,sf⟩,sr,sz⟩:=bm.of (by omega) hs0 hm0 r6))
 clear hRB;go_wp2_with fail;refine bodyPost_ret (v:=.agg #[.bool _,.slice A4 n4 c4]) (by simp [results,Tryz.results236,go_sem,sr];rfl) rfl ?_;have x:=x2.below r6;refine jm ?_ ?_ ?_
 ·rfl
 ·exact h4.keep (kp2 x (by decide) _ _ _ _)
 exact ((b0.trans (r6.mono b0.size)).setCell (by dsimp only;omega) _).setCell (by dsimp only;omega) _
theorem gc (w:World) (b A n c z k) (h:IZ w b A n c z k) (b' A' n' c' z' k') (h':IZ w b' A' n' c' z' k') (hk:k+k'≤1000000000):Calls Tryz.prog 236 #[.agg #[.bool b,.slice A n c],.agg #[.bool b',.slice A' n' c']] w (jc w (z * z') (k+k')):=by
 have hz:=h.lt;have hz':=h'.lt;obtain ⟨l,h1,rfl,h3⟩:=h;obtain ⟨l',h1',rfl,h3'⟩:=h';exact (xJ w b A n c l h1 (by omega) b' A' n' c' l' h1' (by omega)).mono fun _ _ r=>r.i (bt hz hz')
theorem yC (w:World) (b A n c D m e q k) (h:QZ w b A n c D m e q k) (h0:0 < k) (hk:k≤40000000) :
 Calls Tryz.prog 203 #[.agg #[.bool b,.slice A n c,.slice D m e]] w (ph w (-q) k):=by
 have HS:=Qh (h.sz h0);go_in;go_wp2_with fail;(with_reducible refine (fm _ b A n c D m e (q) (k) ?_ ?_ ?_).mono ?_);(exact (h.belw (((Below.refl _ _).alloc Qr _).alloc (by simp) _)));(omega);(omega);rintro e w1 ⟨b1,A1,n1,c1,b'1,A'1,n'1,c'1,rfl,h1,h'1,hb1⟩;have q1:=hb1.q2;replace h:=h.belw q1;have x1a:Blk w1 w.heap.size 65 #[.bool b,.slice A n c,.slice D m e]:=((ah _ _ _ (by simp)).alloc _).below hb1 (by simp <;> omega);have x1b:=(ah _ _ _ (g:=w.heap.size+1) (by simp)).below hb1 (by simp);have bw1:=(aa w).trans (q1.mono (aa w).size);have lw1:=hb1.l2;clear q1;go_wp2_with fail;have p2:=(((Kp.refl w1).alloc (.cells #[.bool b1,.slice A1 n1 c1] 194)).alloc (.cells #[.bool b'1,.slice A'1 n'1 c'1] 194));have bw2:=((bw1.alloc (by first | omega | (simp <;> omega)) (.cells #[.bool b1,.slice A1 n1 c1] 194)).alloc (by first | omega | (simp <;> omega)) (.cells #[.bool b'1,.slice A'1 n'1 c'1] 194));have x2a:Blk ((w1.alloc (.cells #[.bool b1,.slice A1 n1 c1] 194)).alloc (.cells #[.bool b'1,.slice A'1 n'1 c'1] 194)) w1.heap.size 194 #[.bool b1,.slice A1 n1 c1]:=((ah _ _ _ (by simp)).alloc (.cells #[.bool b'1,.slice A'1 n'1 c'1] 194));have x2b:Blk ((w1.alloc (.cells #[.bool b1,.slice A1 n1 c1] 194)).alloc (.cells #[.bool b'1,.slice A'1 n'1 c'1] 194)) (w1.heap.size+1) 194 #[.bool b'1,.slice A'1 n'1 c'1]:=(ah _ _ _ (by simp));replace x1a:=((x1a.alloc (.cells #[.bool b1,.slice A1 n1 c1] 194)).alloc (.cells #[.bool b'1,.slice A'1 n'1 c'1] 194));replace x1b:=((x1b.alloc (.cells #[.bool b1,.slice A1 n1 c1] 194)).alloc (.cells #[.bool b'1,.slice A'1 n'1 c'1] 194));have lw2:w1.heap.size+2≤((w1.alloc (.cells #[.bool b1,.slice A1 n1 c1] 194)).alloc (.cells #[.bool b'1,.slice A'1 n'1 c'1] 194)).heap.size:=by simp
 generalize hE2:((w1.alloc (.cells #[.bool b1,.slice A1 n1 c1] 194)).alloc (.cells #[.bool b'1,.slice A'1 n'1 c'1] 194))=w2 at p2 bw2 lw2 x2a x2b x1a x1b ⊢;clear hE2;replace h:=h.keep p2;replace h1:=h1.keep p2;replace h'1:=h'1.keep p2;clear bw1;have lx1a:=fM x1a.lt;have cx1ba:w2.cell? ⟨w.heap.size+1,0,none⟩=some (.bool false):=x1b.cell 0;have fx1ba:w2.frozen? ⟨w.heap.size+1,0,none⟩=false:=x1b.frozen 0;have cx1bb:w2.cell? ⟨w.heap.size+1,1,none⟩=some (.slice none 0 0):=x1b.cell 1;have fx1bb:w2.frozen? ⟨w.heap.size+1,1,none⟩=false:=x1b.frozen 1;have cx1bc:w2.cell? ⟨w.heap.size+1,2,none⟩=some (.slice none 0 0):=x1b.cell 2;have fx1bc:w2.frozen? ⟨w.heap.size+1,2,none⟩=false:=x1b.frozen 2;have lx1b:=gG x1b.lt;have cx2a:=x2a.c2;have lx2a:=fM x2a.lt;have cx2b:=x2b.c2;have lx2b:=gG x2b.lt;have nfx1_0_0:¬ w.heap.size=w.heap.size+1:=by omega
 have nex1_0_0:¬ w.heap.size=w.heap.size+1:=by omega
 have nfx2_0_0:¬ w1.heap.size=w.heap.size+1:=by omega
 have nex2_0_0:¬ w1.heap.size=w.heap.size+1:=by omega
 have nfx2_1_0:¬ w1.heap.size+1=w.heap.size+1:=by omega
 have nex2_1_0:¬ w1.heap.size=w.heap.size:=by omega
 go_region_held3 (fun w'=>SeesX w2.heap.size (w.heap.size+1) w2 w') (first | with_reducible exact SeesX.of Qr (by assumption) | with_reducible exact SeesX.of Qr (aa _).drew | with_reducible exact (SeesX.set (SeesX.set (SeesX.set (SeesX.of Qr (by assumption))))) | with_reducible exact (SeesX.set (SeesX.set (SeesX.of Qr (by assumption)))) | with_reducible exact (SeesX.set (SeesX.of Qr (by assumption))) | exact SeesX.of Qr (af (aa _) 1) | exact SeesX.of Qr (af (by assumption) _))
  (first
   | (go_at_call 238;(with_reducible refine (kM _ b1 A1 n1 c1 ((q).num) ((k)) ?_ ?_).mono ?_);(exact h1.iz);(omega);rintro e w3 ⟨b3,A3,n3,c3,rfl,h3,hb3⟩;replace hb3:=ak (af (aa _) 1) hb3;have q3:Below w2.heap.size w2 w3:=ak (aa w2) hb3;replace h:=h.belw hb3;replace h1:=h1.belw hb3;replace h'1:=h'1.belw hb3)
   | (go_at_call 237;(with_reducible refine (lG _ b3 A3 n3 c3 (-((q).num)) (((k))) ?_ b'1 A'1 n'1 c'1 (((q).den:Int)) ((k)) ?_ (-q) (k) ?_ ?_ ?_ ?_).mono ?_);(exact h3.iz);(exact h'1.iz);(exact fv _);(exact (Ad q).symm);(exact yV HS.out);(omega);rintro e w4 ⟨b4,A4,n4,c4,A'4,n'4,c'4,rfl,h4,hb4⟩;have q4:Below w2.heap.size w2 w4:=ak q3 hb4;replace h:=h.belw hb4;replace h1:=h1.belw hb4;replace h'1:=h'1.belw hb4;replace h3:=h3.belw hb4;have x1b:=x1b.b q4;obtain ⟨cx1ba,cx1bb,cx1bc⟩:=x1b.c3;obtain ⟨fx1ba,fx1bb,fx1bc⟩:=x1b.f3))
 have bw4:=bw2.trans (q4.mono bw2.size);clear lx1a cx1ba fx1ba cx1bb fx1bb cx1bc fx1bc lx1b cx2a lx2a cx2b lx2b;replace x1a:=x1a.b q4;replace x2a:=x2a.b q4;replace x2b:=x2b.b q4;have lw4:=q4.size;obtain ⟨cx1ba,cx1bb,cx1bc⟩:=x1b.c3;obtain ⟨fx1ba,fx1bb,fx1bc⟩:=x1b.f3;go_wp2_with fail;refine bodyPost_ret (v:=.agg #[.bool b4,.slice A4 n4 c4,.slice A'4 n'4 c'4]) (by simp [results,Tryz.results203,go_sem, *] <;> trivial) rfl ?_;exact ⟨b4,A4,n4,c4,A'4,n'4,c'4,rfl,h4.keep ((((Kp.refl w4).sb (w.heap.size+1) 0 x1b.box (by decide) (.bool b4)).sb (w.heap.size+1) 1 (x1b.box.set ⟨w.heap.size+1,0,none⟩ (.bool b4)) (by decide) (.slice A4 n4 c4)).sb (w.heap.size+1) 2 ((x1b.box.set ⟨w.heap.size+1,0,none⟩ (.bool b4)).set ⟨w.heap.size+1,1,none⟩ (.slice A4 n4 c4)) (by decide) (.slice A'4 n'4 c'4)),(((bw4.sc (w.heap.size+1) 0 (by omega) (.bool b4)).sc (w.heap.size+1) 1 (by omega) (.slice A4 n4 c4)).sc (w.heap.size+1) 2 (by omega) (.slice A'4 n'4 c'4))⟩
theorem yD (w:World) (b A n c D m e q k) (h:QZ w b A n c D m e q k) (b' A' n' c' D' m' e' q' k') (h':QZ w b' A' n' c' D' m' e' q' k') (h0:0 < k) (hk:k≤40000000) (h0':0 < k') (hk':k'≤40000000) :
 Calls Tryz.prog 217 #[.agg #[.bool b,.slice A n c,.slice D m e],.agg #[.bool b',.slice A' n' c',.slice D' m' e']] w (ph w (q+q') (k+k'+1)):=by
 have HS:=Qh (h.sz h0);have HS':=Qh (h'.sz h0');go_in;go_wp2_with fail;(with_reducible refine (fm _ b A n c D m e (q) (k) ?_ ?_ ?_).mono ?_);(exact (h.belw ((((Below.refl _ _).alloc Qr _).alloc (by simp) _).alloc (by simp <;> omega) _)));(omega);(omega);rintro e w1 ⟨b1,A1,n1,c1,b'1,A'1,n'1,c'1,rfl,h1,h'1,hb1⟩;have q1:=hb1.q3;replace h:=h.belw q1;replace h':=h'.belw q1;have x1a:Blk w1 w.heap.size 65 #[.bool b,.slice A n c,.slice D m e]:=(((ah _ _ _ (by simp)).alloc _).alloc _).below hb1 (by simp <;> omega);have x1b:=((ah _ _ _ (g:=w.heap.size+1) (by simp)).alloc _).below hb1 (by simp <;> omega);have x1c:=(ah _ _ _ (g:=w.heap.size+1+1) (by simp)).below hb1 (by simp);have bw1:=(aa w).trans (q1.mono (aa w).size);have lw1:=hb1.l3;clear q1;have cx1b:=x1b.c3;have lx1b:=gG x1b.lt;go_wp2_with fail;(with_reducible refine (fm _ b' A' n' c' D' m' e' (q') (k') ?_ ?_ ?_).mono ?_);(exact (h'.belw (((Below.refl _ _).alloc Qr _).alloc (by simp) _)));(omega);(omega);rintro e w2 ⟨b2,A2,n2,c2,b'2,A'2,n'2,c'2,rfl,h2,h'2,hb2⟩;clear cx1b lx1b;have q2:=hb2.q2;replace h:=h.belw q2;replace h':=h'.belw q2;replace h1:=h1.belw q2;replace h'1:=h'1.belw q2;replace x1a:=x1a.b q2;replace x1b:=x1b.b q2;replace x1c:=x1c.b q2;have x2a:Blk w2 w1.heap.size 194 #[.bool b1,.slice A1 n1 c1]:=((ah _ _ _ (by simp)).alloc _).below hb2 (by simp <;> omega);have x2b:=(ah _ _ _ (g:=w1.heap.size+1) (by simp)).below hb2 (by simp);have bw2:=bw1.trans (q2.mono bw1.size);have lw2:=hb2.l2;clear q2 bw1;go_wp2_with fail;have p3:=(((Kp.refl w2).alloc (.cells #[.bool b2,.slice A2 n2 c2] 194)).alloc (.cells #[.bool b'2,.slice A'2 n'2 c'2] 194));have bw3:=((bw2.alloc (by first | omega | (simp <;> omega)) (.cells #[.bool b2,.slice A2 n2 c2] 194)).alloc (by first | omega | (simp <;> omega)) (.cells #[.bool b'2,.slice A'2 n'2 c'2] 194));have x3a:Blk ((w2.alloc (.cells #[.bool b2,.slice A2 n2 c2] 194)).alloc (.cells #[.bool b'2,.slice A'2 n'2 c'2] 194)) w2.heap.size 194 #[.bool b2,.slice A2 n2 c2]:=((ah _ _ _ (by simp)).alloc (.cells #[.bool b'2,.slice A'2 n'2 c'2] 194));have x3b:Blk ((w2.alloc (.cells #[.bool b2,.slice A2 n2 c2] 194)).alloc (.cells #[.bool b'2,.slice A'2 n'2 c'2] 194)) (w2.heap.size+1) 194 #[.bool b'2,.slice A'2 n'2 c'2]:=(ah _ _ _ (by simp));replace x1a:=((x1a.alloc (.cells #[.bool b2,.slice A2 n2 c2] 194)).alloc (.cells #[.bool b'2,.slice A'2 n'2 c'2] 194));replace x1b:=((x1b.alloc (.cells #[.bool b2,.slice A2 n2 c2] 194)).alloc (.cells #[.bool b'2,.slice A'2 n'2 c'2] 194));replace x1c:=((x1c.alloc (.cells #[.bool b2,.slice A2 n2 c2] 194)).alloc (.cells #[.bool b'2,.slice A'2 n'2 c'2] 194));replace x2a:=((x2a.alloc (.cells #[.bool b2,.slice A2 n2 c2] 194)).alloc (.cells #[.bool b'2,.slice A'2 n'2 c'2] 194));replace x2b:=((x2b.alloc (.cells #[.bool b2,.slice A2 n2 c2] 194)).alloc (.cells #[.bool b'2,.slice A'2 n'2 c'2] 194));have lw3:w2.heap.size+2≤((w2.alloc (.cells #[.bool b2,.slice A2 n2 c2] 194)).alloc (.cells #[.bool b'2,.slice A'2 n'2 c'2] 194)).heap.size:=by simp
 generalize hE3:((w2.alloc (.cells #[.bool b2,.slice A2 n2 c2] 194)).alloc (.cells #[.bool b'2,.slice A'2 n'2 c'2] 194))=w3 at p3 bw3 lw3 x3a x3b x1a x1b x1c x2a x2b ⊢;clear hE3;replace h:=h.keep p3;replace h':=h'.keep p3;replace h1:=h1.keep p3;replace h'1:=h'1.keep p3;replace h2:=h2.keep p3;replace h'2:=h'2.keep p3;clear bw2;have cx2a:=x2a.c2;have lx2a:=fM x2a.lt;have cx2b:=x2b.c2;have lx2b:=gG x2b.lt;have cx3a:=x3a.c2;have lx3a:=fM x3a.lt;have cx3b:=x3b.c2;have lx3b:=gG x3b.lt
 refine iY (B:=w.heap.size) (fr:=fun xf=>⟨List.toArray (.agg #[.bool b,.slice A n c,.slice D m e] :: .agg #[.bool b',.slice A' n' c',.slice D' m' e'] :: .pointer (some ⟨w.heap.size,0,none⟩) :: .pointer (some ⟨w.heap.size+1,0,none⟩) :: .pointer (some ⟨w.heap.size+1+1,0,none⟩) :: .pointer (some ⟨w1.heap.size,0,none⟩) :: .pointer (some ⟨w1.heap.size+1,0,none⟩) :: .pointer (some ⟨w2.heap.size,0,none⟩) :: .pointer (some ⟨w2.heap.size+1,0,none⟩) :: .tuple #[.agg #[.bool b1,.slice A1 n1 c1],.agg #[.bool b'1,.slice A'1 n'1 c'1]] :: .agg #[.bool b,.slice A n c,.slice D m e] :: .tuple #[.agg #[.bool b1,.slice A1 n1 c1],.agg #[.bool b'1,.slice A'1 n'1 c'1]] :: .agg #[.bool b1,.slice A1 n1 c1] :: .agg #[.bool b'1,.slice A'1 n'1 c'1] :: .tuple #[.agg #[.bool b2,.slice A2 n2 c2],.agg #[.bool b'2,.slice A'2 n'2 c'2]] :: .agg #[.bool b',.slice A' n' c',.slice D' m' e'] :: .tuple #[.agg #[.bool b2,.slice A2 n2 c2],.agg #[.bool b'2,.slice A'2 n'2 c'2]] :: .agg #[.bool b2,.slice A2 n2 c2] :: .agg #[.bool b'2,.slice A'2 n'2 c'2] :: xf 0 :: xf 1 :: xf 2 :: xf 3 :: xf 4 :: xf 5 :: xf 6 :: xf 7 :: xf 8 :: xf 9 :: xf 10 :: []),[]⟩) (R:=fun i=>List.getD ((PEq (.agg #[.bool b1,.slice A1 n1 c1])) :: (PEq (.agg #[.bool b'2,.slice A'2 n'2 c'2])) :: (VI (((q).num) * (((q').den:Int))) (((k))+((k')))) :: (PEq (.agg #[.bool b2,.slice A2 n2 c2])) :: (PEq (.agg #[.bool b'1,.slice A'1 n'1 c'1])) :: (VI (((q').num) * (((q).den:Int))) (((k'))+((k)))) :: (VI ((((q).num) * (((q').den:Int)))+(((q').num) * (((q).den:Int)))) ((((k))+((k')))+(((k'))+((k)))+1)) :: (PEq (.agg #[.bool b'1,.slice A'1 n'1 c'1])) :: (PEq (.agg #[.bool b'2,.slice A'2 n'2 c'2])) :: (VI ((((q).den:Int)) * (((q').den:Int))) (((k))+((k')))) :: (VQ (q+q') (k+k'+1)) :: od :: []) i (fun _ _=>True)) (es:=[]) (ow:=[⟨w.heap.size,12,0,65,#[.bool b,.slice A n c,.slice D m e],oe⟩,⟨w.heap.size+1,12,0,65,#[.bool b',.slice A' n' c',.slice D' m' e'],oe⟩,⟨w.heap.size+1+1,11,0,65,#[.bool false,.slice none 0 0,.slice none 0 0],CQ (q+q') (k+k'+1)⟩,⟨w1.heap.size,12,0,194,#[.bool b1,.slice A1 n1 c1],oe⟩,⟨w1.heap.size+1,12,0,194,#[.bool b'1,.slice A'1 n'1 c'1],oe⟩,⟨w2.heap.size,12,0,194,#[.bool b2,.slice A2 n2 c2],oe⟩,⟨w2.heap.size+1,12,0,194,#[.bool b'2,.slice A'2 n'2 c'2],oe⟩]) (x0:=(fun _=>undef)) (by kernel_rfl)
  (aG ⟨fun _ _=>rfl,fun _ _=>rfl,fun _ _=>rfl,fun _ _=>rfl,fun _ _=>rfl,fun _ _=>rfl,fun _ _=>rfl,fun _ _=>rfl,fun _ _=>rfl,fun _ _=>rfl,fun _ _=>rfl,fun _ _=>rfl,trivial⟩) (aG (cd _ 0 (by kernel_rfl))) (jD.get _ ⟨kF _,kF _,stI _ _,kF _,kF _,stI _ _,stI _ _,kF _,kF _,stI _ _,stQ _ _,yA,trivial⟩)
  (fun _ h=>nomatch h) (fmc ⟨ls,fmc ⟨ls,fmc ⟨scQ _ _,fmc ⟨ls,fmc ⟨ls,fmc ⟨ls,fmc ⟨ls,fun _ h=>nomatch h⟩⟩⟩⟩⟩⟩⟩) (fun _ h=>nomatch h) bw3.size
  (fmc ⟨⟨x1a,by show w.heap.size≤w.heap.size;omega⟩,fmc ⟨⟨x1b,by show w.heap.size≤w.heap.size+1;omega⟩,fmc ⟨⟨x1c,by show w.heap.size≤w.heap.size+1+1;omega⟩,fmc ⟨⟨x2a,by show w.heap.size≤w1.heap.size;omega⟩,fmc ⟨⟨x2b,by show w.heap.size≤w1.heap.size+1;omega⟩,fmc ⟨⟨x3a,by show w.heap.size≤w2.heap.size;omega⟩,fmc ⟨⟨x3b,by show w.heap.size≤w2.heap.size+1;omega⟩,fun _ h=>nomatch h⟩⟩⟩⟩⟩⟩⟩) (rM (by simp <;> omega))
  (aG ⟨?_,?_,?_,?_,?_,?_,?_,?_,?_,?_,?_,?_,trivial⟩) ?_
 ·exact .inl ⟨by simp,by simp,fun xf wq hk hbl hd K hK=>by
   have y:Blk wq w1.heap.size 194 #[.bool b1,.slice A1 n1 c1]:=hbl _ (List.Mem.tail _ (List.Mem.tail _ (List.Mem.tail _ (List.Mem.head _)))) (by simp [Region.binds]);obtain ⟨hcl0,hcl1⟩:=y.c2;(try dsimp only);go_simp
   exact hK.out (.agg #[.bool b1,.slice A1 n1 c1]) _ rfl (aa _)⟩
 ·exact .inl ⟨by simp,by simp,fun xf wq hk hbl hd K hK=>by
   have y:Blk wq (w2.heap.size+1) 194 #[.bool b'2,.slice A'2 n'2 c'2]:=hbl _ (List.Mem.tail _ (List.Mem.tail _ (List.Mem.tail _ (List.Mem.tail _ (List.Mem.tail _ (List.Mem.tail _ (List.Mem.head _))))))) (by simp [Region.binds]);obtain ⟨hcl0,hcl1⟩:=y.c2;(try dsimp only);go_simp
   exact hK.out (.agg #[.bool b'2,.slice A'2 n'2 c'2]) _ rfl (aa _)⟩
 ·exact .inl ⟨by simp,by simp,fun xf wq hk hbl hd K hK=>by
   have d0:xf 0=.agg #[.bool b1,.slice A1 n1 c1]:=hd ⟨0,.data⟩ (by simp) rfl;have d1:xf 1=.agg #[.bool b'2,.slice A'2 n'2 c'2]:=hd ⟨1,.data⟩ (by simp) rfl;(try dsimp only);(try simp only [d0,d1]);go_simp;go_at_call 236;(with_reducible refine (gc _ b1 A1 n1 c1 ((q).num) ((k)) ?_ b'2 A'2 n'2 c'2 (((q').den:Int)) ((k')) ?_ ?_).mono ?_);(exact (h1.keep hk).iz);(exact (h'2.keep hk).iz);(omega);rintro e wr ⟨b5,A5,n5,c5,rfl,h5,hbr⟩;have hz:=hK.out _ _ ⟨b5,A5,n5,c5,rfl,h5⟩ hbr;simp only [d0,d1] at hz
   exact hz⟩
 ·exact .inl ⟨by simp,by simp,fun xf wq hk hbl hd K hK=>by
   have y:Blk wq w2.heap.size 194 #[.bool b2,.slice A2 n2 c2]:=hbl _ (List.Mem.tail _ (List.Mem.tail _ (List.Mem.tail _ (List.Mem.tail _ (List.Mem.tail _ (List.Mem.head _)))))) (by simp [Region.binds]);obtain ⟨hcl0,hcl1⟩:=y.c2;(try dsimp only);go_simp
   exact hK.out (.agg #[.bool b2,.slice A2 n2 c2]) _ rfl (aa _)⟩
 ·exact .inl ⟨by simp,by simp,fun xf wq hk hbl hd K hK=>by
   have y:Blk wq (w1.heap.size+1) 194 #[.bool b'1,.slice A'1 n'1 c'1]:=hbl _ (List.Mem.tail _ (List.Mem.tail _ (List.Mem.tail _ (List.Mem.tail _ (List.Mem.head _))))) (by simp [Region.binds]);obtain ⟨hcl0,hcl1⟩:=y.c2;(try dsimp only);go_simp
   exact hK.out (.agg #[.bool b'1,.slice A'1 n'1 c'1]) _ rfl (aa _)⟩
 ·exact .inl ⟨by simp,by simp,fun xf wq hk hbl hd K hK=>by
   have d3:xf 3=.agg #[.bool b2,.slice A2 n2 c2]:=hd ⟨3,.data⟩ (by simp) rfl;have d4:xf 4=.agg #[.bool b'1,.slice A'1 n'1 c'1]:=hd ⟨4,.data⟩ (by simp) rfl;(try dsimp only);(try simp only [d3,d4]);go_simp;go_at_call 236;(with_reducible refine (gc _ b2 A2 n2 c2 ((q').num) ((k')) ?_ b'1 A'1 n'1 c'1 (((q).den:Int)) ((k)) ?_ ?_).mono ?_);(exact (h2.keep hk).iz);(exact (h'1.keep hk).iz);(omega);rintro e wr ⟨b6,A6,n6,c6,rfl,h6,hbr⟩;have hz:=hK.out _ _ ⟨b6,A6,n6,c6,rfl,h6⟩ hbr;simp only [d3,d4] at hz
   exact hz⟩
 ·exact .inl ⟨by simp,by simp,fun xf wq hk hbl hd K hK=>by
   obtain ⟨b5,A5,n5,c5,d2,h5⟩:VI (((q).num) * (((q').den:Int))) (((k))+((k'))) (xf 2) wq:=hd ⟨2,.data⟩ (by simp) rfl;obtain ⟨b6,A6,n6,c6,d5,h6⟩:VI (((q').num) * (((q).den:Int))) (((k'))+((k))) (xf 5) wq:=hd ⟨5,.data⟩ (by simp) rfl;(try dsimp only);(try simp only [d2,d5]);go_simp;go_at_call 242;(with_reducible refine (rH _ b5 A5 n5 c5 (((q).num) * (((q').den:Int))) (((k))+((k'))) ?_ b6 A6 n6 c6 (((q').num) * (((q).den:Int))) (((k'))+((k))) ?_ ?_).mono ?_);(exact h5.iz);(exact h6.iz);(omega);rintro e wr ⟨b7,A7,n7,c7,rfl,h7,hbr⟩;have hz:=hK.out _ _ ⟨b7,A7,n7,c7,rfl,h7⟩ hbr;simp only [d2,d5] at hz
   exact hz⟩
 ·exact .inl ⟨by simp,by simp,fun xf wq hk hbl hd K hK=>by
   have y:Blk wq (w1.heap.size+1) 194 #[.bool b'1,.slice A'1 n'1 c'1]:=hbl _ (List.Mem.tail _ (List.Mem.tail _ (List.Mem.tail _ (List.Mem.tail _ (List.Mem.head _))))) (by simp [Region.binds]);obtain ⟨hcl0,hcl1⟩:=y.c2;(try dsimp only);go_simp
   exact hK.out (.agg #[.bool b'1,.slice A'1 n'1 c'1]) _ rfl (aa _)⟩
 ·exact .inl ⟨by simp,by simp,fun xf wq hk hbl hd K hK=>by
   have y:Blk wq (w2.heap.size+1) 194 #[.bool b'2,.slice A'2 n'2 c'2]:=hbl _ (List.Mem.tail _ (List.Mem.tail _ (List.Mem.tail _ (List.Mem.tail _ (List.Mem.tail _ (List.Mem.tail _ (List.Mem.head _))))))) (by simp [Region.binds]);obtain ⟨hcl0,hcl1⟩:=y.c2;(try dsimp only);go_simp
   exact hK.out (.agg #[.bool b'2,.slice A'2 n'2 c'2]) _ rfl (aa _)⟩
 ·exact .inl ⟨by simp,by simp,fun xf wq hk hbl hd K hK=>by
   have d7:xf 7=.agg #[.bool b'1,.slice A'1 n'1 c'1]:=hd ⟨7,.data⟩ (by simp) rfl;have d8:xf 8=.agg #[.bool b'2,.slice A'2 n'2 c'2]:=hd ⟨8,.data⟩ (by simp) rfl;(try dsimp only);(try simp only [d7,d8]);go_simp;go_at_call 236;(with_reducible refine (gc _ b'1 A'1 n'1 c'1 (((q).den:Int)) ((k)) ?_ b'2 A'2 n'2 c'2 (((q').den:Int)) ((k')) ?_ ?_).mono ?_);(exact (h'1.keep hk).iz);(exact (h'2.keep hk).iz);(omega);rintro e wr ⟨b8,A8,n8,c8,rfl,h8,hbr⟩;have hz:=hK.out _ _ ⟨b8,A8,n8,c8,rfl,h8⟩ hbr;simp only [d7,d8] at hz
   exact hz⟩
 ·exact .inl ⟨by simp,by simp,fun xf wq hk hbl hd K hK=>by
   obtain ⟨b7,A7,n7,c7,d6,h7⟩:VI ((((q).num) * (((q').den:Int)))+(((q').num) * (((q).den:Int)))) ((((k))+((k')))+(((k'))+((k)))+1) (xf 6) wq:=hd ⟨6,.data⟩ (by simp) rfl;obtain ⟨b8,A8,n8,c8,d9,h8⟩:VI ((((q).den:Int)) * (((q').den:Int))) (((k))+((k'))) (xf 9) wq:=hd ⟨9,.data⟩ (by simp) rfl;(try dsimp only);(try simp only [d6,d9]);go_simp;go_at_call 237;(with_reducible refine (lG _ b7 A7 n7 c7 ((((q).num) * (((q').den:Int)))+(((q').num) * (((q).den:Int)))) ((((k))+((k')))+(((k'))+((k)))+1) ?_ b8 A8 n8 c8 ((((q).den:Int)) * (((q').den:Int))) (((k))+((k'))) ?_ (q+q') (k+k'+1) ?_ ?_ ?_ ?_).mono ?_);(exact h7.iz);(exact h8.iz);(exact Int.mul_ne_zero (fv _) (fv _));(exact (yk _ _).symm);(exact yU HS.out HS'.out);(omega);rintro e wr ⟨b9,A9,n9,c9,A'9,n'9,c'9,rfl,h9,hbr⟩;have hz:=hK.out _ _ ⟨b9,A9,n9,c9,A'9,n'9,c'9,rfl,h9⟩ hbr;simp only [d6,d9] at hz
   exact hz⟩
 ·exact .inr (.inr (.inr ⟨⟨w.heap.size+1+1,11,0,65,#[.bool false,.slice none 0 0,.slice none 0 0],CQ (q+q') (k+k'+1)⟩,by simp,rfl,by simp,by simp,(show KT 65=false by decide),fun _ _=>True.intro,fun xf wq hblk hd=>by
   obtain ⟨b9,A9,n9,c9,A'9,n'9,c'9,d10,h9⟩:VQ (q+q') (k+k'+1) (xf 10) wq:=hd ⟨10,.data⟩ (by simp) rfl;dsimp only at hblk;refine ⟨[.bool b9,.slice A9 n9 c9,.slice A'9 n'9 c'9],fun w' hk=>⟨b9,A9,n9,c9,A'9,n'9,c'9,rfl,h9.keep hk⟩,fun K hK=>?_⟩;have hc0:wq.cell? ⟨w.heap.size+1+1,0,none⟩=some (.bool false):=hblk.cell 0;have hc1:wq.cell? ⟨w.heap.size+1+1,1,none⟩=some (.slice none 0 0):=hblk.cell 1;have hc2:wq.cell? ⟨w.heap.size+1+1,2,none⟩=some (.slice none 0 0):=hblk.cell 2;have hf0:wq.frozen? ⟨w.heap.size+1+1,0,none⟩=false:=hblk.frozen 0;have hf1:wq.frozen? ⟨w.heap.size+1+1,1,none⟩=false:=hblk.frozen 1;have hf2:wq.frozen? ⟨w.heap.size+1+1,2,none⟩=false:=hblk.frozen 2;(try dsimp only);simp only [d10];go_simp;have hz:=hK.out undef;simp only [d10] at hz
   exact hz⟩))
 clear cx2a lx2a cx2b lx2b cx3a lx3a cx3b lx3b;intro y4 w4 kq4 hbl4 lw4 how hrr hfl hds;replace h:=h.keep kq4;replace h':=h'.keep kq4;replace h1:=h1.keep kq4;replace h'1:=h'1.keep kq4;replace h2:=h2.keep kq4;replace h'2:=h'2.keep kq4;obtain ⟨_,z4_0,ez,_⟩:=how _ (List.Mem.head _);obtain rfl:=ez (by simp);dsimp only at z4_0;obtain ⟨_,z4_1,ez,_⟩:=how _ (List.Mem.tail _ (List.Mem.head _));obtain rfl:=ez (by simp);dsimp only at z4_1;obtain ⟨_,z4_2,_,ez⟩:=how _ (List.Mem.tail _ (List.Mem.tail _ (List.Mem.head _)));obtain ⟨b9,A9,n9,c9,A'9,n'9,c'9,rfl,h9⟩:=ez (by simp);dsimp only at z4_2;obtain ⟨_,z4_3,ez,_⟩:=how _ (List.Mem.tail _ (List.Mem.tail _ (List.Mem.tail _ (List.Mem.head _))));obtain rfl:=ez (by simp);dsimp only at z4_3;obtain ⟨_,z4_4,ez,_⟩:=how _ (List.Mem.tail _ (List.Mem.tail _ (List.Mem.tail _ (List.Mem.tail _ (List.Mem.head _)))));obtain rfl:=ez (by simp);dsimp only at z4_4;obtain ⟨_,z4_5,ez,_⟩:=how _ (List.Mem.tail _ (List.Mem.tail _ (List.Mem.tail _ (List.Mem.tail _ (List.Mem.tail _ (List.Mem.head _))))));obtain rfl:=ez (by simp);dsimp only at z4_5;obtain ⟨_,z4_6,ez,_⟩:=how _ (List.Mem.tail _ (List.Mem.tail _ (List.Mem.tail _ (List.Mem.tail _ (List.Mem.tail _ (List.Mem.tail _ (List.Mem.head _)))))));obtain rfl:=ez (by simp);dsimp only at z4_6;(try dsimp only);clear hrr hfl how hds;clear x1a x1b x1c x2a x2b x3a x3b;have bw4:=bw3.trans hbl4;clear bw3;have cz4_2_0:w4.cell? ⟨w.heap.size+1+1,0,none⟩=some (.bool b9):=z4_2.cell 0;have cz4_2_1:w4.cell? ⟨w.heap.size+1+1,1,none⟩=some (.slice A9 n9 c9):=z4_2.cell 1;have cz4_2_2:w4.cell? ⟨w.heap.size+1+1,2,none⟩=some (.slice A'9 n'9 c'9):=z4_2.cell 2;have lz4_2:=oV z4_2.lt;go_wp2_with fail;refine bodyPost_ret (v:=.agg #[.bool b9,.slice A9 n9 c9,.slice A'9 n'9 c'9]) (by simp [results,Tryz.results217,go_sem, *] <;> trivial) rfl ?_;exact ⟨b9,A9,n9,c9,A'9,n'9,c'9,rfl,h9.keep (Kp.refl w4),bw4⟩
theorem AK (w:World) (b A n c D m e q k) (h:QZ w b A n c D m e q k) (b' A' n' c' D' m' e' q' k') (h':QZ w b' A' n' c' D' m' e' q' k') (h0:0 < k) (hk:k≤40000000) (h0':0 < k') (hk':k'≤40000000) :
 Calls Tryz.prog 175 #[.agg #[.bool b,.slice A n c,.slice D m e],.agg #[.bool b',.slice A' n' c',.slice D' m' e']] w (ph w (q - q') (k+k'+1)):=by
 rw [show q - q'=q+-q' from Rat.sub_eq_add_neg q q'];go_in;go_wp2_with fail;have p1:=((((Kp.refl w).alloc (.cells #[.bool b,.slice A n c,.slice D m e] 65)).alloc (.cells #[.bool b',.slice A' n' c',.slice D' m' e'] 65)).alloc (.cells #[.bool false,.slice none 0 0,.slice none 0 0] 65));have bw1:=((((aa w).alloc (by first | omega | (simp <;> omega)) (.cells #[.bool b,.slice A n c,.slice D m e] 65)).alloc (by first | omega | (simp <;> omega)) (.cells #[.bool b',.slice A' n' c',.slice D' m' e'] 65)).alloc (by first | omega | (simp <;> omega)) (.cells #[.bool false,.slice none 0 0,.slice none 0 0] 65));have x1a:Blk (((w.alloc (.cells #[.bool b,.slice A n c,.slice D m e] 65)).alloc (.cells #[.bool b',.slice A' n' c',.slice D' m' e'] 65)).alloc (.cells #[.bool false,.slice none 0 0,.slice none 0 0] 65)) w.heap.size 65 #[.bool b,.slice A n c,.slice D m e]:=(((ah _ _ _ (by simp)).alloc (.cells #[.bool b',.slice A' n' c',.slice D' m' e'] 65)).alloc (.cells #[.bool false,.slice none 0 0,.slice none 0 0] 65));have x1b:Blk (((w.alloc (.cells #[.bool b,.slice A n c,.slice D m e] 65)).alloc (.cells #[.bool b',.slice A' n' c',.slice D' m' e'] 65)).alloc (.cells #[.bool false,.slice none 0 0,.slice none 0 0] 65)) (w.heap.size+1) 65 #[.bool b',.slice A' n' c',.slice D' m' e']:=((ah _ _ _ (by simp)).alloc (.cells #[.bool false,.slice none 0 0,.slice none 0 0] 65));have x1c:Blk (((w.alloc (.cells #[.bool b,.slice A n c,.slice D m e] 65)).alloc (.cells #[.bool b',.slice A' n' c',.slice D' m' e'] 65)).alloc (.cells #[.bool false,.slice none 0 0,.slice none 0 0] 65)) (w.heap.size+1+1) 65 #[.bool false,.slice none 0 0,.slice none 0 0]:=(ah _ _ _ (by simp));have lw1:w.heap.size+3≤(((w.alloc (.cells #[.bool b,.slice A n c,.slice D m e] 65)).alloc (.cells #[.bool b',.slice A' n' c',.slice D' m' e'] 65)).alloc (.cells #[.bool false,.slice none 0 0,.slice none 0 0] 65)).heap.size:=by simp
 generalize hE1:(((w.alloc (.cells #[.bool b,.slice A n c,.slice D m e] 65)).alloc (.cells #[.bool b',.slice A' n' c',.slice D' m' e'] 65)).alloc (.cells #[.bool false,.slice none 0 0,.slice none 0 0] 65))=w1 at p1 bw1 lw1 x1a x1b x1c ⊢;clear hE1;replace h:=h.keep p1;replace h':=h'.keep p1;have cx1a:=x1a.c3;have lx1a:=fM x1a.lt;have cx1b:=x1b.c3;have lx1b:=gG x1b.lt;obtain ⟨cx1ca,cx1cb,cx1cc⟩:=x1c.c3;obtain ⟨fx1ca,fx1cb,fx1cc⟩:=x1c.f3;have lx1c:=oV x1c.lt;have nfx1_0_0:¬ w.heap.size=w.heap.size+1+1:=by omega
 have nex1_0_0:¬ w.heap.size=w.heap.size+2:=by omega
 have nfx1_1_0:¬ w.heap.size+1=w.heap.size+1+1:=by omega
 have nex1_1_0:¬ w.heap.size=w.heap.size+1:=by omega
 go_region_held3 (fun w'=>SeesX w1.heap.size (w.heap.size+1+1) w1 w') (first | with_reducible exact SeesX.of Qr (by assumption) | with_reducible exact SeesX.of Qr (aa _).drew | with_reducible exact (SeesX.set (SeesX.set (SeesX.set (SeesX.of Qr (by assumption))))) | with_reducible exact (SeesX.set (SeesX.set (SeesX.of Qr (by assumption)))) | with_reducible exact (SeesX.set (SeesX.of Qr (by assumption))) | exact SeesX.of Qr (af (aa _) 1) | exact SeesX.of Qr (af (by assumption) _))
  (first
   | (go_at_call 203;(with_reducible refine (yC _ b' A' n' c' D' m' e' (q') (k') ?_ ?_ ?_).mono ?_);(exact h');(omega);(omega);rintro e w2 ⟨b2,A2,n2,c2,A'2,n'2,c'2,rfl,h2,hb2⟩;replace hb2:=ak (af (aa _) 1) hb2;have q2:Below w1.heap.size w1 w2:=ak (aa w1) hb2;replace h:=h.belw hb2;replace h':=h'.belw hb2)
   | (go_at_call 217;(with_reducible refine (yD _ b A n c D m e (q) (k) ?_ b2 A2 n2 c2 A'2 n'2 c'2 (-(q')) ((k')) ?_ ?_ ?_ ?_ ?_).mono ?_);(exact h);(exact h2.qz);(omega);(omega);(omega);(omega);rintro e w3 ⟨b3,A3,n3,c3,A'3,n'3,c'3,rfl,h3,hb3⟩;have q3:Below w1.heap.size w1 w3:=ak q2 hb3;replace h:=h.belw hb3;replace h':=h'.belw hb3;replace h2:=h2.belw hb3;have x1c:=x1c.b q3;obtain ⟨cx1ca,cx1cb,cx1cc⟩:=x1c.c3;obtain ⟨fx1ca,fx1cb,fx1cc⟩:=x1c.f3))
 have bw3:=bw1.trans (q3.mono bw1.size);clear cx1a lx1a cx1b lx1b cx1ca fx1ca cx1cb fx1cb cx1cc fx1cc lx1c;replace x1a:=x1a.b q3;replace x1b:=x1b.b q3;have lw3:=q3.size;obtain ⟨cx1ca,cx1cb,cx1cc⟩:=x1c.c3;obtain ⟨fx1ca,fx1cb,fx1cc⟩:=x1c.f3;go_wp2_with fail;refine bodyPost_ret (v:=.agg #[.bool b3,.slice A3 n3 c3,.slice A'3 n'3 c'3]) (by simp [results,Tryz.results175,go_sem, *] <;> trivial) rfl ?_;exact ⟨b3,A3,n3,c3,A'3,n'3,c'3,rfl,h3.keep ((((Kp.refl w3).sb (w.heap.size+1+1) 0 x1c.box (by decide) (.bool b3)).sb (w.heap.size+1+1) 1 (x1c.box.set ⟨w.heap.size+1+1,0,none⟩ (.bool b3)) (by decide) (.slice A3 n3 c3)).sb (w.heap.size+1+1) 2 ((x1c.box.set ⟨w.heap.size+1+1,0,none⟩ (.bool b3)).set ⟨w.heap.size+1+1,1,none⟩ (.slice A3 n3 c3)) (by decide) (.slice A'3 n'3 c'3)),(((bw3.sc (w.heap.size+1+1) 0 (by omega) (.bool b3)).sc (w.heap.size+1+1) 1 (by omega) (.slice A3 n3 c3)).sc (w.heap.size+1+1) 2 (by omega) (.slice A'3 n'3 c'3))⟩
theorem AL (w:World) (b A n c D m e q k) (h:QZ w b A n c D m e q k) (b' A' n' c' D' m' e' q' k') (h':QZ w b' A' n' c' D' m' e' q' k') (h0:0 < k) (hk:k≤10000000) (h0':0 < k') (hk':k'≤10000000) :
 Calls Tryz.prog 136 #[.agg #[.bool b,.slice A n c,.slice D m e],.agg #[.bool b',.slice A' n' c',.slice D' m' e']] w (av w (.int .i64 (q - q').num.sign)):=by
 go_in;go_wp2_with fail;(with_reducible refine (AK _ b A n c D m e (q) (k) ?_ b' A' n' c' D' m' e' (q') (k') ?_ ?_ ?_ ?_ ?_).mono ?_);(exact (h.belw (((Below.refl _ _).alloc Qr _).alloc (by simp) _)));(exact (h'.belw (((Below.refl _ _).alloc Qr _).alloc (by simp) _)));(omega);(omega);(omega);(omega);rintro e w1 ⟨b1,A1,n1,c1,A'1,n'1,c'1,rfl,h1,hb1⟩;have q1:=hb1.q2;replace h:=h.belw q1;replace h':=h'.belw q1;have x1a:Blk w1 w.heap.size 65 #[.bool b,.slice A n c,.slice D m e]:=((ah _ _ _ (by simp)).alloc _).below hb1 (by simp <;> omega);have x1b:=(ah _ _ _ (g:=w.heap.size+1) (by simp)).below hb1 (by simp);have bw1:=(aa w).trans (q1.mono (aa w).size);have lw1:=hb1.l2;clear q1;go_wp2_with fail;(with_reducible refine (uX _ b1 A1 n1 c1 A'1 n'1 c'1 ((q) - (q')) ((k)+(k')+1) ?_ ?_ ?_).mono ?_);(exact h1.qz);(omega);(omega);rintro e w2 ⟨rfl,q2⟩;replace h:=h.belw q2;replace h':=h'.belw q2;replace h1:=h1.belw q2;replace x1a:=x1a.b q2;replace x1b:=x1b.b q2;have bw2:=bw1.trans (q2.mono bw1.size);have lw2:=q2.size;clear q2 bw1;go_wp2;go_ret;exact bV rfl bw2
theorem zE (w:World) (b A n c z k) (h:IZ w b A n c z k) (b' A' n' c' z' k') (h':IZ w b' A' n' c' z' k') (q:Rat) (K:Nat) (hd:z'≠0) (hq:Rat.divInt z z'=q) (hs:Sz q K) (hk:k+k'≤300000000) :
 Calls Tryz.prog 235 #[.agg #[.bool b,.slice A n c],.agg #[.bool b',.slice A' n' c']] w (dZ w (.int .i64 0) q K):=by
 obtain ⟨s,hs1⟩:∃ s,z'.sign=s:=⟨_,rfl⟩;have e0:((s:Int) == 0)=false:=by simp;rintro rfl;exact hd (Int.sign_eq_zero_iff_zero.1 hs1)
 have HS1:=Qh hs1;have HD:=Qh hd;have HQ:=Qh hq;have HS:=Qh hs;clear hs1 hd hq hs;go_in;go_wp2_with fail;(with_reducible refine (jg _ b' A' n' c' (z') (k') ?_ s ?_ ?_).mono ?_);(exact (h'.belw ((((Below.refl _ _).alloc Qr _).alloc (by simp) _).alloc (by simp <;> omega) _)));(exact HS1.out);(omega);rintro e w1 ⟨rfl,hb1⟩;have q1:=hb1.q3;replace h:=h.belw q1;replace h':=h'.belw q1;have x1a:Blk w1 w.heap.size 194 #[.bool b,.slice A n c]:=(((ah _ _ _ (by simp)).alloc _).alloc _).below hb1 (by simp <;> omega);have x1b:=((ah _ _ _ (g:=w.heap.size+1) (by simp)).alloc _).below hb1 (by simp <;> omega);have x1c:=(ah _ _ _ (g:=w.heap.size+1+1) (by simp)).below hb1 (by simp);have bw1:=(aa w).trans (q1.mono (aa w).size);have lw1:=hb1.l3;clear q1;have cx1a:=x1a.c2;have lx1a:=fM x1a.lt;have cx1b:=x1b.c2;have lx1b:=gG x1b.lt;go_wp2_with fail;(with_reducible refine (lG _ b A n c (z) (k) ?_ b' A' n' c' (z') (k') ?_ q K ?_ ?_ ?_ ?_).mono ?_);(exact h);(exact h');(exact HD.out);(exact HQ.out);(exact HS.out);(omega);rintro e w2 ⟨b2,A2,n2,c2,A'2,n'2,c'2,rfl,h2,q2⟩;clear cx1a lx1a cx1b lx1b;replace h:=h.belw q2;replace h':=h'.belw q2;replace x1a:=x1a.b q2;replace x1b:=x1b.b q2;replace x1c:=x1c.b q2;have bw2:=bw1.trans (q2.mono bw1.size);have lw2:=q2.size;clear q2 bw1;have cx1c:=x1c.c3;have fx1c:=x1c.f3;have lx1c:=oV x1c.lt;go_wp2_with fail;refine bodyPost_ret (v:=.tuple #[.agg #[.bool b2,.slice A2 n2 c2,.slice A'2 n'2 c'2],.int .i64 0]) (by simp [results,Tryz.results235,go_sem, *] <;> trivial) rfl ?_;exact ⟨b2,A2,n2,c2,A'2,n'2,c'2,rfl,h2.keep ((((Kp.refl w2).sb (w.heap.size+1+1) 0 x1c.box (by decide) (.bool b2)).sb (w.heap.size+1+1) 1 (x1c.box.set ⟨w.heap.size+1+1,0,none⟩ (.bool b2)) (by decide) (.slice A2 n2 c2)).sb (w.heap.size+1+1) 2 ((x1c.box.set ⟨w.heap.size+1+1,0,none⟩ (.bool b2)).set ⟨w.heap.size+1+1,1,none⟩ (.slice A2 n2 c2)) (by decide) (.slice A'2 n'2 c'2)),(((bw2.sc (w.heap.size+1+1) 0 (by omega) (.bool b2)).sc (w.heap.size+1+1) 1 (by omega) (.slice A2 n2 c2)).sc (w.heap.size+1+1) 2 (by omega) (.slice A'2 n'2 c'2))⟩
theorem zF (w:World) (i:Int) (hi:-4294967296 < i) (hi2:i < 4294967296) :
 Calls Tryz.prog 202 #[.int .i64 i] w (ph w (i:Rat) 1):=by
 go_in;go_wp2_with fail;(with_reducible refine (rI _ (i) ?_ ?_).mono ?_);(omega);(omega);rintro e w1 ⟨b1,A1,n1,c1,rfl,h1,hb1⟩;have q1:=hb1.q1;have x1a:Blk w1 w.heap.size 65 #[.bool false,.slice none 0 0,.slice none 0 0]:=(ah _ _ _ (by simp)).below hb1 (by simp);have bw1:=(aa w).trans (q1.mono (aa w).size);have lw1:=hb1.l1;clear q1;go_wp2_with fail;(with_reducible refine (uT _).mono ?_);rintro e w2 ⟨b2,A2,n2,c2,rfl,h2,q2⟩;replace h1:=h1.belw q2;replace x1a:=x1a.b q2;have bw2:=bw1.trans (q2.mono bw1.size);have lw2:=q2.size;clear q2 bw1;go_wp2_with fail;(with_reducible refine (lG _ b1 A1 n1 c1 (i) (1) ?_ b2 A2 n2 c2 (1) (1) ?_ ((i:Rat)) (1) ?_ ?_ ?_ ?_).mono ?_);(exact h1.iz);(exact h2.iz);(decide);(exact uI i);(exact yX (by omega) (by decide));(decide);rintro e w3 ⟨b3,A3,n3,c3,A'3,n'3,c'3,rfl,h3,q3⟩;replace h1:=h1.belw q3;replace h2:=h2.belw q3;replace x1a:=x1a.b q3;have bw3:=bw2.trans (q3.mono bw2.size);have lw3:=q3.size;clear q3 bw2;have cx1a:=x1a.c3;have fx1a:=x1a.f3;have lx1a:=fM x1a.lt;go_wp2_with fail;refine bodyPost_ret (v:=.agg #[.bool b3,.slice A3 n3 c3,.slice A'3 n'3 c'3]) (by simp [results,Tryz.results202,go_sem, *] <;> trivial) rfl ?_;exact ⟨b3,A3,n3,c3,A'3,n'3,c'3,rfl,h3.keep ((((Kp.refl w3).sb w.heap.size 0 x1a.box (by decide) (.bool b3)).sb w.heap.size 1 (x1a.box.set ⟨w.heap.size,0,none⟩ (.bool b3)) (by decide) (.slice A3 n3 c3)).sb w.heap.size 2 ((x1a.box.set ⟨w.heap.size,0,none⟩ (.bool b3)).set ⟨w.heap.size,1,none⟩ (.slice A3 n3 c3)) (by decide) (.slice A'3 n'3 c'3)),(((bw3.sc w.heap.size 0 (by omega) (.bool b3)).sc w.heap.size 1 (by omega) (.slice A3 n3 c3)).sc w.heap.size 2 (by omega) (.slice A'3 n'3 c'3))⟩
theorem Four.b {w w':World}{g1 g2 g3 g4 t:Nat}{c1 c2 c3 c4:Array Value}(X:Blk w g1 t c1∧Blk w g2 t c2∧Blk w g3 t c3∧Blk w g4 t c4) (hb:Below w.heap.size w w'):Blk w' g1 t c1∧Blk w' g2 t c2∧Blk w' g3 t c3∧Blk w' g4 t c4:=⟨X.1.below hb X.1.lt,X.2.1.below hb X.2.1.lt,X.2.2.1.below hb X.2.2.1.lt,X.2.2.2.below hb X.2.2.2.lt⟩
theorem FourV.b {w w':World}{b1 b2 b3 b4:Bool}{A1 A2 A3 A4:Option Addr}{n1 n2 n3 n4 c1 c2 c3 c4 k1 k2 k3 k4:Nat}{z1 z2 z3 z4:Int}(H:IV w b1 A1 n1 c1 z1 k1∧IV w b2 A2 n2 c2 z2 k2∧IV w b3 A3 n3 c3 z3 k3∧IV w b4 A4 n4 c4 z4 k4) (hb:Below w.heap.size w w'):IV w' b1 A1 n1 c1 z1 k1∧IV w' b2 A2 n2 c2 z2 k2∧IV w' b3 A3 n3 c3 z3 k3∧IV w' b4 A4 n4 c4 z4 k4:=⟨H.1.belw hb,H.2.1.belw hb,H.2.2.1.belw hb,H.2.2.2.belw hb⟩
theorem AM (w:World) (b A n c D m e q k) (h:QZ w b A n c D m e q k) (b' A' n' c' D' m' e' q' k') (h':QZ w b' A' n' c' D' m' e' q' k') (h0:0 < k) (hk:k≤40000000) (h0':0 < k') (hk':k'≤40000000):Calls Tryz.prog 234 #[.agg #[.bool b,.slice A n c,.slice D m e],.agg #[.bool b',.slice A' n' c',.slice D' m' e']] w (ph w (q * q') (k+k')):=by
 have HS:=Qh (h.sz h0);have HS':=Qh (h'.sz h0');go_in;go_upto_region 1 with fail;refine ef ?_;intro w1 hw1;have k1:B3 w w.heap.size 65 #[.bool b,.slice A n c,.slice D m e] 65 #[.bool b',.slice A' n' c',.slice D' m' e'] 65 #[.bool false,.slice none 0 0,.slice none 0 0] w1:=by rw [hw1];exact ⟨((Blk.new w _ _).alloc _).alloc _,(ah _ _ _ (by simp)).alloc _,ah _ _ _ (by simp),(((aa w).alloc Qr _).alloc (by simp) _).alloc (by simp <;> omega) _⟩
 replace h:=h.belw k1.q;replace h':=h'.belw k1.q;clear hw1;have y:=k1.s.v3;go_wp2_with fail;(refine (fm _ b A n c D m e q k h h0 (by omega)).mono ?_);rintro e9 w2 ⟨b1,A1,n1,c1,b2,A2,n2,c2,rfl,h1,h2,hb2⟩;replace k1:=k1.call hb2;replace h':=h'.belw hb2;clear hb2 y;go_upto_region 2 with fail;refine ef ?_;intro w3 hw3;have q3:Below w2.heap.size w2 w3:=by rw [hw3];exact ((aa w2).alloc Qr _).alloc (by simp) _
 have x1:Blk w3 w2.heap.size 194 #[.bool b1,.slice A1 n1 c1]:=by rw [hw3];exact (Blk.new w2 _ _).alloc _
 have x2:Blk w3 (w2.heap.size+1) 194 #[.bool b2,.slice A2 n2 c2]:=by rw [hw3];exact ah _ _ _ (by simp)
 replace k1:=k1.call q3;replace h':=h'.belw q3;replace h1:=h1.belw q3;replace h2:=h2.belw q3;clear hw3 q3;have y:=k1.t.v3;go_wp2_with fail;(refine (fm _ b' A' n' c' D' m' e' q' k' h' h0' (by omega)).mono ?_);rintro e9 w4 ⟨b3,A3,n3,c3,b4,A4,n4,c4,rfl,h3,h4,hb4⟩;replace k1:=k1.call hb4;replace h1:=h1.belw hb4;replace h2:=h2.belw hb4;replace x1:=x1.b hb4;replace x2:=x2.b hb4;clear hb4 y;go_upto_region 3 with fail;refine ef ?_;intro w5 hw5;have q5:Below w4.heap.size w4 w5:=by rw [hw5];exact ((aa w4).alloc Qr _).alloc (by simp) _
 have x3:Blk w5 w4.heap.size 194 #[.bool b3,.slice A3 n3 c3]:=by rw [hw5];exact (Blk.new w4 _ _).alloc _
 have x4:Blk w5 (w4.heap.size+1) 194 #[.bool b4,.slice A4 n4 c4]:=by rw [hw5];exact ah _ _ _ (by simp)
 replace k1:=k1.call q5;replace x1:=x1.b q5;replace x2:=x2.b q5;have H:=And.intro (h1.belw q5) (And.intro (h2.belw q5) (And.intro (h3.belw q5) (h4.belw q5)));clear hw5 q5 h1 h2 h3 h4 h h';have X:=And.intro x1 (And.intro x2 (And.intro x3 x4));have y:=And.intro x1.v2 (And.intro x2.v2 (And.intro x3.v2 x4.v2));clear x1 x2 x3 x4
 go_region_with (first
  | (go_at_call 236;(with_reducible refine (gc _ b1 A1 n1 c1 q.num k ?_ b3 A3 n3 c3 q'.num k' ?_ ?_).mono ?_);(exact H.1.iz);(exact H.2.2.1.iz);(omega);rintro e9 wn ⟨b5,A5,n5,c5,rfl,h5,hb⟩;replace hb:=ak (af (aa _) 1) hb;replace k1:=k1.call hb;replace H:=FourV.b H hb;replace X:=Four.b X hb;have y:=And.intro X.1.v2 (And.intro X.2.1.v2 (And.intro X.2.2.1.v2 X.2.2.2.v2));clear hb)
  | (go_at_call 236;(with_reducible refine (gc _ b2 A2 n2 c2 (q.den:Int) k ?_ b4 A4 n4 c4 (q'.den:Int) k' ?_ ?_).mono ?_);(exact H.2.1.iz);(exact H.2.2.2.iz);(omega);rintro e9 wn ⟨b6,A6,n6,c6,rfl,h6,hb⟩;replace k1:=k1.call hb;replace H:=FourV.b H hb;replace X:=Four.b X hb;have y:=And.intro X.1.v2 (And.intro X.2.1.v2 (And.intro X.2.2.1.v2 X.2.2.2.v2));replace h5:=h5.belw hb;clear hb)
  | (go_at_call 237;(with_reducible refine (lG _ b5 A5 n5 c5 (q.num * q'.num) (k+k') ?_ b6 A6 n6 c6 ((q.den:Int) * (q'.den:Int)) (k+k') ?_ (q * q') (k+k') ?_ ?_ ?_ ?_).mono ?_);(exact h5.iz);(exact h6.iz);(exact Int.mul_ne_zero (fv _) (fv _));(exact (yl _ _).symm);(exact yT HS.out HS'.out);(omega);rintro e9 wn ⟨b9,A9,n9,c9,D9,m9,e9',rfl,h9,hb⟩;replace k1:=k1.call hb;have y:=k1.r.v3;clear hb))
 all_goals
  go_wp2_with fail;refine bodyPost_ret (v:=.agg #[.bool b9,.slice A9 n9 c9,.slice D9 m9 e9']) (by simp [results,Tryz.results234,go_sem, *] <;> trivial) rfl ?_;exact ⟨_,_,_,_,_,_,_,rfl,h9.keep (k1.r.k3 (by decide) _ _ _),((k1.q.setCell (p:=⟨w.heap.size+1+1,0,none⟩) (by show w.heap.size≤w.heap.size+1+1;omega) _).setCell (p:=⟨w.heap.size+1+1,1,none⟩) (by show w.heap.size≤w.heap.size+1+1;omega) _).setCell (p:=⟨w.heap.size+1+1,2,none⟩) (by show w.heap.size≤w.heap.size+1+1;omega) _⟩
theorem yE (w:World) (b A n c D m e q k) (h:QZ w b A n c D m e q k) (b' A' n' c' D' m' e' q' k') (h':QZ w b' A' n' c' D' m' e' q' k') (h0:0 < k) (hk:k≤40000000) (h0':0 < k') (hk':k'≤40000000) (hne:q'≠0):Calls Tryz.prog 201 #[.agg #[.bool b,.slice A n c,.slice D m e],.agg #[.bool b',.slice A' n' c',.slice D' m' e']] w (dZ w (.int .i64 0) (q / q') (k+k')):=by
 have HS:=Qh (h.sz h0);have HS':=Qh (h'.sz h0');have HN:=Qh hne;clear hne;go_in;go_upto_region 1 with fail;refine ef ?_;intro w1 hw1;have k1:B3 w w.heap.size 65 #[.bool b,.slice A n c,.slice D m e] 65 #[.bool b',.slice A' n' c',.slice D' m' e'] 65 #[.bool false,.slice none 0 0,.slice none 0 0] w1:=by rw [hw1];exact ⟨((Blk.new w _ _).alloc _).alloc _,(ah _ _ _ (by simp)).alloc _,ah _ _ _ (by simp),(((aa w).alloc Qr _).alloc (by simp) _).alloc (by simp <;> omega) _⟩
 replace h:=h.belw k1.q;replace h':=h'.belw k1.q;clear hw1;have y:=k1.s.v3;go_wp2_with fail;(refine (fm _ b A n c D m e q k h h0 (by omega)).mono ?_);rintro e9 w2 ⟨b1,A1,n1,c1,b2,A2,n2,c2,rfl,h1,h2,hb2⟩;replace k1:=k1.call hb2;replace h':=h'.belw hb2;clear hb2 y;go_upto_region 2 with fail;refine ef ?_;intro w3 hw3;have q3:Below w2.heap.size w2 w3:=by rw [hw3];exact ((aa w2).alloc Qr _).alloc (by simp) _
 have x1:Blk w3 w2.heap.size 194 #[.bool b1,.slice A1 n1 c1]:=by rw [hw3];exact (Blk.new w2 _ _).alloc _
 have x2:Blk w3 (w2.heap.size+1) 194 #[.bool b2,.slice A2 n2 c2]:=by rw [hw3];exact ah _ _ _ (by simp)
 replace k1:=k1.call q3;replace h':=h'.belw q3;replace h1:=h1.belw q3;replace h2:=h2.belw q3;clear hw3 q3;have y:=k1.t.v3;go_wp2_with fail;(refine (fm _ b' A' n' c' D' m' e' q' k' h' h0' (by omega)).mono ?_);rintro e9 w4 ⟨b3,A3,n3,c3,b4,A4,n4,c4,rfl,h3,h4,hb4⟩;replace k1:=k1.call hb4;replace h1:=h1.belw hb4;replace h2:=h2.belw hb4;replace x1:=x1.b hb4;replace x2:=x2.b hb4;clear hb4 y;go_upto_region 3 with fail;refine ef ?_;intro w5 hw5;have q5:Below w4.heap.size w4 w5:=by rw [hw5];exact ((aa w4).alloc Qr _).alloc (by simp) _
 have x3:Blk w5 w4.heap.size 194 #[.bool b3,.slice A3 n3 c3]:=by rw [hw5];exact (Blk.new w4 _ _).alloc _
 have x4:Blk w5 (w4.heap.size+1) 194 #[.bool b4,.slice A4 n4 c4]:=by rw [hw5];exact ah _ _ _ (by simp)
 replace k1:=k1.call q5;replace x1:=x1.b q5;replace x2:=x2.b q5;have H:=And.intro (h1.belw q5) (And.intro (h2.belw q5) (And.intro (h3.belw q5) (h4.belw q5)));clear hw5 q5 h1 h2 h3 h4 h h';have X:=And.intro x1 (And.intro x2 (And.intro x3 x4));have y:=And.intro x1.v2 (And.intro x2.v2 (And.intro x3.v2 x4.v2));clear x1 x2 x3 x4
 go_region_with (first
  | (go_at_call 236;(with_reducible refine (gc _ b1 A1 n1 c1 q.num k ?_ b4 A4 n4 c4 (q'.den:Int) k' ?_ ?_).mono ?_);(exact H.1.iz);(exact H.2.2.2.iz);(omega);rintro e9 wn ⟨b5,A5,n5,c5,rfl,h5,hb⟩;replace hb:=ak (af (aa _) 1) hb;replace k1:=k1.call hb;replace H:=FourV.b H hb;replace X:=Four.b X hb;have y:=And.intro X.1.v2 (And.intro X.2.1.v2 (And.intro X.2.2.1.v2 X.2.2.2.v2));clear hb)
  | (go_at_call 236;(with_reducible refine (gc _ b2 A2 n2 c2 (q.den:Int) k ?_ b3 A3 n3 c3 q'.num k' ?_ ?_).mono ?_);(exact H.2.1.iz);(exact H.2.2.1.iz);(omega);rintro e9 wn ⟨b6,A6,n6,c6,rfl,h6,hb⟩;replace k1:=k1.call hb;replace H:=FourV.b H hb;replace X:=Four.b X hb;have y:=And.intro X.1.v2 (And.intro X.2.1.v2 (And.intro X.2.2.1.v2 X.2.2.2.v2));replace h5:=h5.belw hb;clear hb)
  | (go_at_call 235;(with_reducible refine (zE _ b5 A5 n5 c5 (q.num * (q'.den:Int)) (k+k') ?_ b6 A6 n6 c6 ((q.den:Int) * q'.num) (k+k') ?_ (q / q') (k+k') ?_ ?_ ?_ ?_).mono ?_);(exact h5.iz);(exact h6.iz);(exact Int.mul_ne_zero (fv _) (fun x=>HN.out (Rat.num_eq_zero.1 x)));(exact (ym _ _ HN.out).symm);(exact yW HS.out HS'.out HN.out);(omega);rintro e9 wn ⟨b9,A9,n9,c9,D9,m9,e9',rfl,h9,hb⟩;replace k1:=k1.call hb;have y:=k1.r.v3;clear hb))
 all_goals
  go_wp2_with fail;refine bodyPost_ret (v:=.tuple #[.agg #[.bool b9,.slice A9 n9 c9,.slice D9 m9 e9'],.int .i64 0]) (by simp [results,Tryz.results201,go_sem, *] <;> trivial) rfl ?_;exact ⟨_,_,_,_,_,_,_,rfl,h9.keep (k1.r.k3 (by decide) _ _ _),((k1.q.setCell (p:=⟨w.heap.size+1+1,0,none⟩) (by show w.heap.size≤w.heap.size+1+1;omega) _).setCell (p:=⟨w.heap.size+1+1,1,none⟩) (by show w.heap.size≤w.heap.size+1+1;omega) _).setCell (p:=⟨w.heap.size+1+1,2,none⟩) (by show w.heap.size≤w.heap.size+1+1;omega) _⟩
end Go.Proofs.YtfilnhompchciaaGreatDoor
namespace Bn
open Go.Lib
theorem pM {c:UInt8}:∀ {a b x y:List UInt8},c ∉ a→c ∉ x→a ++ c :: b=x ++ c :: y→a=x∧b=y:=by
 intro a
 induction a with
 | nil =>
  intro b x y _ hx h
  cases x with
  | nil=>simp at h;exact ⟨rfl,h⟩
  | cons z r=>simp at h;exact absurd h.1 (fun e=>hx (by rw [e];simp))
 | cons w r ih =>
  intro b x y ha hx h
  cases x with
  | nil=>simp at h;exact absurd h.1 (fun e=>ha (by rw [e];simp))
  | cons z s =>
   simp at h ha hx;obtain ⟨e1,e2⟩:=ih ha.2 hx.2 h.2;exact ⟨by rw [h.1,e1],e2⟩
def bg (q:Rat):List UInt8:=if q.den=1 then itoa q.num else itoa q.num ++ 47 :: itoa (q.den:Int)
theorem vE {c:UInt8}:∀ {a b:List UInt8},c ∉ a→index (a ++ c :: b) [c]=(a.length:Int):=by
 intro a
 induction a with
 | nil=>intro b _;rw [List.nil_append,index,if_pos (by simp [List.isPrefixOf])];rfl
 | cons x r ih =>
  intro b h;simp at h;have hp:List.isPrefixOf [c] (x :: (r ++ c :: b))=false:=by simp [List.isPrefixOf];exact h.1
  rw [List.cons_append,index,hp,ih (b:=b) h.2];have:((r.length:Int) == -1)=false:=by rw [beq_eq_false_iff_ne];omega
  simp [this]
theorem vF {c:UInt8}:∀ {a:List UInt8},c ∉ a→index a [c]=-1:=by
 intro a
 induction a with
 | nil=>intro _;rfl
 | cons x r ih =>
  intro h;simp at h;have hp:List.isPrefixOf [c] (x :: r)=false:=by simp [List.isPrefixOf];exact h.1
  rw [index,hp,ih h.2];rfl
theorem qQ {c:UInt8}{a b:List UInt8}(h:c ∉ a):cut (a ++ c :: b) [c]=(a,b,true):=by
 unfold cut;rw [vE h,if_pos (by omega)];simp
theorem lH {c:UInt8}{a:List UInt8}(h:c ∉ a):cut a [c]=(a,[],false):=by
 unfold cut;rw [vF h,if_neg (by omega)]
end Bn

/- Walks: what the integer laws lean on: short, Same; roots and texts as values. -/
namespace Go.Proofs.YtfilnhompchciaaGreatDoor
open Go Go.RowKit Bn
attribute [local go_sem ↓] Go.wp_at_zero Go.wp_at_succ
def Ws (w:World) (g N:Nat) (ns:Nat→Nat):Prop:=g < w.heap.size∧∀ i,i < N→∃ b A c,w.cell? ⟨g,i * 2,none⟩=some (.bool b)∧w.cell? ⟨g,i * 2+1,none⟩=some (.slice A (ns i) c)
theorem Ws.belw {w w':World}{g N:Nat}{ns:Nat→Nat}(h:Ws w g N ns) (hb:Below w.heap.size w w'):Ws w' g N ns:=by
 obtain ⟨hg,h⟩:=h;have hc:=(ct hb).1;refine ⟨Nat.lt_of_lt_of_le hg hb.size,fun i hi=>?_⟩;obtain ⟨b,A,c,h1,h2⟩:=h i hi;exact ⟨b,A,c,(hc _ _ hg).trans h1,(hc _ _ hg).trans h2⟩
theorem IZ.short {w:World}{b:Bool}{A:Option Addr}{n c k:Nat}{z:Int}(h:IZ w b A n c z k) (hs:n≤30):IZ w b A n c z 30:=by
 obtain ⟨l,h1,h2,_⟩:=h;exact ⟨l,h1,h2,hs⟩
theorem xK (a b:Rat):fN (a.num * b.den) (b.num * a.den)=kE a b:=by
 unfold fN kE;have h:=Ae a b;by_cases h1:a < b
 ·rw [if_pos h1,if_pos (h.1.2 h1)]
 rw [if_neg h1,if_neg (fun x=>h1 (h.1.1 x))];by_cases h2:a=b
 ·rw [if_pos h2,if_pos (h.2.2 h2)]
 rw [if_neg h2,if_neg (fun x=>h2 (h.2.1 x))]
theorem zG (q q':Rat):(q - q').num.sign=kE q q':=by
 have h1:=yS (q - q');rw [h1];unfold kE;have h2:(q - q' < 0) ↔ q < q':=by constructor <;> intro h <;> grind
 have h3:(q - q'=0) ↔ q=q':=by constructor <;> intro h <;> grind
 by_cases h4:q < q'
 ·rw [if_pos h4,if_pos (h2.2 h4)]
 rw [if_neg h4,if_neg (fun h=>h4 (h2.1 h))];by_cases h5:q=q'
 ·rw [if_pos h5,if_pos (h3.2 h5)]
 rw [if_neg h5,if_neg (fun h=>h5 (h3.1 h))]
theorem pN (w:World) (b A n c D m e q k) (h:QZ w b A n c D m e q k) (s:Int) (hs:q.num.sign=s) (h0:0 < k) (hk:k≤40000000):Calls Tryz.prog 174 #[.agg #[.bool b,.slice A n c,.slice D m e]] w (av w (.int .i64 s)):=by subst hs;exact uX w b A n c D m e q k h h0 hk
theorem kO (w:World) (b A n c D m e q k) (h:QZ w b A n c D m e q k) (b' A' n' c' D' m' e' q' k') (h':QZ w b' A' n' c' D' m' e' q' k') (s:Int) (hs:kE q q'=s) (h0:0 < k) (hk:k≤40000000) (h0':0 < k') (hk':k'≤40000000):Calls Tryz.prog 155 #[.agg #[.bool b,.slice A n c,.slice D m e],.agg #[.bool b',.slice A' n' c',.slice D' m' e']] w (av w (.int .i64 s)):=by
 subst hs;rw [← xK];exact AI w b A n c D m e q k h b' A' n' c' D' m' e' q' k' h' h0 hk h0' hk'
theorem rR (w:World) (b A n c D m e q k) (h:QZ w b A n c D m e q k) (b' A' n' c' D' m' e' q' k') (h':QZ w b' A' n' c' D' m' e' q' k') (s:Int) (hs:kE q q'=s) (h0:0 < k) (hk:k≤10000000) (h0':0 < k') (hk':k'≤10000000):Calls Tryz.prog 136 #[.agg #[.bool b,.slice A n c,.slice D m e],.agg #[.bool b',.slice A' n' c',.slice D' m' e']] w (av w (.int .i64 s)):=by
 subst hs;rw [← zG];exact AL w b A n c D m e q k h b' A' n' c' D' m' e' q' k' h' h0 hk h0' hk'
theorem vG (w:World) (b A n c z k) (h:IZ w b A n c z k) (b' A' n' c' z' k') (h':IZ w b' A' n' c' z' k') (hd:z'=0) (hk:k+k'≤300000000) :
 Calls Tryz.prog 191 #[.agg #[.bool b,.slice A n c],.agg #[.bool b',.slice A' n' c']] w (dZ w (.iface 49 (.int .i64 8)) 0 1):=by
 have HS:=Qh (show z'.sign=0 by rw [hd];rfl);clear hd;go_in;go_wp2_with fail;(with_reducible refine (gL _ b' A' n' c' (z') (k') ?_ 0 ?_ ?_).mono ?_);(exact (h'.belw ((((Below.refl _ _).alloc Qr _).alloc (by simp) _).alloc (by simp <;> omega) _)));(exact HS.out);(omega);rintro e w1 ⟨rfl,hb1⟩;have q1:=hb1.q3;replace h:=h.belw q1;replace h':=h'.belw q1;have x1a:Blk w1 w.heap.size 194 #[.bool b,.slice A n c]:=(((ah _ _ _ (by simp)).alloc _).alloc _).below hb1 (by simp <;> omega);have x1b:=((ah _ _ _ (g:=w.heap.size+1) (by simp)).alloc _).below hb1 (by simp <;> omega);have x1c:=(ah _ _ _ (g:=w.heap.size+1+1) (by simp)).below hb1 (by simp);have bw1:=(aa w).trans (q1.mono (aa w).size);have lw1:=hb1.l3;clear q1;have cx1c:=x1c.c3;have fx1c:=x1c.f3;have lx1c:=oV x1c.lt;go_wp2_with fail;refine bodyPost_ret (v:=.tuple #[.agg #[.bool false,.slice none 0 0,.slice none 0 0],.iface 49 (.int .i64 8)]) (by simp [results,Tryz.results191,go_sem, *] <;> trivial) rfl ?_;exact ⟨_,_,_,_,_,_,_,rfl,QV.zero _ _,(((bw1.sc (w.heap.size+1+1) 0 (by omega) (.bool false)).sc (w.heap.size+1+1) 1 (by omega) (.slice none 0 0)).sc (w.heap.size+1+1) 2 (by omega) (.slice none 0 0))⟩

theorem tA (w:World):Calls Tryz.prog 13 #[.nilIface] w (av w (.int .i64 0)):=by
 go_in;go_wp2;go_ret;exact ⟨rfl,aa w⟩
theorem qR (x:Int) (w:World):(Instr.typeAssert (.iface 49 (.int .i64 x)) 26 49 true).run Tryz.prog w=.ok (.tuple #[.int .i64 x,.bool true]) w:=by
 simp [Instr.typeAssert,run_underlying Tryz.underlying49]
theorem tB (w:World) (x:Int):Calls Tryz.prog 13 #[.iface 49 (.int .i64 x)] w (av w (.int .i64 x)):=by
 go_in;have hr:=qR x;go_wp2;go_ret;exact ⟨rfl,aa w⟩
end Go.Proofs.YtfilnhompchciaaGreatDoor
namespace Bn
open Go.Lib
def yF (F B:List UInt8):Bool:=okZ (bR F) && decide (0≤fc (bR F)) && decide (B≠[]) && B.all aK
def AN (F B:List UInt8):Int:=fc (bR F) * 10 ^ B.length+aj B
def Bz (F B:List UInt8):Rat:=Rat.divInt (if cG F then -(AN F B) else AN F B) (10 ^ B.length)
def yG (F B:List UInt8):Bool:=okZ F && okZ B && decide (0 < fc B) && decide (fc B≠1) && decide (Nat.gcd (fc F).natAbs (fc B).natAbs=1)
inductive Bg (s:List UInt8) (x:Int) (q:Rat):Prop
  | big (h:65536 < s.length) (hx:x=4) (hq:q=0)
  | dot (F B:List UInt8) (hl:s.length≤65536) (hs:s=F ++ 46 :: B) (hF:46 ∉ F) (h64:s.length≤64) (h:yF F B=true) (hx:x=0) (hq:q=Bz F B)
  | dotNo (F B:List UInt8) (hl:s.length≤65536) (hs:s=F ++ 46 :: B) (hF:46 ∉ F) (h:64 < s.length∨yF F B=false) (hx:x=2) (hq:q=0)
  | quo (F B:List UInt8) (hl:s.length≤65536) (hd:46 ∉ s) (hs:s=F ++ 47 :: B) (hF:47 ∉ F) (h:yG F B=true) (hx:x=0) (hq:q=Rat.divInt (fc F) (fc B))
  | quoNo (F B:List UInt8) (hl:s.length≤65536) (hd:46 ∉ s) (hs:s=F ++ 47 :: B) (hF:47 ∉ F) (h:yG F B=false) (hx:x=2) (hq:q=0)
  | whole (hl:s.length≤65536) (hd:46 ∉ s) (hs:47 ∉ s) (h:okZ s=true) (hx:x=0) (hq:q=((fc s:Int):Rat))
  | wholeNo (hl:s.length≤65536) (hd:46 ∉ s) (hs:47 ∉ s) (h:okZ s=false) (hx:x=2) (hq:q=0)
end Bn

/- Walks: linkworkref01.Parse. -/
namespace Go.Proofs.YtfilnhompchciaaGreatDoor
open Go Go.RowKit Bn
attribute [local go_sem ↓] Go.wp_at_zero Go.wp_at_succ

def tC (w:World) (T:List UInt8) (m:Bool) (k:Nat) (e:Ending) (w':World):Prop :=
  if T.all aK=true then jF w (.int .i64 0) (if m then -(aj T:Int) else aj T) k e w' else jF w (.int .i64 2) 0 0 e w'
theorem tC.bad {w w':World}{T:List UInt8}{m:Bool}{k:Nat}{e:Ending}(h:¬ T.all aK=true) (hr:jF w (.int .i64 2) 0 0 e w'):tC w T m k e w':=by
 unfold tC;rw [if_neg h];exact hr
theorem tC.good {w w':World}{T:List UInt8}{m:Bool}{k:Nat}{e:Ending}(h:T.all aK=true) (hr:jF w (.int .i64 0) (if m then -(aj T:Int) else aj T) k e w'):tC w T m k e w':=by
 unfold tC;rw [if_pos h];exact hr
def cD (x:Int):Value:=if x=0 then .nilIface else .iface 49 (.int .i64 x)
theorem dE:cD 0=.nilIface:=if_pos rfl
theorem jF.mono {w w':World}{v:Value}{z:Int}{k j:Nat}{e:Ending}(h:jF w v z k e w') (hk:k≤j):jF w v z j e w':=by
 obtain ⟨b,A,n,c,h1,h2,h3⟩:=h;exact ⟨b,A,n,c,h1,h2.mono hk,h3⟩
theorem xM (w:World) (x:Int):Calls Tryz.prog 13 #[cD x] w (av w (.int .i64 x)):=by
 unfold cD;split
 ·rename_i h;subst h;exact tA w
 exact tB w x
theorem xN (s:List UInt8) (i:Nat):cK (s.drop i)=if atB s i=45 then 1 else 0:=by
 rcases Nat.lt_or_ge i s.length with h | h
 ·rw [bG h]
  unfold cK;split
  ·rename_i e;injection e with e1 e2;rw [if_pos e1]
  rename_i e;rw [if_neg (fun e1=>e _ (by rw [e1]))]
 rw [List.drop_eq_nil_of_le h,fd h];rfl
theorem vH (s:List UInt8) (i:Nat):eu (s.drop i)=if (atB s i == 46 || atB s i == 47) && decide (0 < cg (s.drop (i+1))) then 1+cg (s.drop (i+1)) else 0:=by
 rcases Nat.lt_or_ge i s.length with h | h
 ·rw [bG h];rfl
 rw [List.drop_eq_nil_of_le h,fd h];rfl
theorem iu {s:List UInt8}{i v:Nat}(hv:bC (s.drop i)=v):∃ m k,((m=1∧atB s i=45)∨(m=0∧atB s i≠45))∧cg (s.drop (i+m))=k ∧
 ((k=0∧v=0)∨(0 < k∧∃ d,atB s (i+m+k)=d∧((d≠46∧d≠47∧v=m+k)∨((d=46∨d=47)∧∃ t,cg (s.drop (i+m+k+1))=t∧((t=0∧v=m+k)∨(0 < t∧v=m+k+(1+t))))))):=by
 unfold bC at hv;rw [xN,List.drop_drop] at hv;obtain ⟨m,hm⟩:∃ m,(if atB s i=45 then 1 else 0)=m:=⟨_,rfl⟩;rw [hm] at hv
 have hm2:(m=1∧atB s i=45)∨(m=0∧atB s i≠45):=by
  by_cases h:atB s i=45
  ·rw [if_pos h] at hm;exact .inl ⟨hm.symm,h⟩
  rw [if_neg h] at hm;exact .inr ⟨hm.symm,h⟩
 obtain ⟨k,hk⟩:∃ k,cg (s.drop (i+m))=k:=⟨_,rfl⟩;rw [hk,List.drop_drop,vH,← Nat.add_assoc] at hv;refine ⟨m,k,hm2,hk,?_⟩;by_cases h0:k=0
 ·rw [if_pos h0] at hv;exact .inl ⟨h0,hv.symm⟩
 rw [if_neg h0] at hv;refine .inr ⟨by omega,_,rfl,?_⟩;by_cases h1:atB s (i+m+k)=46∨atB s (i+m+k)=47
 ·have e:(atB s (i+m+k) == 46 || atB s (i+m+k) == 47)=true:=by rcases h1 with h | h <;> rw [h] <;> rfl
  rw [e,Bool.true_and] at hv;refine .inr ⟨h1,_,rfl,?_⟩;by_cases h2:0 < cg (s.drop (i+m+k+1))
  ·rw [if_pos (decide_eq_true h2)] at hv;exact .inr ⟨h2,hv.symm⟩
  rw [if_neg (by rw [decide_eq_false h2];decide)] at hv;exact .inl ⟨by omega,by omega⟩
 have a1:atB s (i+m+k)≠46:=fun h=>h1 (.inl h)
 have a2:atB s (i+m+k)≠47:=fun h=>h1 (.inr h)
 rw [beq_eq_false_iff_ne.2 a1,beq_eq_false_iff_ne.2 a2,Bool.or_self,Bool.false_and,if_neg (by decide)] at hv;exact .inl ⟨a1,a2,by omega⟩
theorem bP {s:List UInt8}{i k:Nat}(h:cg (s.drop i)=k) (hk:0 < k):i+k≤s.length:=by
 have:=ol (s.drop i);rw [h,List.length_drop] at this;omega
theorem pO (s:List UInt8):cG s=(atB s 0 == 45):=by
 cases s with
 | nil=>rfl
 | cons c t =>
  by_cases h:c=45
  ·subst h;rfl
  have e:(c == 45)=false:=beq_eq_false_iff_ne.2 h;show cG (c :: t)=(c == 45);rw [e];unfold cG;split
  ·rename_i h1;injection h1 with h2;exact absurd h2 h
  rfl
theorem jh {s:List UInt8}{i:Nat}{d:UInt8}(h:atB s i=d) (hd:d≠0):i < s.length:=by
 rcases Nat.lt_or_ge i s.length with x | x
 ·exact x
 rw [fd x] at h;exact absurd h.symm hd
theorem bN (w:World) (s:List UInt8) (x:Int) (i:Nat) (hx:x=((i:Nat):Int)) (hi:i≤s.length) (hs:s.length < 4611686018427387904) (y:Int) (hy:((i+bC (s.drop i):Nat):Int)=y):Calls Tryz.prog 115 #[ae s,.int .i64 x] w (av w (.int .i64 y)):=by
 obtain ⟨v,hv⟩:∃ v,bC (s.drop i)=v:=⟨_,rfl⟩;rw [hv] at hy;subst hx;obtain ⟨m,k,hm,hk,hc⟩:=iu hv;clear hv;rcases hm with ⟨rfl,ham⟩ | ⟨rfl,ham⟩
 ·have h0d:i < s.length:=jh ham (by decide)
  obtain ⟨d0,hd0⟩:∃ d0,atB s i=d0:=⟨_,rfl⟩;rw [hd0] at ham;have e45:(((d0.toNat:Nat):Int) == 45)=true:=(am d0 45).trans (by simp [ham]);have hwi:IntKind.i64.wrap ((i:Int)+1)=(i:Int)+1:=IntWalk.i64_in _ ⟨by omega,by omega⟩;clear ham;rcases hc with ⟨hk0,hv0⟩ | ⟨hkp,d,hd,hc⟩
  ·subst hv0
   subst hk0;have hk7:((((i:Int)+1):Int) == ((i:Int)+1:Int))=true:=by simp
   go_in;go_wp2_with fail;(with_reducible refine (aY _ (s) ((i:Int)) (i) (by omega) d0 hd0).mono ?_);rintro e w1 ⟨rfl,q1⟩;have bw1:=(aa w).trans (q1.mono (aa w).size);have lw1:=q1.size;clear q1;go_wp2_with fail;(with_reducible refine (au _ (s) (((i:Int)+1)) (i+1) (by omega) (by omega) hs ((i:Int)+1) (by have h9:=hk;omega)).mono ?_);rintro e w2 ⟨rfl,q2⟩;have bw2:=bw1.trans (q2.mono bw1.size);have lw2:=q2.size;clear q2 bw1;go_wp2;go_ret;exact bV (by rw [← hy];omega) bw2
  have hle:i+1+k≤s.length:=by have:=bP hk hkp;omega
  have hk9:((k:Int) == 0)=false:=by simp;omega
  have hk8:((k:Int)=0)=False:=by simp;omega
  have hk7:(((i:Int)+1+(k:Int):Int) == ((i:Int)+1:Int))=false:=by simp;omega
  rcases hc with ⟨hd1,hd2,hv9⟩ | ⟨hdd,t,ht,hc⟩
  ·have e46:(((d.toNat:Nat):Int) == 46)=false:=(am d 46).trans (by simp [hd1])
   have e47:(((d.toNat:Nat):Int) == 47)=false:=(am d 47).trans (by simp [hd2]);clear hd1 hd2;replace hv9:=hv9.symm;subst hv9;have hwe:IntKind.i64.wrap ((i:Int)+1+(k:Int))=(i:Int)+1+(k:Int):=IntWalk.i64_in _ ⟨by omega,by omega⟩;go_in;go_wp2_with fail;(with_reducible refine (aY _ (s) ((i:Int)) (i) (by omega) d0 hd0).mono ?_);rintro e w1 ⟨rfl,q1⟩;have bw1:=(aa w).trans (q1.mono (aa w).size);have lw1:=q1.size;clear q1;go_wp2_with fail;(with_reducible refine (au _ (s) (((i:Int)+1)) (i+1) (by omega) (by omega) hs ((i:Int)+1+(k:Int)) (by have h9:=hk;omega)).mono ?_);rintro e w2 ⟨rfl,q2⟩;have bw2:=bw1.trans (q2.mono bw1.size);have lw2:=q2.size;clear q2 bw1;go_wp2_with fail;(with_reducible refine (aY _ (s) (((i:Int)+1+(k:Int))) (i+1+k) (by omega) d hd).mono ?_);rintro e w3 ⟨rfl,q3⟩;have bw3:=bw2.trans (q3.mono bw2.size);have lw3:=q3.size;clear q3 bw2;go_wp2_with fail;(with_reducible refine (aY _ (s) (((i:Int)+1+(k:Int))) (i+1+k) (by omega) d hd).mono ?_);rintro e w4 ⟨rfl,q4⟩;have bw4:=bw3.trans (q4.mono bw3.size);have lw4:=q4.size;clear q4 bw3;go_wp2;go_ret;exact bV (by rw [← hy];omega) bw4
  have hl:i+1+k < s.length:=by rcases hdd with e | e <;> exact jh hd (by rw [e];decide)
  have hwe:IntKind.i64.wrap ((i:Int)+1+(k:Int))=(i:Int)+1+(k:Int):=IntWalk.i64_in _ ⟨by omega,by omega⟩;have hwe1:IntKind.i64.wrap ((i:Int)+1+(k:Int)+1)=(i:Int)+1+(k:Int)+1:=IntWalk.i64_in _ ⟨by omega,by omega⟩;rcases hdd with hd46 | hd47
  ·have e46:(((d.toNat:Nat):Int) == 46)=true:=(am d 46).trans (by simp [hd46])
   clear hd46;rcases hc with ⟨ht0,hv9⟩ | ⟨htp,hv9⟩
   ·replace hv9:=hv9.symm
    subst hv9;subst ht0;go_in;go_wp2_with fail;(with_reducible refine (aY _ (s) ((i:Int)) (i) (by omega) d0 hd0).mono ?_);rintro e w1 ⟨rfl,q1⟩;have bw1:=(aa w).trans (q1.mono (aa w).size);have lw1:=q1.size;clear q1;go_wp2_with fail;(with_reducible refine (au _ (s) (((i:Int)+1)) (i+1) (by omega) (by omega) hs ((i:Int)+1+(k:Int)) (by have h9:=hk;omega)).mono ?_);rintro e w2 ⟨rfl,q2⟩;have bw2:=bw1.trans (q2.mono bw1.size);have lw2:=q2.size;clear q2 bw1;go_wp2_with fail;(with_reducible refine (aY _ (s) (((i:Int)+1+(k:Int))) (i+1+k) (by omega) d hd).mono ?_);rintro e w3 ⟨rfl,q3⟩;have bw3:=bw2.trans (q3.mono bw2.size);have lw3:=q3.size;clear q3 bw2;go_wp2_with fail;(with_reducible refine (au _ (s) (((i:Int)+1+(k:Int)+1)) (i+1+k+1) (by omega) (by omega) hs ((i:Int)+1+(k:Int)+1) (by have h9:=ht;omega)).mono ?_);rintro e w4 ⟨rfl,q4⟩;have bw4:=bw3.trans (q4.mono bw3.size);have lw4:=q4.size;clear q4 bw3;go_wp2;go_ret;exact bV (by rw [← hy];omega) bw4
   replace hv9:=hv9.symm;subst hv9;have ht9:((0:Int) < (t:Int))=True:=by simp;omega
   have htl:i+1+k+1+t≤s.length:=by have:=bP ht htp;omega
   have ht8:((i:Int)+1+(k:Int)+1 < (i:Int)+1+(k:Int)+1+(t:Int))=True:=by simp;omega
   go_in;go_wp2_with fail;(with_reducible refine (aY _ (s) ((i:Int)) (i) (by omega) d0 hd0).mono ?_);rintro e w1 ⟨rfl,q1⟩;have bw1:=(aa w).trans (q1.mono (aa w).size);have lw1:=q1.size;clear q1;go_wp2_with fail;(with_reducible refine (au _ (s) (((i:Int)+1)) (i+1) (by omega) (by omega) hs ((i:Int)+1+(k:Int)) (by have h9:=hk;omega)).mono ?_);rintro e w2 ⟨rfl,q2⟩;have bw2:=bw1.trans (q2.mono bw1.size);have lw2:=q2.size;clear q2 bw1;go_wp2_with fail;(with_reducible refine (aY _ (s) (((i:Int)+1+(k:Int))) (i+1+k) (by omega) d hd).mono ?_);rintro e w3 ⟨rfl,q3⟩;have bw3:=bw2.trans (q3.mono bw2.size);have lw3:=q3.size;clear q3 bw2;go_wp2_with fail;(with_reducible refine (au _ (s) (((i:Int)+1+(k:Int)+1)) (i+1+k+1) (by omega) (by omega) hs ((i:Int)+1+(k:Int)+1+(t:Int)) (by have h9:=ht;omega)).mono ?_);rintro e w4 ⟨rfl,q4⟩;have bw4:=bw3.trans (q4.mono bw3.size);have lw4:=q4.size;clear q4 bw3;go_wp2;go_ret;exact bV (by rw [← hy];omega) bw4
  have e46:(((d.toNat:Nat):Int) == 46)=false:=(am d 46).trans (by simp [hd47]);have e47:(((d.toNat:Nat):Int) == 47)=true:=(am d 47).trans (by simp [hd47]);clear hd47;rcases hc with ⟨ht0,hv9⟩ | ⟨htp,hv9⟩
  ·replace hv9:=hv9.symm
   subst hv9;subst ht0;go_in;go_wp2_with fail;(with_reducible refine (aY _ (s) ((i:Int)) (i) (by omega) d0 hd0).mono ?_);rintro e w1 ⟨rfl,q1⟩;have bw1:=(aa w).trans (q1.mono (aa w).size);have lw1:=q1.size;clear q1;go_wp2_with fail;(with_reducible refine (au _ (s) (((i:Int)+1)) (i+1) (by omega) (by omega) hs ((i:Int)+1+(k:Int)) (by have h9:=hk;omega)).mono ?_);rintro e w2 ⟨rfl,q2⟩;have bw2:=bw1.trans (q2.mono bw1.size);have lw2:=q2.size;clear q2 bw1;go_wp2_with fail;(with_reducible refine (aY _ (s) (((i:Int)+1+(k:Int))) (i+1+k) (by omega) d hd).mono ?_);rintro e w3 ⟨rfl,q3⟩;have bw3:=bw2.trans (q3.mono bw2.size);have lw3:=q3.size;clear q3 bw2;go_wp2_with fail;(with_reducible refine (aY _ (s) (((i:Int)+1+(k:Int))) (i+1+k) (by omega) d hd).mono ?_);rintro e w4 ⟨rfl,q4⟩;have bw4:=bw3.trans (q4.mono bw3.size);have lw4:=q4.size;clear q4 bw3;go_wp2_with fail;(with_reducible refine (au _ (s) (((i:Int)+1+(k:Int)+1)) (i+1+k+1) (by omega) (by omega) hs ((i:Int)+1+(k:Int)+1) (by have h9:=ht;omega)).mono ?_);rintro e w5 ⟨rfl,q5⟩;have bw5:=bw4.trans (q5.mono bw4.size);have lw5:=q5.size;clear q5 bw4;go_wp2;go_ret;exact bV (by rw [← hy];omega) bw5
  replace hv9:=hv9.symm;subst hv9;have ht9:((0:Int) < (t:Int))=True:=by simp;omega
  have htl:i+1+k+1+t≤s.length:=by have:=bP ht htp;omega
  have ht8:((i:Int)+1+(k:Int)+1 < (i:Int)+1+(k:Int)+1+(t:Int))=True:=by simp;omega
  go_in;go_wp2_with fail;(with_reducible refine (aY _ (s) ((i:Int)) (i) (by omega) d0 hd0).mono ?_);rintro e w1 ⟨rfl,q1⟩;have bw1:=(aa w).trans (q1.mono (aa w).size);have lw1:=q1.size;clear q1;go_wp2_with fail;(with_reducible refine (au _ (s) (((i:Int)+1)) (i+1) (by omega) (by omega) hs ((i:Int)+1+(k:Int)) (by have h9:=hk;omega)).mono ?_);rintro e w2 ⟨rfl,q2⟩;have bw2:=bw1.trans (q2.mono bw1.size);have lw2:=q2.size;clear q2 bw1;go_wp2_with fail;(with_reducible refine (aY _ (s) (((i:Int)+1+(k:Int))) (i+1+k) (by omega) d hd).mono ?_);rintro e w3 ⟨rfl,q3⟩;have bw3:=bw2.trans (q3.mono bw2.size);have lw3:=q3.size;clear q3 bw2;go_wp2_with fail;(with_reducible refine (aY _ (s) (((i:Int)+1+(k:Int))) (i+1+k) (by omega) d hd).mono ?_);rintro e w4 ⟨rfl,q4⟩;have bw4:=bw3.trans (q4.mono bw3.size);have lw4:=q4.size;clear q4 bw3;go_wp2_with fail;(with_reducible refine (au _ (s) (((i:Int)+1+(k:Int)+1)) (i+1+k+1) (by omega) (by omega) hs ((i:Int)+1+(k:Int)+1+(t:Int)) (by have h9:=ht;omega)).mono ?_);rintro e w5 ⟨rfl,q5⟩;have bw5:=bw4.trans (q5.mono bw4.size);have lw5:=q5.size;clear q5 bw4;go_wp2;go_ret;exact bV (by rw [← hy];omega) bw5
 simp only [Nat.add_zero] at hk hc;obtain ⟨d0,hd0⟩:∃ d0,atB s i=d0:=⟨_,rfl⟩;rw [hd0] at ham;have e45:(((d0.toNat:Nat):Int) == 45)=false:=(am d0 45).trans (by simp [ham]);clear ham;rcases hc with ⟨hk0,hv0⟩ | ⟨hkp,d,hd,hc⟩
 ·subst hv0
  subst hk0;have hk7:((((i:Int)):Int) == ((i:Int):Int))=true:=by simp
  go_in;go_wp2_with fail;(with_reducible refine (aY _ (s) ((i:Int)) (i) (by omega) d0 hd0).mono ?_);rintro e w1 ⟨rfl,q1⟩;have bw1:=(aa w).trans (q1.mono (aa w).size);have lw1:=q1.size;clear q1;go_wp2_with fail;(with_reducible refine (au _ (s) (((i:Int))) (i) (by omega) (by omega) hs ((i:Int)) (by have h9:=hk;omega)).mono ?_);rintro e w2 ⟨rfl,q2⟩;have bw2:=bw1.trans (q2.mono bw1.size);have lw2:=q2.size;clear q2 bw1;go_wp2;go_ret;exact bV (by rw [← hy];omega) bw2
 have hle:i+k≤s.length:=by have:=bP hk hkp;omega
 have hk9:((k:Int) == 0)=false:=by simp;omega
 have hk8:((k:Int)=0)=False:=by simp;omega
 have hk7:(((i:Int)+(k:Int):Int) == ((i:Int):Int))=false:=by simp;omega
 rcases hc with ⟨hd1,hd2,hv9⟩ | ⟨hdd,t,ht,hc⟩
 ·have e46:(((d.toNat:Nat):Int) == 46)=false:=(am d 46).trans (by simp [hd1])
  have e47:(((d.toNat:Nat):Int) == 47)=false:=(am d 47).trans (by simp [hd2]);clear hd1 hd2;replace hv9:=hv9.symm;subst hv9;have hwe:IntKind.i64.wrap ((i:Int)+(k:Int))=(i:Int)+(k:Int):=IntWalk.i64_in _ ⟨by omega,by omega⟩;go_in;go_wp2_with fail;(with_reducible refine (aY _ (s) ((i:Int)) (i) (by omega) d0 hd0).mono ?_);rintro e w1 ⟨rfl,q1⟩;have bw1:=(aa w).trans (q1.mono (aa w).size);have lw1:=q1.size;clear q1;go_wp2_with fail;(with_reducible refine (au _ (s) (((i:Int))) (i) (by omega) (by omega) hs ((i:Int)+(k:Int)) (by have h9:=hk;omega)).mono ?_);rintro e w2 ⟨rfl,q2⟩;have bw2:=bw1.trans (q2.mono bw1.size);have lw2:=q2.size;clear q2 bw1;go_wp2_with fail;(with_reducible refine (aY _ (s) (((i:Int)+(k:Int))) (i+k) (by omega) d hd).mono ?_);rintro e w3 ⟨rfl,q3⟩;have bw3:=bw2.trans (q3.mono bw2.size);have lw3:=q3.size;clear q3 bw2;go_wp2_with fail;(with_reducible refine (aY _ (s) (((i:Int)+(k:Int))) (i+k) (by omega) d hd).mono ?_);rintro e w4 ⟨rfl,q4⟩;have bw4:=bw3.trans (q4.mono bw3.size);have lw4:=q4.size;clear q4 bw3;go_wp2;go_ret;exact bV (by rw [← hy];omega) bw4
 have hl:i+k < s.length:=by rcases hdd with e | e <;> exact jh hd (by rw [e];decide)
 have hwe:IntKind.i64.wrap ((i:Int)+(k:Int))=(i:Int)+(k:Int):=IntWalk.i64_in _ ⟨by omega,by omega⟩;have hwe1:IntKind.i64.wrap ((i:Int)+(k:Int)+1)=(i:Int)+(k:Int)+1:=IntWalk.i64_in _ ⟨by omega,by omega⟩;rcases hdd with hd46 | hd47
 ·have e46:(((d.toNat:Nat):Int) == 46)=true:=(am d 46).trans (by simp [hd46])
  clear hd46;rcases hc with ⟨ht0,hv9⟩ | ⟨htp,hv9⟩
  ·replace hv9:=hv9.symm
   subst hv9;subst ht0;go_in;go_wp2_with fail;(with_reducible refine (aY _ (s) ((i:Int)) (i) (by omega) d0 hd0).mono ?_);rintro e w1 ⟨rfl,q1⟩;have bw1:=(aa w).trans (q1.mono (aa w).size);have lw1:=q1.size;clear q1;go_wp2_with fail;(with_reducible refine (au _ (s) (((i:Int))) (i) (by omega) (by omega) hs ((i:Int)+(k:Int)) (by have h9:=hk;omega)).mono ?_);rintro e w2 ⟨rfl,q2⟩;have bw2:=bw1.trans (q2.mono bw1.size);have lw2:=q2.size;clear q2 bw1;go_wp2_with fail;(with_reducible refine (aY _ (s) (((i:Int)+(k:Int))) (i+k) (by omega) d hd).mono ?_);rintro e w3 ⟨rfl,q3⟩;have bw3:=bw2.trans (q3.mono bw2.size);have lw3:=q3.size;clear q3 bw2;go_wp2_with fail;(with_reducible refine (au _ (s) (((i:Int)+(k:Int)+1)) (i+k+1) (by omega) (by omega) hs ((i:Int)+(k:Int)+1) (by have h9:=ht;omega)).mono ?_);rintro e w4 ⟨rfl,q4⟩;have bw4:=bw3.trans (q4.mono bw3.size);have lw4:=q4.size;clear q4 bw3;go_wp2;go_ret;exact bV (by rw [← hy];omega) bw4
  replace hv9:=hv9.symm;subst hv9;have ht9:((0:Int) < (t:Int))=True:=by simp;omega
  have htl:i+k+1+t≤s.length:=by have:=bP ht htp;omega
  have ht8:((i:Int)+(k:Int)+1 < (i:Int)+(k:Int)+1+(t:Int))=True:=by simp;omega
  go_in;go_wp2_with fail;(with_reducible refine (aY _ (s) ((i:Int)) (i) (by omega) d0 hd0).mono ?_);rintro e w1 ⟨rfl,q1⟩;have bw1:=(aa w).trans (q1.mono (aa w).size);have lw1:=q1.size;clear q1;go_wp2_with fail;(with_reducible refine (au _ (s) (((i:Int))) (i) (by omega) (by omega) hs ((i:Int)+(k:Int)) (by have h9:=hk;omega)).mono ?_);rintro e w2 ⟨rfl,q2⟩;have bw2:=bw1.trans (q2.mono bw1.size);have lw2:=q2.size;clear q2 bw1;go_wp2_with fail;(with_reducible refine (aY _ (s) (((i:Int)+(k:Int))) (i+k) (by omega) d hd).mono ?_);rintro e w3 ⟨rfl,q3⟩;have bw3:=bw2.trans (q3.mono bw2.size);have lw3:=q3.size;clear q3 bw2;go_wp2_with fail;(with_reducible refine (au _ (s) (((i:Int)+(k:Int)+1)) (i+k+1) (by omega) (by omega) hs ((i:Int)+(k:Int)+1+(t:Int)) (by have h9:=ht;omega)).mono ?_);rintro e w4 ⟨rfl,q4⟩;have bw4:=bw3.trans (q4.mono bw3.size);have lw4:=q4.size;clear q4 bw3;go_wp2;go_ret;exact bV (by rw [← hy];omega) bw4
 have e46:(((d.toNat:Nat):Int) == 46)=false:=(am d 46).trans (by simp [hd47]);have e47:(((d.toNat:Nat):Int) == 47)=true:=(am d 47).trans (by simp [hd47]);clear hd47;rcases hc with ⟨ht0,hv9⟩ | ⟨htp,hv9⟩
 ·replace hv9:=hv9.symm
  subst hv9;subst ht0;go_in;go_wp2_with fail;(with_reducible refine (aY _ (s) ((i:Int)) (i) (by omega) d0 hd0).mono ?_);rintro e w1 ⟨rfl,q1⟩;have bw1:=(aa w).trans (q1.mono (aa w).size);have lw1:=q1.size;clear q1;go_wp2_with fail;(with_reducible refine (au _ (s) (((i:Int))) (i) (by omega) (by omega) hs ((i:Int)+(k:Int)) (by have h9:=hk;omega)).mono ?_);rintro e w2 ⟨rfl,q2⟩;have bw2:=bw1.trans (q2.mono bw1.size);have lw2:=q2.size;clear q2 bw1;go_wp2_with fail;(with_reducible refine (aY _ (s) (((i:Int)+(k:Int))) (i+k) (by omega) d hd).mono ?_);rintro e w3 ⟨rfl,q3⟩;have bw3:=bw2.trans (q3.mono bw2.size);have lw3:=q3.size;clear q3 bw2;go_wp2_with fail;(with_reducible refine (aY _ (s) (((i:Int)+(k:Int))) (i+k) (by omega) d hd).mono ?_);rintro e w4 ⟨rfl,q4⟩;have bw4:=bw3.trans (q4.mono bw3.size);have lw4:=q4.size;clear q4 bw3;go_wp2_with fail;(with_reducible refine (au _ (s) (((i:Int)+(k:Int)+1)) (i+k+1) (by omega) (by omega) hs ((i:Int)+(k:Int)+1) (by have h9:=ht;omega)).mono ?_);rintro e w5 ⟨rfl,q5⟩;have bw5:=bw4.trans (q5.mono bw4.size);have lw5:=q5.size;clear q5 bw4;go_wp2;go_ret;exact bV (by rw [← hy];omega) bw5
 replace hv9:=hv9.symm;subst hv9;have ht9:((0:Int) < (t:Int))=True:=by simp;omega
 have htl:i+k+1+t≤s.length:=by have:=bP ht htp;omega
 have ht8:((i:Int)+(k:Int)+1 < (i:Int)+(k:Int)+1+(t:Int))=True:=by simp;omega
 go_in;go_wp2_with fail;(with_reducible refine (aY _ (s) ((i:Int)) (i) (by omega) d0 hd0).mono ?_);rintro e w1 ⟨rfl,q1⟩;have bw1:=(aa w).trans (q1.mono (aa w).size);have lw1:=q1.size;clear q1;go_wp2_with fail;(with_reducible refine (au _ (s) (((i:Int))) (i) (by omega) (by omega) hs ((i:Int)+(k:Int)) (by have h9:=hk;omega)).mono ?_);rintro e w2 ⟨rfl,q2⟩;have bw2:=bw1.trans (q2.mono bw1.size);have lw2:=q2.size;clear q2 bw1;go_wp2_with fail;(with_reducible refine (aY _ (s) (((i:Int)+(k:Int))) (i+k) (by omega) d hd).mono ?_);rintro e w3 ⟨rfl,q3⟩;have bw3:=bw2.trans (q3.mono bw2.size);have lw3:=q3.size;clear q3 bw2;go_wp2_with fail;(with_reducible refine (aY _ (s) (((i:Int)+(k:Int))) (i+k) (by omega) d hd).mono ?_);rintro e w4 ⟨rfl,q4⟩;have bw4:=bw3.trans (q4.mono bw3.size);have lw4:=q4.size;clear q4 bw3;go_wp2_with fail;(with_reducible refine (au _ (s) (((i:Int)+(k:Int)+1)) (i+k+1) (by omega) (by omega) hs ((i:Int)+(k:Int)+1+(t:Int)) (by have h9:=ht;omega)).mono ?_);rintro e w5 ⟨rfl,q5⟩;have bw5:=bw4.trans (q5.mono bw4.size);have lw5:=q5.size;clear q5 bw4;go_wp2;go_ret;exact bV (by rw [← hy];omega) bw5
theorem cW (w:World) (s:List UInt8) (hs:s.length < 4611686018427387904) (v:Nat) (hv:bC s=v):Calls Tryz.prog 109 #[ae s] w (av w (.int .i64 (v:Nat))):=by
 have hszs:=bX s;obtain ⟨m,k,hm,hk,hc⟩:=iu (s:=s) (i:=0) hv;rw [Nat.zero_add] at hk;simp only [Nat.zero_add] at hc;clear hv;rcases hm with ⟨rfl,ham⟩ | ⟨rfl,ham⟩
 ·have h0d:0 < s.length:=jh ham (by decide)
  have hM:cG s=true:=by rw [pO];simp [ham]
  clear ham;rcases hc with ⟨hk0,hv0⟩ | ⟨hkp,d,hd,hc⟩
  ·subst hv0
   subst hk0;go_in;go_wp2_with fail;(with_reducible refine (bJ _ (s) true hM).mono ?_);rintro e w1 ⟨rfl,q1⟩;have bw1:=(aa w).trans (q1.mono (aa w).size);have lw1:=q1.size;clear q1;go_wp2_with fail;(with_reducible refine (aI _ (s) (1) (1) (by omega) (by omega) hs (0) (by have h9:=hk;omega)).mono ?_);rintro e w2 ⟨rfl,q2⟩;have bw2:=bw1.trans (q2.mono bw1.size);have lw2:=q2.size;clear q2 bw1;go_wp2;go_ret;exact bV (by omega) bw2
  have hle:1+k≤s.length:=by have:=bP hk hkp;omega
  have hk9:((k:Int) == 0)=false:=by simp;omega
  have hk8:((k:Int)=0)=False:=by simp;omega
  rcases hc with ⟨hd1,hd2,hv9⟩ | ⟨hdd,t,ht,hc⟩
  ·have e46:(((d.toNat:Nat):Int) == 46)=false:=(am d 46).trans (by simp [hd1])
   have e47:(((d.toNat:Nat):Int) == 47)=false:=(am d 47).trans (by simp [hd2]);clear hd1 hd2;replace hv9:=hv9.symm;subst hv9;have hwe:IntKind.i64.wrap (1+(k:Int))=1+(k:Int):=IntWalk.i64_in _ ⟨by omega,by omega⟩;rcases Nat.lt_or_ge (1+k) s.length with hl | hl
   ·have hget:∀ h,(⟨s.toArray⟩:ByteArray)[1+k]'h=d:=fun h=>by rw [← hd];exact (cw hl).symm
    have et:(1+(k:Int)).toNat=1+k:=by omega
    have hei:1+(k:Int) < (s.length:Int):=by omega
    have he0:(0:Int)≤1+(k:Int):=by omega
    go_in;go_wp2_with fail;(with_reducible refine (bJ _ (s) true hM).mono ?_);rintro e w1 ⟨rfl,q1⟩;have bw1:=(aa w).trans (q1.mono (aa w).size);have lw1:=q1.size;clear q1;go_wp2_with fail;(with_reducible refine (aI _ (s) (1) (1) (by omega) (by omega) hs ((k:Int)) (by have h9:=hk;omega)).mono ?_);rintro e w2 ⟨rfl,q2⟩;have bw2:=bw1.trans (q2.mono bw1.size);have lw2:=q2.size;clear q2 bw1;go_wp2;go_ret;exact bV (by omega) bw2
   have hei:(1+(k:Int) < (s.length:Int))=False:=by simp;omega
   go_in;go_wp2_with fail;(with_reducible refine (bJ _ (s) true hM).mono ?_);rintro e w1 ⟨rfl,q1⟩;have bw1:=(aa w).trans (q1.mono (aa w).size);have lw1:=q1.size;clear q1;go_wp2_with fail;(with_reducible refine (aI _ (s) (1) (1) (by omega) (by omega) hs ((k:Int)) (by have h9:=hk;omega)).mono ?_);rintro e w2 ⟨rfl,q2⟩;have bw2:=bw1.trans (q2.mono bw1.size);have lw2:=q2.size;clear q2 bw1;go_wp2;go_ret;exact bV (by omega) bw2
  have hl:1+k < s.length:=by rcases hdd with e | e <;> exact jh hd (by rw [e];decide)
  have hwe:IntKind.i64.wrap (1+(k:Int))=1+(k:Int):=IntWalk.i64_in _ ⟨by omega,by omega⟩;have hwe1:IntKind.i64.wrap (1+(k:Int)+1)=1+(k:Int)+1:=IntWalk.i64_in _ ⟨by omega,by omega⟩;have hget:∀ h,(⟨s.toArray⟩:ByteArray)[1+k]'h=d:=fun h=>by rw [← hd];exact (cw hl).symm
  have et:(1+(k:Int)).toNat=1+k:=by omega
  have hei:1+(k:Int) < (s.length:Int):=by omega
  have he0:(0:Int)≤1+(k:Int):=by omega
  rcases hdd with hd46 | hd47
  ·have e46:(((d.toNat:Nat):Int) == 46)=true:=(am d 46).trans (by simp [hd46])
   clear hd46;rcases hc with ⟨ht0,hv9⟩ | ⟨htp,hv9⟩
   ·replace hv9:=hv9.symm
    subst hv9;subst ht0;go_in;go_wp2_with fail;(with_reducible refine (bJ _ (s) true hM).mono ?_);rintro e w1 ⟨rfl,q1⟩;have bw1:=(aa w).trans (q1.mono (aa w).size);have lw1:=q1.size;clear q1;go_wp2_with fail;(with_reducible refine (aI _ (s) (1) (1) (by omega) (by omega) hs ((k:Int)) (by have h9:=hk;omega)).mono ?_);rintro e w2 ⟨rfl,q2⟩;have bw2:=bw1.trans (q2.mono bw1.size);have lw2:=q2.size;clear q2 bw1;go_wp2_with fail;(with_reducible refine (aI _ (s) ((1+(k:Int)+1)) (1+k+1) (by omega) (by omega) hs (0) (by have h9:=ht;omega)).mono ?_);rintro e w3 ⟨rfl,q3⟩;have bw3:=bw2.trans (q3.mono bw2.size);have lw3:=q3.size;clear q3 bw2;go_wp2;go_ret;exact bV (by omega) bw3
   replace hv9:=hv9.symm;subst hv9;have ht9:((0:Int) < (t:Int))=True:=by simp;omega
   have htl:1+k+1+t≤s.length:=by have:=bP ht htp;omega
   have hwt:IntKind.i64.wrap (1+(t:Int))=1+(t:Int):=IntWalk.i64_in _ ⟨by omega,by omega⟩;have hwt2:IntKind.i64.wrap (1+(k:Int)+(1+(t:Int)))=1+(k:Int)+(1+(t:Int)):=IntWalk.i64_in _ ⟨by omega,by omega⟩;go_in;go_wp2_with fail;(with_reducible refine (bJ _ (s) true hM).mono ?_);rintro e w1 ⟨rfl,q1⟩;have bw1:=(aa w).trans (q1.mono (aa w).size);have lw1:=q1.size;clear q1;go_wp2_with fail;(with_reducible refine (aI _ (s) (1) (1) (by omega) (by omega) hs ((k:Int)) (by have h9:=hk;omega)).mono ?_);rintro e w2 ⟨rfl,q2⟩;have bw2:=bw1.trans (q2.mono bw1.size);have lw2:=q2.size;clear q2 bw1;go_wp2_with fail;(with_reducible refine (aI _ (s) ((1+(k:Int)+1)) (1+k+1) (by omega) (by omega) hs ((t:Int)) (by have h9:=ht;omega)).mono ?_);rintro e w3 ⟨rfl,q3⟩;have bw3:=bw2.trans (q3.mono bw2.size);have lw3:=q3.size;clear q3 bw2;go_wp2;go_ret;exact bV (by omega) bw3
  have e46:(((d.toNat:Nat):Int) == 46)=false:=(am d 46).trans (by simp [hd47]);have e47:(((d.toNat:Nat):Int) == 47)=true:=(am d 47).trans (by simp [hd47]);clear hd47;rcases hc with ⟨ht0,hv9⟩ | ⟨htp,hv9⟩
  ·replace hv9:=hv9.symm
   subst hv9;subst ht0;go_in;go_wp2_with fail;(with_reducible refine (bJ _ (s) true hM).mono ?_);rintro e w1 ⟨rfl,q1⟩;have bw1:=(aa w).trans (q1.mono (aa w).size);have lw1:=q1.size;clear q1;go_wp2_with fail;(with_reducible refine (aI _ (s) (1) (1) (by omega) (by omega) hs ((k:Int)) (by have h9:=hk;omega)).mono ?_);rintro e w2 ⟨rfl,q2⟩;have bw2:=bw1.trans (q2.mono bw1.size);have lw2:=q2.size;clear q2 bw1;go_wp2_with fail;(with_reducible refine (aI _ (s) ((1+(k:Int)+1)) (1+k+1) (by omega) (by omega) hs (0) (by have h9:=ht;omega)).mono ?_);rintro e w3 ⟨rfl,q3⟩;have bw3:=bw2.trans (q3.mono bw2.size);have lw3:=q3.size;clear q3 bw2;go_wp2;go_ret;exact bV (by omega) bw3
  replace hv9:=hv9.symm;subst hv9;have ht9:((0:Int) < (t:Int))=True:=by simp;omega
  have htl:1+k+1+t≤s.length:=by have:=bP ht htp;omega
  have hwt:IntKind.i64.wrap (1+(t:Int))=1+(t:Int):=IntWalk.i64_in _ ⟨by omega,by omega⟩;have hwt2:IntKind.i64.wrap (1+(k:Int)+(1+(t:Int)))=1+(k:Int)+(1+(t:Int)):=IntWalk.i64_in _ ⟨by omega,by omega⟩;go_in;go_wp2_with fail;(with_reducible refine (bJ _ (s) true hM).mono ?_);rintro e w1 ⟨rfl,q1⟩;have bw1:=(aa w).trans (q1.mono (aa w).size);have lw1:=q1.size;clear q1;go_wp2_with fail;(with_reducible refine (aI _ (s) (1) (1) (by omega) (by omega) hs ((k:Int)) (by have h9:=hk;omega)).mono ?_);rintro e w2 ⟨rfl,q2⟩;have bw2:=bw1.trans (q2.mono bw1.size);have lw2:=q2.size;clear q2 bw1;go_wp2_with fail;(with_reducible refine (aI _ (s) ((1+(k:Int)+1)) (1+k+1) (by omega) (by omega) hs ((t:Int)) (by have h9:=ht;omega)).mono ?_);rintro e w3 ⟨rfl,q3⟩;have bw3:=bw2.trans (q3.mono bw2.size);have lw3:=q3.size;clear q3 bw2;go_wp2;go_ret;exact bV (by omega) bw3
 simp only [Nat.zero_add] at hk hc;have hM:cG s=false:=by rw [pO];simp [ham]
 clear ham;rcases hc with ⟨hk0,hv0⟩ | ⟨hkp,d,hd,hc⟩
 ·subst hv0
  subst hk0;go_in;go_wp2_with fail;(with_reducible refine (bJ _ (s) false hM).mono ?_);rintro e w1 ⟨rfl,q1⟩;have bw1:=(aa w).trans (q1.mono (aa w).size);have lw1:=q1.size;clear q1;go_wp2_with fail;(with_reducible refine (aI _ (s) (0) (0) (by omega) (by omega) hs (0) (by have h9:=hk;omega)).mono ?_);rintro e w2 ⟨rfl,q2⟩;have bw2:=bw1.trans (q2.mono bw1.size);have lw2:=q2.size;clear q2 bw1;go_wp2;go_ret;exact bV (by omega) bw2
 have hle:k≤s.length:=by have:=bP hk hkp;omega
 have hk9:((k:Int) == 0)=false:=by simp;omega
 have hk8:((k:Int)=0)=False:=by simp;omega
 rcases hc with ⟨hd1,hd2,hv9⟩ | ⟨hdd,t,ht,hc⟩
 ·have e46:(((d.toNat:Nat):Int) == 46)=false:=(am d 46).trans (by simp [hd1])
  have e47:(((d.toNat:Nat):Int) == 47)=false:=(am d 47).trans (by simp [hd2]);clear hd1 hd2;replace hv9:=hv9.symm;subst hv9;rcases Nat.lt_or_ge (k) s.length with hl | hl
  ·have hget:∀ h,(⟨s.toArray⟩:ByteArray)[k]'h=d:=fun h=>by rw [← hd];exact (cw hl).symm
   have et:((k:Int)).toNat=k:=by omega
   have hei:(k:Int) < (s.length:Int):=by omega
   have he0:(0:Int)≤(k:Int):=by omega
   go_in;go_wp2_with fail;(with_reducible refine (bJ _ (s) false hM).mono ?_);rintro e w1 ⟨rfl,q1⟩;have bw1:=(aa w).trans (q1.mono (aa w).size);have lw1:=q1.size;clear q1;go_wp2_with fail;(with_reducible refine (aI _ (s) (0) (0) (by omega) (by omega) hs ((k:Int)) (by have h9:=hk;omega)).mono ?_);rintro e w2 ⟨rfl,q2⟩;have bw2:=bw1.trans (q2.mono bw1.size);have lw2:=q2.size;clear q2 bw1;go_wp2;go_ret;exact bV (by omega) bw2
  have hei:((k:Int) < (s.length:Int))=False:=by simp;omega
  go_in;go_wp2_with fail;(with_reducible refine (bJ _ (s) false hM).mono ?_);rintro e w1 ⟨rfl,q1⟩;have bw1:=(aa w).trans (q1.mono (aa w).size);have lw1:=q1.size;clear q1;go_wp2_with fail;(with_reducible refine (aI _ (s) (0) (0) (by omega) (by omega) hs ((k:Int)) (by have h9:=hk;omega)).mono ?_);rintro e w2 ⟨rfl,q2⟩;have bw2:=bw1.trans (q2.mono bw1.size);have lw2:=q2.size;clear q2 bw1;go_wp2;go_ret;exact bV (by omega) bw2
 have hl:k < s.length:=by rcases hdd with e | e <;> exact jh hd (by rw [e];decide)
 have hwe1:IntKind.i64.wrap ((k:Int)+1)=(k:Int)+1:=IntWalk.i64_in _ ⟨by omega,by omega⟩;have hget:∀ h,(⟨s.toArray⟩:ByteArray)[k]'h=d:=fun h=>by rw [← hd];exact (cw hl).symm
 have et:((k:Int)).toNat=k:=by omega
 have hei:(k:Int) < (s.length:Int):=by omega
 have he0:(0:Int)≤(k:Int):=by omega
 rcases hdd with hd46 | hd47
 ·have e46:(((d.toNat:Nat):Int) == 46)=true:=(am d 46).trans (by simp [hd46])
  clear hd46;rcases hc with ⟨ht0,hv9⟩ | ⟨htp,hv9⟩
  ·replace hv9:=hv9.symm
   subst hv9;subst ht0;go_in;go_wp2_with fail;(with_reducible refine (bJ _ (s) false hM).mono ?_);rintro e w1 ⟨rfl,q1⟩;have bw1:=(aa w).trans (q1.mono (aa w).size);have lw1:=q1.size;clear q1;go_wp2_with fail;(with_reducible refine (aI _ (s) (0) (0) (by omega) (by omega) hs ((k:Int)) (by have h9:=hk;omega)).mono ?_);rintro e w2 ⟨rfl,q2⟩;have bw2:=bw1.trans (q2.mono bw1.size);have lw2:=q2.size;clear q2 bw1;go_wp2_with fail;(with_reducible refine (aI _ (s) (((k:Int)+1)) (k+1) (by omega) (by omega) hs (0) (by have h9:=ht;omega)).mono ?_);rintro e w3 ⟨rfl,q3⟩;have bw3:=bw2.trans (q3.mono bw2.size);have lw3:=q3.size;clear q3 bw2;go_wp2;go_ret;exact bV (by omega) bw3
  replace hv9:=hv9.symm;subst hv9;have ht9:((0:Int) < (t:Int))=True:=by simp;omega
  have htl:k+1+t≤s.length:=by have:=bP ht htp;omega
  have hwt:IntKind.i64.wrap (1+(t:Int))=1+(t:Int):=IntWalk.i64_in _ ⟨by omega,by omega⟩;have hwt2:IntKind.i64.wrap ((k:Int)+(1+(t:Int)))=(k:Int)+(1+(t:Int)):=IntWalk.i64_in _ ⟨by omega,by omega⟩;go_in;go_wp2_with fail;(with_reducible refine (bJ _ (s) false hM).mono ?_);rintro e w1 ⟨rfl,q1⟩;have bw1:=(aa w).trans (q1.mono (aa w).size);have lw1:=q1.size;clear q1;go_wp2_with fail;(with_reducible refine (aI _ (s) (0) (0) (by omega) (by omega) hs ((k:Int)) (by have h9:=hk;omega)).mono ?_);rintro e w2 ⟨rfl,q2⟩;have bw2:=bw1.trans (q2.mono bw1.size);have lw2:=q2.size;clear q2 bw1;go_wp2_with fail;(with_reducible refine (aI _ (s) (((k:Int)+1)) (k+1) (by omega) (by omega) hs ((t:Int)) (by have h9:=ht;omega)).mono ?_);rintro e w3 ⟨rfl,q3⟩;have bw3:=bw2.trans (q3.mono bw2.size);have lw3:=q3.size;clear q3 bw2;go_wp2;go_ret;exact bV (by omega) bw3
 have e46:(((d.toNat:Nat):Int) == 46)=false:=(am d 46).trans (by simp [hd47]);have e47:(((d.toNat:Nat):Int) == 47)=true:=(am d 47).trans (by simp [hd47]);clear hd47;rcases hc with ⟨ht0,hv9⟩ | ⟨htp,hv9⟩
 ·replace hv9:=hv9.symm
  subst hv9;subst ht0;go_in;go_wp2_with fail;(with_reducible refine (bJ _ (s) false hM).mono ?_);rintro e w1 ⟨rfl,q1⟩;have bw1:=(aa w).trans (q1.mono (aa w).size);have lw1:=q1.size;clear q1;go_wp2_with fail;(with_reducible refine (aI _ (s) (0) (0) (by omega) (by omega) hs ((k:Int)) (by have h9:=hk;omega)).mono ?_);rintro e w2 ⟨rfl,q2⟩;have bw2:=bw1.trans (q2.mono bw1.size);have lw2:=q2.size;clear q2 bw1;go_wp2_with fail;(with_reducible refine (aI _ (s) (((k:Int)+1)) (k+1) (by omega) (by omega) hs (0) (by have h9:=ht;omega)).mono ?_);rintro e w3 ⟨rfl,q3⟩;have bw3:=bw2.trans (q3.mono bw2.size);have lw3:=q3.size;clear q3 bw2;go_wp2;go_ret;exact bV (by omega) bw3
 replace hv9:=hv9.symm;subst hv9;have ht9:((0:Int) < (t:Int))=True:=by simp;omega
 have htl:k+1+t≤s.length:=by have:=bP ht htp;omega
 have hwt:IntKind.i64.wrap (1+(t:Int))=1+(t:Int):=IntWalk.i64_in _ ⟨by omega,by omega⟩;have hwt2:IntKind.i64.wrap ((k:Int)+(1+(t:Int)))=(k:Int)+(1+(t:Int)):=IntWalk.i64_in _ ⟨by omega,by omega⟩;go_in;go_wp2_with fail;(with_reducible refine (bJ _ (s) false hM).mono ?_);rintro e w1 ⟨rfl,q1⟩;have bw1:=(aa w).trans (q1.mono (aa w).size);have lw1:=q1.size;clear q1;go_wp2_with fail;(with_reducible refine (aI _ (s) (0) (0) (by omega) (by omega) hs ((k:Int)) (by have h9:=hk;omega)).mono ?_);rintro e w2 ⟨rfl,q2⟩;have bw2:=bw1.trans (q2.mono bw1.size);have lw2:=q2.size;clear q2 bw1;go_wp2_with fail;(with_reducible refine (aI _ (s) (((k:Int)+1)) (k+1) (by omega) (by omega) hs ((t:Int)) (by have h9:=ht;omega)).mono ?_);rintro e w3 ⟨rfl,q3⟩;have bw3:=bw2.trans (q3.mono bw2.size);have lw3:=q3.size;clear q3 bw2;go_wp2;go_ret;exact bV (by omega) bw3
end Go.Proofs.YtfilnhompchciaaGreatDoor
