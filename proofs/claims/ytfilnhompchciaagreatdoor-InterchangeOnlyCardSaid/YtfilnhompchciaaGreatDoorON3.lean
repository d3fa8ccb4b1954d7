/- Part ON3: lemmas and walks that the claim rests on. No claim is made here. -/
import Derived.Deep.AppendLies
import Derived.BigQuiet
import Derived.Deep.RegionHeld3
import Derived.Deep.DrawnRows
import Derived.Shelf.Strings.Builder1
import Derived.Laws.IdiomStrings
import Derived.Test.YtfilnhompchciaaGreatDoorON2
set_option linter.unusedVariables false
set_option maxHeartbeats 8000000
set_option maxRecDepth 100000
/- Walks: tokens: Split. -/
namespace Go.Proofs.YtfilnhompchciaaGreatDoor
open Go Go.RowKit Bn
attribute [local go_sem ↓] Go.wp_at_zero Go.wp_at_succ
def lz (t:Tkn):List Value:=[.int .i64 (t.kind:Nat),af t.text,.int .i64 (t.line:Nat),.int .i64 (t.col:Nat)]
def bP (l:List Tkn):List Value:=l.flatMap lz
theorem mI (l:List Tkn) (t:Tkn):bP (l ++ [t])=bP l ++ lz t:=by simp [bP]
theorem oS (l:List Tkn):(bP l).length=l.length * 4:=by
 induction l with
 | nil=>rfl
 | cons t l ih =>
  have:bP (t :: l)=lz t ++ bP l:=rfl;rw [this,List.length_append,ih,List.length_cons];show 4+_=_;omega
def TkS (w:World) (A:Option Addr) (n c:Nat) (l:List Tkn):Prop:=l.length=n∧((n=0∧A=none∧c=0)∨∃ g,A=some ⟨g,0,none⟩∧n≤c∧∀ i v,(bP l)[i]?=some v→w.cell? ⟨g,i,none⟩=some v)
theorem TkS.belw {w w':World}{A:Option Addr}{n c:Nat}{l:List Tkn}(h:TkS w A n c l) (hb:Below w.heap.size w w'):TkS w' A n c l:=by
 refine ⟨h.1,?_⟩;rcases h.2 with h | ⟨g,e,hc,h⟩
 ·exact .inl h
 exact .inr ⟨g,e,hc,fun i v hv=>(hb.cell (p:=⟨g,i,none⟩) (World.block_lt_of_cell? w _ (h i v hv))).trans (h i v hv)⟩
theorem TkS.nil (w:World):TkS w none 0 0 []:=⟨rfl,.inl ⟨rfl,rfl,rfl⟩⟩
theorem TkS.of_own {w:World}{base:Nat}{e:TypeId}{v:Value}{l:List Tkn}(h:w.ownsRow base e 4 v l.length (bP l)):∃ A c,v=.slice A l.length c∧TkS w A l.length c l:=by
 rcases h.2 with ⟨rfl,h0⟩ | ⟨g,cap,cur,rfl,hb,hg,hn,hc,hs,ht⟩
 ·exact ⟨none,0,by rw [h0],rfl,.inl ⟨h0,rfl,rfl⟩⟩
 refine ⟨_,_,rfl,rfl,.inr ⟨g,rfl,hn,fun i v hv=>?_⟩⟩;rw [cell_of_row w g i cur e (0,0) hg];rw [← ht,List.getElem?_take] at hv;split at hv
 ·simpa using hv
 cases hv
theorem oT {w w':World}{base:Nat}{e:TypeId}{size:Nat}{v:Value}{n:Nat}{xs:List Value}(h:w.ownsRow base e size v n xs) (hb:Below w.heap.size w w'):w'.ownsRow base e size v n xs:=by
 refine ⟨h.1,?_⟩;rcases h.2 with h | ⟨g,cap,cur,hv,hb1,hg,rest⟩
 ·exact .inl h
 exact .inr ⟨g,cap,cur,hv,hb1,(hb.block g (lt_of_block hg)).trans hg,rest⟩
def pre (d:List Tkn):gy→gy
  | .ok l=>.ok (d ++ l)
  | .err x=>.err x
theorem sL (x:gy):pre [] x=x:=by cases x <;> rfl
theorem q7 (d:List Tkn) (t:Tkn) (x:gy):pre d (gy.push t x)=pre (d ++ [t]) x:=by cases x <;> simp [pre,gy.push]
inductive aW (s:List UInt8) (x:Int) (l:List Tkn):Prop
  | big (h:65536 < s.length) (hx:x=4) (hl:l=[])
  | ok (h:s.length≤65536) (ht:dR s=.ok l) (hx:x=0)
  | err (n:Nat) (h:s.length≤65536) (ht:dR s=.err n) (hx:x=(n:Int)) (hl:l=[])
theorem q8 (s:List UInt8):∃ x l,aW s x l:=by
 by_cases h:65536 < s.length
 ·exact ⟨4,[],.big h rfl rfl⟩
 cases ht:dR s with
 | ok l=>exact ⟨0,l,.ok (by omega) ht rfl⟩
 | err n=>exact ⟨n,[],.err n (by omega) ht rfl rfl⟩
theorem aW.uniq {s:List UInt8}{x y:Int}{l m:List Tkn}(h:aW s x l) (h':aW s y m):x=y∧l=m:=by
 rcases h with ⟨a,b,c⟩ | ⟨a,b,c⟩ | ⟨n,a,b,c,d⟩ <;> rcases h' with ⟨a',b',c'⟩ | ⟨a',b',c'⟩ | ⟨n',a',b',c',d'⟩ <;> first
  | omega
  | exact ⟨by rw [b,b'],by rw [c,c']⟩
  | (rw [b] at b';injection b' with e;exact ⟨by rw [c,c'],e⟩)
  | (rw [b] at b';cases b';done)
  | (rw [b] at b';injection b' with e;exact ⟨by rw [c,c',e],by rw [d,d']⟩)
def ra (w:World) (ev:Value) (l:List Tkn) (e:Ending) (w':World):Prop:=∃ A n c,e=.returned (.tuple #[.slice A n c,ev])∧TkS w' A n c l∧Below w.heap.size w w'
def vC (ev:Int→Value) (w:World) (s:List UInt8) (e:Ending) (w':World):Prop:=∃ x l,aW s x l∧ra w (ev x) l e w'
theorem rb:(Tryz.prog.info? 123).map (fun i=>(i.zero,i.size,i.bytes))=some (some (.agg #[.int .i64 0,.string ⟨#[]⟩,.int .i64 0,.int .i64 0]),4,40):=by kernel_rfl
theorem oU {s:List UInt8}{j:Nat}(hl:j < s.length) (h:atB s j≠10):cS (s.drop j)=1+cS (s.drop (j+1)):=by
 rw [aR hl];unfold cS;rw [List.takeWhile_cons,if_pos (by simpa using h),List.length_cons];omega
theorem jM {s:List UInt8}{j:Nat}(h:s.length≤j∨atB s j=10):cS (s.drop j)=0:=by
 rcases Nat.lt_or_ge j s.length with hl | hl
 ·rw [aR hl]
  unfold cS;rcases h with h | h
  ·omega
  rw [List.takeWhile_cons,if_neg (by simp [h])];rfl
 rw [List.drop_eq_nil_of_le hl];rfl
theorem oV {s:List UInt8}{i:Nat}(hl:i < s.length) (h:atB s i=37) (line col:Nat):0 < cS (s.drop i)∧tk (s.drop i) line col=tk (s.drop (i+cS (s.drop i))) line (col+cS (s.drop i)):=by
 have e:=aR hl;rw [h] at e;refine ⟨by rw [e];exact fE,?_⟩
 conv=>lhs;rw [e]
 rw [qM,← e,List.drop_drop]
theorem mJ {s:List UInt8}{i:Nat}(hl:i < s.length) (h:atB s i=10) (line col:Nat):tk (s.drop i) line col=tk (s.drop (i+1)) (line+1) 1:=by rw [aR hl,h,kx]
theorem lA {s:List UInt8}{i:Nat}(hl:i < s.length) (h:cY (atB s i)=true) (line col:Nat):tk (s.drop i) line col=tk (s.drop (i+1)) line (col+1):=by rw [aR hl,iw h]
theorem oW {s:List UInt8}{i k n:Nat}(hl:i < s.length) (h:bc (s.drop i)=.ok k n) (line col:Nat):tk (s.drop i) line col=(tk (s.drop (i+n)) line (col+n)).push ⟨k,(s.drop i).take n,line,col⟩:=by
 have e:=aR hl;rw [e] at h ⊢;rw [qN h,← e,List.drop_drop]
theorem oX {s:List UInt8}{i x:Nat}(hl:i < s.length) (h:bc (s.drop i)=.err x) (h1:atB s i≠10) (h2:cY (atB s i)=false) (h3:atB s i≠37) (line col:Nat):tk (s.drop i) line col=.err x:=by
 rw [aR hl] at h ⊢;exact qO h h1 h2 h3 line col
theorem mK (w:World) (s:List UInt8) (hp:0 < s.length) (hs:s.length < 4611686018427387904) (k n:Nat) (hf:bc s=.ok k n):Calls Tryz.prog 69 #[af s] w (aE w (.tuple #[.int .i64 (k:Nat),.int .i64 (n:Nat),.nilIface])):=nD w s hp hs _ hf
theorem lB (w:World) (s:List UInt8) (hp:0 < s.length) (hs:s.length < 4611686018427387904) (x:Nat) (hf:bc s=.err x):Calls Tryz.prog 69 #[af s] w (aE w (.tuple #[.int .i64 0,.int .i64 0,.iface 49 (.int .i64 (x:Nat))])):=nD w s hp hs _ hf
theorem lC {r:List UInt8}{x:Nat}(h:bc r=.err x):0 < x:=by
 unfold bc at h;split at h
 ·injection h with h;omega
 split at h
 ·cases h
 split at h
 ·split at h
  ·injection h with h;omega
  cases h
 split at h
 ·injection h with h;omega
 split at h
 ·injection h with h;omega
 split at h
 ·injection h with h;omega
 cases h
theorem isBlk_3 {c:UInt8}(h:cY c=true):c=32∨c=9∨c=13:=by
 unfold cY at h;simpa [or_assoc] using h
theorem sM (w:World) (s:List UInt8):Calls Tryz.prog 36 #[af s] w (vC (fun x=>ba x) w s):=by
 have hszs:=ai s;obtain ⟨i0,hi0,hz0,hz1,hz2⟩:=info_parts rb;rcases Nat.lt_or_ge 65536 s.length with hbig | hsm
 ·have hlen:((65536:Int) < (s.length:Int))=True:=by simp;omega
  clear hi0 hz0 hz1 hz2;go_in;go_wp2_with fail;refine bodyPost_ret (v:=.tuple #[.slice none 0 0,.iface 49 (.int .i64 4)]) (by simp [results,Tryz.results36,go_sem, *] <;> trivial) rfl ?_;exact ⟨4,[],.big hbig rfl rfl,none,0,0,rfl,TkS.nil _,aa w⟩
 have hlen:((65536:Int) < (s.length:Int))=False:=by simp;omega
 have hs:s.length < 4611686018427387904:=by omega
 have HI:=Qh (And.intro hi0 (And.intro hz0 (And.intro hz1 hz2)));clear hi0 hz0 hz1 hz2;go_in;go_wp2_with fail;go_loopw [4,5,6,7] (fun ov lv sv iv wr=>∃ (done:List Tkn) (i line st:Nat),lv=.int .i64 (line:Nat)∧sv=.int .i64 (st:Nat)∧iv=.int .i64 (i:Nat)∧i≤s.length∧st≤i∧line≤i+1∧done.length≤i∧Hid (dR s=pre done (tk (s.drop i) line (i - st+1)))∧wr.ownsRow w.heap.size 123 4 ov done.length (bP done)∧Below w.heap.size w wr) (fun _ _ _ iv _=>s.length - (intOf iv).toNat)
 case atStart=>exact ⟨[],0,1,0,rfl,rfl,rfl,Nat.zero_le _,Qr,by omega,Qr,Qh (by rw [sL];rfl),⟨rfl,.inl ⟨rfl,rfl⟩⟩,aa w⟩
 case round =>
  obtain ⟨done,i,line,st,rfl,rfl,rfl,hi,hst,hln,hdn,hT,hown,hbel⟩:=hrel;have HO:=Qh hown;clear hown;rcases Nat.lt_or_ge i s.length with hl | hl
  ·have hi1:((i:Int) < (s.length:Int))=True:=by simp;omega
   have hlts:i < s.length:=hl;obtain ⟨c,hc⟩:∃ c,atB s i=c:=⟨_,rfl⟩;have hget:∀ h,(⟨s.toArray⟩:ByteArray)[i]'h=c:=fun h=>by rw [← hc];exact (cO hl).symm
   by_cases h10:c=10
   ·have q10:(((c.toNat:Nat):Int) == 10)=true:=(av c 10).trans (by simp [h10])
    have hT2:=mJ hl (by rw [hc];exact h10) line (i - st+1);have h10b:c≠37:=by rw [h10];decide
    go_wp2_with fail;go_roundw
    case rel=>exact ⟨done,i+1,line+1,i+1,by go_num,by go_num,by go_num,by omega,by omega,by omega,by omega,Qh (by rw [hT.out,hT2];congr 2;omega),HO.out,hbel⟩
    case measure=>simp [intOf];omega
   have q10:(((c.toNat:Nat):Int) == 10)=false:=(av c 10).trans (by simp [h10]);by_cases hbk:cY c=true
   ·have hT2:=lA hl (by rw [hc];exact hbk) line (i - st+1)
    rcases isBlk_3 hbk with h3 | h3 | h3
    ·have q32:(((c.toNat:Nat):Int) == 32)=true:=(av c 32).trans (by simp [h3])
     clear h3;go_wp2_with fail;go_roundw
     case rel=>exact ⟨done,i+1,line,st,rfl,rfl,by go_num,by omega,by omega,by omega,by omega,Qh (by rw [hT.out,hT2];congr 2;omega),HO.out,hbel⟩
     case measure=>simp [intOf];omega
    ·have q32:(((c.toNat:Nat):Int) == 32)=false:=(av c 32).trans (by simp [h3])
     have q9:(((c.toNat:Nat):Int) == 9)=true:=(av c 9).trans (by simp [h3]);clear h3;go_wp2_with fail;go_roundw
     case rel=>exact ⟨done,i+1,line,st,rfl,rfl,by go_num,by omega,by omega,by omega,by omega,Qh (by rw [hT.out,hT2];congr 2;omega),HO.out,hbel⟩
     case measure=>simp [intOf];omega
    have q32:(((c.toNat:Nat):Int) == 32)=false:=(av c 32).trans (by simp [h3]);have q9:(((c.toNat:Nat):Int) == 9)=false:=(av c 9).trans (by simp [h3]);have q13:(((c.toNat:Nat):Int) == 13)=true:=(av c 13).trans (by simp [h3]);clear h3;go_wp2_with fail;go_roundw
    case rel=>exact ⟨done,i+1,line,st,rfl,rfl,by go_num,by omega,by omega,by omega,by omega,Qh (by rw [hT.out,hT2];congr 2;omega),HO.out,hbel⟩
    case measure=>simp [intOf];omega
   have hbk:cY c=false:=by simpa using hbk
   have q32:(((c.toNat:Nat):Int) == 32)=false:=(av c 32).trans (beq_eq_false_iff_ne.2 (by rintro rfl;exact absurd hbk (by decide)));have q9:(((c.toNat:Nat):Int) == 9)=false:=(av c 9).trans (beq_eq_false_iff_ne.2 (by rintro rfl;exact absurd hbk (by decide)));have q13:(((c.toNat:Nat):Int) == 13)=false:=(av c 13).trans (beq_eq_false_iff_ne.2 (by rintro rfl;exact absurd hbk (by decide)));by_cases h37:c=37
   ·have q37:(((c.toNat:Nat):Int) == 37)=true:=(av c 37).trans (by simp [h37])
    obtain ⟨hcp,hT2⟩:=oV hl (by rw [hc];exact h37) line (i - st+1);go_wp2_with fail;clear q10 q32 q9 q13 q37 hget h10 hbk h37 hc;go_loopw [7] (fun jv w2=>∃ (j:Nat),jv=.int .i64 (j:Nat)∧i≤j∧j≤s.length∧Hid (j+cS (s.drop j)=i+cS (s.drop i))∧wr=w2) (fun jv _=>s.length - (intOf jv).toNat)
    case atStart=>exact ⟨i,rfl,Qr,hi,Qh rfl,by first | rfl | trivial⟩
    case round =>
     obtain ⟨j,rfl,hij,hj,hcj,hw2⟩:=hrel;subst hw2;rcases Nat.lt_or_ge j s.length with hjl | hjl
     ·have hlj:j < s.length:=hjl
      have hj1:((j:Int) < (s.length:Int))=True:=by simp;omega
      obtain ⟨d,hd⟩:∃ d,atB s j=d:=⟨_,rfl⟩;have hget:∀ h,(⟨s.toArray⟩:ByteArray)[j]'h=d:=fun h=>by rw [← hd];exact (cO hjl).symm
      by_cases hd10:d=10
      ·have e10:(((d.toNat:Nat):Int) == 10)=true:=(av d 10).trans (by simp [hd10])
       have hst0:=jM (s:=s) (j:=j) (.inr (by rw [hd];exact hd10));have hjn:i+cS (s.drop i)=j:=by have:=hcj.out;omega
       clear hd hd10;go_wp2_with fail;go_roundw
       case rel=>exact ⟨done,j,line,st,rfl,rfl,rfl,hj,by omega,by omega,by omega,Qh (by rw [hT.out,hT2,hjn,show i - st+1+cS (s.drop i)=j - st+1 by have:=hcj.out;omega]),HO.out,hbel⟩
       case measure=>simp [intOf];omega
      have e10:(((d.toNat:Nat):Int) == 10)=false:=(av d 10).trans (by simp [hd10]);have hst9:=oU hjl (by rw [hd];exact hd10);clear hd hd10;go_wp2_with fail;go_roundw
      case rel=>exact ⟨j+1,by go_num,by omega,by omega,Qh (by have h9:=hcj.out;rw [hst9] at h9;omega),by first | rfl | trivial⟩
      case measure=>simp [intOf];omega
     have hj1:((j:Int) < (s.length:Int))=False:=by simp;omega
     have hst0:=jM (s:=s) (j:=j) (.inl hjl);have hjn:i+cS (s.drop i)=j:=by have:=hcj.out;omega
     go_wp2_with fail;go_roundw
     case rel=>exact ⟨done,j,line,st,rfl,rfl,rfl,hj,by omega,by omega,by omega,Qh (by rw [hT.out,hT2,hjn,show i - st+1+cS (s.drop i)=j - st+1 by have:=hcj.out;omega]),HO.out,hbel⟩
     case measure=>simp [intOf];omega
   have q37:(((c.toNat:Nat):Int) == 37)=false:=(av c 37).trans (by simp [h37]);obtain ⟨r,hr⟩:∃ r,s.drop i=r:=⟨_,rfl⟩;have hrl:r.length=s.length - i:=by rw [← hr,List.length_drop]
   have e2:(⟨s.toArray⟩:ByteArray).extract i s.length=⟨r.toArray⟩:=by
    rw [gN,hr,List.take_of_length_le (by omega)]
   have hi0:(0:Int)≤(i:Int):=by omega
   have hiL:(i:Int)≤(s.length:Int):=by omega
   cases hf:bc (s.drop i) with
   | err x =>
    have hT2:=oX hl hf (by rw [hc];exact h10) (by rw [hc];exact hbk) (by rw [hc];exact h37) line (i - st+1);have hx0:=lC hf;have hx1:((x:Int) == 0)=false:=by simp;omega
    go_wp2_with fail;(with_reducible refine (lB _ r (by omega) (by omega) x (hr ▸ hf)).mono ?_);rintro e w1 ⟨rfl,hb9⟩;go_wp2_with fail;refine bodyPost_ret (v:=.tuple #[.slice none 0 0,.iface 49 (.int .i64 (x:Nat))]) (by simp [results,Tryz.results36,go_sem, *] <;> trivial) rfl ?_;refine ⟨(x:Int),[],.err x hsm (by rw [hT.out,hT2];rfl) rfl rfl,none,0,0,by show _=Ending.returned (.tuple #[_,ba (x:Int)]);rw [show ba (x:Int)=_ from if_neg (by omega)],TkS.nil _,hbel.trans (hb9.mono hbel.size)⟩
   | ok k n =>
    have hfk:=dD hf;rw [List.length_drop] at hfk;have hT2:=oW hl hf line (i - st+1);obtain ⟨x,hx⟩:∃ x,(s.drop i).take n=x:=⟨_,rfl⟩;rw [hx] at hT2;have hwin:IntKind.i64.wrap ((i:Int)+(n:Int))=(i:Int)+(n:Int):=IntWalk.i64_in _ ⟨by omega,by omega⟩;have htn:((i:Int)+(n:Int)).toNat=i+n:=by omega
    have e3:(⟨s.toArray⟩:ByteArray).extract i (i+n)=⟨x.toArray⟩:=by
     rw [gN,← hx,show i+n - i=n by omega]
    have hn0:(0:Int)≤(i:Int)+(n:Int):=by omega
    have hn1:(i:Int)+(n:Int)≤(s.length:Int):=by omega
    have hn2:(i:Int)≤(i:Int)+(n:Int):=by omega
    have hwc1:IntKind.i64.wrap ((i:Int) - (st:Int))=(i:Int) - (st:Int):=IntWalk.i64_in _ ⟨by omega,by omega⟩;have hwc2:IntKind.i64.wrap ((i:Int) - (st:Int)+1)=(i:Int) - (st:Int)+1:=IntWalk.i64_in _ ⟨by omega,by omega⟩;go_wp2_with fail;(with_reducible refine (mK _ r (by omega) (by omega) k n (hr ▸ hf)).mono ?_);rintro e w1 ⟨rfl,hb9⟩;have HO3:=Qh (oT HO.out hb9);have hbel3:=hbel.trans (hb9.mono hbel.size);clear hb9;go_wp2_with (at_builtin;refine wpList_append_lies _ rfl _ _ _ rfl w.heap.size 123 i0 (.agg #[.int .i64 0,.string ⟨#[]⟩,.int .i64 0,.int .i64 0]) 4 40 Tryz.underlying82 HI.out.1 HI.out.2.1 HI.out.2.2.1 HI.out.2.2.2 rfl (by omega) _ done.length (bP done) rfl (HO3.out.alloc _) ⟨w1.heap.size,0,none⟩ 1 1 [_,_,_,_] rfl rfl (World.news_of_block (heap_alloc_new w1 _)) (by simp [Value.oneCell']) (by omega) (by unfold maxLen;omega) (by omega) (by have:=hbel3.size;simp;omega) (w1.heap.size+1) (by simp) ?_;intro gx cap w9 hown1 hgrow hat hlt1);go_roundw
    case rel =>
     refine ⟨done ++ [⟨k,x,line,(i - st+1)⟩],i+n,line,st,rfl,rfl,by go_num,by omega,by omega,by omega,by rw [List.length_append,List.length_singleton];omega,Qh ?_,?_,(hbel3.alloc hbel3.size _).grown hgrow (by have:=hbel3.size;simp;omega) (cX HO3.out)⟩
     ·rw [hT.out,hT2,q7];congr 2;omega
     rw [mI,List.length_append,List.length_singleton];have e:([.int .i64 (k:Nat),af x,.int .i64 (line:Nat),.int .i64 ((i:Int) - (st:Int)+1)]:List Value)=lz ⟨k,x,line,(i - st+1)⟩:=by unfold lz;simp;try omega
     rw [← e];exact hown1
    case measure=>simp [intOf];omega
  have hi1:((i:Int) < (s.length:Int))=False:=by simp;omega
  obtain rfl:i=s.length:=by omega
  obtain ⟨A,cc,hv,hS⟩:=TkS.of_own HO.out;subst hv;go_wp2_with fail;refine bodyPost_ret (v:=.tuple #[.slice A done.length cc,.nilIface]) (by simp [results,Tryz.results36,go_sem, *] <;> trivial) rfl ?_;exact ⟨0,done,.ok hsm (by rw [hT.out,List.drop_length,qL];simp [pre]) rfl,A,done.length,cc,rfl,hS,hbel⟩
theorem rc {l:List Tkn}{i:Nat}(h:i < l.length):(bP l)[i * 4]?=some (.int .i64 (l[i].kind:Nat))∧(bP l)[i * 4+1]?=some (af l[i].text)∧(bP l)[i * 4+2]?=some (.int .i64 (l[i].line:Nat))∧(bP l)[i * 4+3]?=some (.int .i64 (l[i].col:Nat)):=by
 induction l generalizing i with
 | nil=>simp at h
 | cons t l ih =>
  have e:bP (t :: l)=[.int .i64 (t.kind:Nat),af t.text,.int .i64 (t.line:Nat),.int .i64 (t.col:Nat)] ++ bP l:=rfl;rw [e]
  cases i with
  | zero=>simp
  | succ i =>
   have h1:=ih (i:=i) (by simpa using h);have s:(i+1) * 4=i * 4+4:=by omega
   rw [s];simp only [List.getElem_cons_succ];refine ⟨?_,?_,?_,?_⟩
   ·rw [List.getElem?_append_right (by simp)];exact h1.1
   ·rw [List.getElem?_append_right (by simp)];exact h1.2.1
   ·rw [List.getElem?_append_right (by simp)];exact h1.2.2.1
   rw [List.getElem?_append_right (by simp)];exact h1.2.2.2
theorem TkS.cells {w:World}{A:Option Addr}{n c:Nat}{l:List Tkn}(h:TkS w A n c l) {i:Nat}(hi:i < n):∃ g t,A=some ⟨g,0,none⟩∧n≤c∧l[i]?=some t∧w.cell? ⟨g,i * 4,none⟩=some (.int .i64 (t.kind:Nat))∧w.cell? ⟨g,i * 4+1,none⟩=some (af t.text)∧w.cell? ⟨g,i * 4+2,none⟩=some (.int .i64 (t.line:Nat))∧w.cell? ⟨g,i * 4+3,none⟩=some (.int .i64 (t.col:Nat)):=by
 have hl:=h.1;rcases h.2 with ⟨h0,_⟩ | ⟨g,e,hc,h2⟩
 ·omega
 have h3:=rc (l:=l) (i:=i) (by omega);exact ⟨g,_,e,hc,List.getElem?_eq_getElem (by omega),h2 _ _ h3.1,h2 _ _ h3.2.1,h2 _ _ h3.2.2.1,h2 _ _ h3.2.2.2⟩
def bI (s:List UInt8):Bool:=decide (0 < bq s) && decide (bq s=s.length) && decide (bq s≤24)
def fd:List (List UInt8)→List UInt8
  | []=>[]
  | [x]=>x
  | x :: y :: r=>x ++ 32 :: fd (y :: r)
theorem lD (xs:List (List UInt8)):Lib.join xs [32]=fd xs:=by
 induction xs with
 | nil=>rfl
 | cons x r ih =>
  cases r with
  | nil=>rw [Lib.join_one];rfl
  | cons y r =>
   rw [fd,← ih];rw [Lib.join_cons,Lib.join_cons];simp [Lib.joinTail]
theorem bB (a b:List UInt8):(⟨a.toArray⟩:ByteArray) ++ (⟨b.toArray⟩:ByteArray)=⟨(a ++ b).toArray⟩:=by
 apply ByteArray.ext;simp
theorem iA (w:World) (s:List UInt8) (hs:s.length < 4611686018427387904) (v:Bool) (hv:bI s=v):Calls Tryz.prog 75 #[af s] w (aE w (.bool v)):=by
 have hszs:=ai s;obtain ⟨n,hwn⟩:∃ n,bq s=n:=⟨_,rfl⟩;have hnl:n≤s.length:=by rw [← hwn];exact ir s
 unfold bI at hv;rw [hwn] at hv;rcases (show n=0∨(0 < n∧n≠s.length)∨(0 < n∧n=s.length∧24 < n)∨(0 < n∧n=s.length∧n≤24) by omega) with h1 | ⟨h1,h2⟩ | ⟨h1,h2,h3⟩ | ⟨h1,h2,h3⟩
 ·have g0:((0:Int) < (n:Int))=False:=eq_false (by omega)
  obtain rfl:v=false:=by rw [← hv];simp;omega
  have g8:(n == 0)=true:=by simp;omega
  clear hv;go_in;go_wp2_with fail;(with_reducible refine (ci _ (s) hs n hwn).mono ?_);rintro e w1 ⟨rfl,q1⟩;have bw1:=(aa w).trans (q1.mono (aa w).size);have lw1:=q1.size;clear q1;go_wp2;go_ret;exact dn rfl bw1
 ·have g0:((0:Int) < (n:Int))=True:=eq_true (by omega)
  have g1:((n:Int) == (s.length:Int))=false:=by simp;omega
  obtain rfl:v=false:=by rw [← hv];simp;omega
  clear hv h2;go_in;go_wp2_with fail;(with_reducible refine (ci _ (s) hs n hwn).mono ?_);rintro e w1 ⟨rfl,q1⟩;have bw1:=(aa w).trans (q1.mono (aa w).size);have lw1:=q1.size;clear q1;go_wp2;go_ret;exact dn rfl bw1
 ·have g0:((0:Int) < (n:Int))=True:=eq_true (by omega)
  have g1:((n:Int) == (s.length:Int))=true:=by simp;omega
  have g2:((n:Int)≤24)=False:=eq_false (by omega);obtain rfl:v=false:=by rw [← hv];simp;omega
  clear hv h2;go_in;go_wp2_with fail;(with_reducible refine (ci _ (s) hs n hwn).mono ?_);rintro e w1 ⟨rfl,q1⟩;have bw1:=(aa w).trans (q1.mono (aa w).size);have lw1:=q1.size;clear q1;go_wp2;go_ret;exact dn rfl bw1
 have g0:((0:Int) < (n:Int))=True:=eq_true (by omega);have g1:((n:Int) == (s.length:Int))=true:=by simp;omega
 have g2:((n:Int)≤24)=True:=eq_true (by omega);obtain rfl:v=true:=by rw [← hv,decide_eq_true (show 0 < n by omega),decide_eq_true (show n=s.length by omega),decide_eq_true (show n≤24 by omega)];rfl
 clear hv h2;go_in;go_wp2_with fail;(with_reducible refine (ci _ (s) hs n hwn).mono ?_);rintro e w1 ⟨rfl,q1⟩;have bw1:=(aa w).trans (q1.mono (aa w).size);have lw1:=q1.size;clear q1;go_wp2;go_ret;exact dn rfl bw1
structure aA where
  name:List UInt8
  x:RD
  y:RD
structure aq where
  name:List UInt8
  pts:List aA
structure aQ where
  name:List UInt8
  kind:Int
  a:Int
  point:Int
  b:Int
  on:Int
  to_:Int
structure aU where
  name:List UInt8
  body:Int
structure aj where
  name:List UInt8
  bodies:List aq
  joints:List aQ
  drivers:List aU
def bQ {α:Type}(f:List α→α→Int):List α→List α→Int
  | _,[]=>0
  | prev,a :: r=>if f prev a=0 then bQ f (prev ++ [a]) r else f prev a
theorem eN {α:Type}{f:List α→α→Int}{l:List α}{i:Nat}{x:Int}(h:bQ f (l.take i) (l.drop i)=x) {a:α}(ha:l[i]?=some a) :
 (f (l.take i) a=0∧bQ f (l.take (i+1)) (l.drop (i+1))=x)∨(f (l.take i) a≠0∧f (l.take i) a=x):=by
 obtain ⟨hl,he⟩:=List.getElem?_eq_some_iff.1 ha;have hd:l.drop i=a :: l.drop (i+1):=by rw [List.drop_eq_getElem_cons hl,he]
 have ht:l.take (i+1)=l.take i ++ [a]:=by rw [List.take_add_one,ha];rfl
 rw [hd] at h;unfold bQ at h;rw [ht];split at h
 ·left;rename_i h0;exact ⟨h0,h⟩
 right;rename_i h0;exact ⟨h0,h⟩
theorem fH {α:Type}{f:List α→α→Int}{l:List α}{i:Nat}{x:Int}(h:bQ f (l.take i) (l.drop i)=x) (hi:l.length≤i):x=0:=by
 rw [List.drop_eq_nil_of_le hi] at h;exact h.symm
theorem dU {α:Type}{f:List α→α→Int}{l:List α}{x:Int}(h:bQ f [] l=x):bQ f (l.take 0) (l.drop 0)=x:=h
def twN (l:List (List UInt8)) (n:List UInt8):Bool:=l.any fun m=>m == n
theorem fJ {α:Type}{f:α→List UInt8}{l:List α}{j:Nat}{a:α}{nm:List UInt8}(ha:l[j]?=some a) (h:twN ((l.take j).map f) nm=false) (hne:f a≠nm):twN ((l.take (j+1)).map f) nm=false:=by
 have ht:l.take (j+1)=l.take j ++ [a]:=by rw [List.take_add_one,ha];rfl
 unfold twN at h ⊢;rw [ht,List.map_append,List.any_append,h];simpa using hne
theorem gZ {α:Type}{f:α→List UInt8}{l:List α}{j i:Nat}{a:α}{nm:List UInt8}(ha:l[j]?=some a) (hji:j < i) (he:f a=nm):twN ((l.take i).map f) nm=true:=by
 unfold twN;rw [List.any_eq_true];refine ⟨f a,?_,by simpa using he⟩;have h1:(l.take i)[j]?=some a:=by rw [List.getElem?_take,if_pos hji];exact ha
 exact List.mem_map_of_mem (List.mem_of_getElem? h1)
def inI (i:Int) (n:Nat):Bool:=decide (0≤i) && decide (i < (n:Int))
def bW (prev:List aA) (m:aA):Int :=
  if bI m.name=false then 5 else if twN (prev.map aA.name) m.name=true then 6 else if m.x.ok=false then 3 else if m.y.ok=false then 3 else 0
def bj (prev:List aq) (b:aq):Int :=
  if bI b.name=false then 5 else if twN (prev.map aq.name) b.name=true then 6 else if 8 < b.pts.length then 4 else bQ bW [] b.pts
def cK (L:aj) (i:Int):List aA:=match L.bodies[i.toNat]? with | some b=>b.pts | none=>[]
def fK (l:List aA) (i j:Int):Bool:=match l[i.toNat]?,l[j.toNat]? with | some p,some q=>decide (p.x.q=q.x.q) && decide (p.y.q=q.y.q) | _,_=>false
def bJ (L:aj) (j:aQ):Int :=
  if j.kind≠0∧j.kind≠1 then 7 else if inI j.a L.bodies.length=false then 9 else if inI j.b L.bodies.length=false then 9 else if j.a=j.b then 13
  else if inI j.point (cK L j.a).length=false then 9 else if inI j.on (cK L j.b).length=false then 9
  else if j.kind=0 then (if j.to_=0 then 0 else 2) else if inI j.to_ (cK L j.b).length=false then 9 else if fK (cK L j.b) j.on j.to_=true then 8 else 0
def be (L:aj) (prev:List aQ) (j:aQ):Int :=
  if bI j.name=false then 5 else if twN (prev.map aQ.name) j.name=true then 6 else bJ L j
def aG (n:Nat) (prev:List aU) (d:aU):Int :=
  if bI d.name=false then 5 else if twN (prev.map aU.name) d.name=true then 6 else if inI d.body n=false then 9 else if d.body=0 then 7
  else if (prev.any fun p=>p.body == d.body)=true then 6 else 0
def cf (L:aj):Int :=
  if bI L.name=false then 5 else if L.bodies.length=0 then 10 else if 8 < L.bodies.length then 4 else if bQ bj [] L.bodies≠0 then bQ bj [] L.bodies
  else if 16 < L.joints.length then 4 else if bQ (be L) [] L.joints≠0 then bQ (be L) [] L.joints
  else if 2 < L.drivers.length then 4 else bQ (aG L.bodies.length) [] L.drivers
theorem fL {z:Int}{k K:Nat}(h:z.natAbs < 4294967296 ^ k) (hk:k≤K) (h0:0 < K):(Lib.itoa z).length≤10 * K+1:=by
 have h2:Lib.nDigits z.natAbs≤10 * K:=ej hk h0 h;rw [il,List.length_append,Lib.decDigits_length];split <;> simp <;> omega
theorem oY (X Y:List UInt8):((⟨X.toArray⟩:ByteArray) ++ ⟨#[47]⟩) ++ ⟨Y.toArray⟩=⟨(X ++ 47 :: Y).toArray⟩:=by
 rw [show (⟨#[47]⟩:ByteArray)=⟨[47].toArray⟩ from rfl,jG,jG,List.append_assoc];rfl
theorem jN {q:Rat}(h:q.den=1):bG q=Lib.itoa q.num:=if_pos h
theorem jO {q:Rat}(h:q.den≠1):bG q=Lib.itoa q.num ++ 47 :: Lib.itoa (q.den:Int):=if_neg h
theorem sN {x y:Int}(h:x≠y):dq x y≠0:=by
 unfold dq;(repeat' split) <;> omega
theorem re:dq 1 1=0:=by decide
theorem rf (w:World) (b A n c D m e q k) (h:QZ w b A n c D m e q k) (h0:0 < k) (hk:k≤40000000) (htab:Tab w) (hd:q.den=1) :
 Calls Tryz.prog 141 #[.agg #[.bool b,.slice A n c,.slice D m e]] w (aE w (af (bG q))):=by
 rw [jN hd];have HC:=Qh (show dq (q.den:Int) 1=0 by rw [hd];exact re);clear hd;go_in;go_wp2_with fail;(with_reducible refine (gU _ b A n c D m e (q) (k) ?_ ?_ ?_).mono ?_);(exact (h.belw ((Below.refl _ _).alloc Qr _)));(omega);(omega);rintro e w1 ⟨b1,A1,n1,c1,b'1,A'1,n'1,c'1,rfl,h1,h'1,hb1⟩;have q1:=hb1.q1;replace h:=h.belw q1;have x1a:Blk w1 w.heap.size 65 #[.bool b,.slice A n c,.slice D m e]:=(am _ _ _ (by simp)).below hb1 (by simp);have bw1:=(aa w).trans (q1.mono (aa w).size);have lw1:=hb1.l1;clear q1;go_wp2_with fail;have p2:=(((Kp.refl w1).alloc (.cells #[.bool b1,.slice A1 n1 c1] 194)).alloc (.cells #[.bool b'1,.slice A'1 n'1 c'1] 194));have bw2:=((bw1.alloc (by first | omega | (simp <;> omega)) (.cells #[.bool b1,.slice A1 n1 c1] 194)).alloc (by first | omega | (simp <;> omega)) (.cells #[.bool b'1,.slice A'1 n'1 c'1] 194));have x2a:Blk ((w1.alloc (.cells #[.bool b1,.slice A1 n1 c1] 194)).alloc (.cells #[.bool b'1,.slice A'1 n'1 c'1] 194)) w1.heap.size 194 #[.bool b1,.slice A1 n1 c1]:=((am _ _ _ (by simp)).alloc (.cells #[.bool b'1,.slice A'1 n'1 c'1] 194));have x2b:Blk ((w1.alloc (.cells #[.bool b1,.slice A1 n1 c1] 194)).alloc (.cells #[.bool b'1,.slice A'1 n'1 c'1] 194)) (w1.heap.size+1) 194 #[.bool b'1,.slice A'1 n'1 c'1]:=(am _ _ _ (by simp));replace x1a:=((x1a.alloc (.cells #[.bool b1,.slice A1 n1 c1] 194)).alloc (.cells #[.bool b'1,.slice A'1 n'1 c'1] 194));have lw2:w1.heap.size+2≤((w1.alloc (.cells #[.bool b1,.slice A1 n1 c1] 194)).alloc (.cells #[.bool b'1,.slice A'1 n'1 c'1] 194)).heap.size:=by simp
 generalize hE2:((w1.alloc (.cells #[.bool b1,.slice A1 n1 c1] 194)).alloc (.cells #[.bool b'1,.slice A'1 n'1 c'1] 194))=w2 at p2 bw2 lw2 x2a x2b x1a ⊢;clear hE2;replace h:=h.keep p2;replace h1:=h1.keep p2;replace h'1:=h'1.keep p2;clear bw1;have lx1a:=eY x1a.lt;obtain ⟨lx2aa,lx2ab,lx2ac,lx2ad⟩:=eY x2a.lt;have cx2b:=x2b.c2;have lx2b:=iX x2b.lt
 go_region_held3 (fun w'=>Sees w2.heap.size w2 w') (first | with_reducible exact Sees.of Qr (by assumption) | with_reducible exact Sees.of Qr (aa _).drew | exact Sees.of Qr (ae (aa _) 1) | exact Sees.of Qr (ae (by assumption) _))
  (first
   | (go_at_call 154;(with_reducible refine (nt _).mono ?_);rintro e w3 ⟨b3,A3,n3,c3,rfl,h3,hb3⟩;replace hb3:=ag (ae (aa _) 1) hb3;have q3:Below w2.heap.size w2 w3:=ag (aa w2) hb3;replace h:=h.belw hb3;replace h1:=h1.belw hb3;replace h'1:=h'1.belw hb3)
   | (go_at_call 152;(with_reducible refine (nC _ b'1 A'1 n'1 c'1 (((q).den:Int)) ((k)) ?_ b3 A3 n3 c3 (1) (1) ?_ 0 HC.out ?_).mono ?_);(exact h'1.iz);(exact h3.iz);(omega);rintro e w4 ⟨rfl,hb4⟩;have q4:Below w2.heap.size w2 w4:=ag q3 hb4;replace h:=h.belw hb4;replace h1:=h1.belw hb4;replace h'1:=h'1.belw hb4;replace h3:=h3.belw hb4))
 have bw4:=bw2.trans (q4.mono bw2.size);clear lx1a lx2aa lx2ab lx2ac lx2ad cx2b lx2b;replace x1a:=x1a.b q4;replace x2a:=x2a.b q4;replace x2b:=x2b.b q4;have lw4:=q4.size;have cx2a:=x2a.c2;obtain ⟨lx2aa,lx2ab,lx2ac,lx2ad⟩:=eY x2a.lt;go_wp2_with fail;(with_reducible refine (iy _ b1 A1 n1 c1 ((q).num) ((k)) ?_ (Lib.itoa q.num) ?_ ?_ ?_).mono ?_);(exact h1.iz);(omega);(first | exact htab.belw bw4 | exact (htab.belw bw4).belw (ae (aa _) 1) | exact (htab.belw bw4).belw (aa _).drew | exact (htab.belw bw4).belw (by assumption) | fail);(exact rfl);rintro e w5 ⟨rfl,q5⟩;clear cx2a lx2aa lx2ab lx2ac lx2ad;replace h:=h.belw q5;replace h1:=h1.belw q5;replace h'1:=h'1.belw q5;replace h3:=h3.belw q5;replace x1a:=x1a.b q5;replace x2a:=x2a.b q5;replace x2b:=x2b.b q5;have bw5:=bw4.trans (q5.mono bw4.size);have lw5:=q5.size;clear q5 bw4;go_wp2;go_ret;exact ⟨rfl,bw5⟩
theorem rh (w:World) (b A n c D m e q k) (h:QZ w b A n c D m e q k) (h0:0 < k) (hk:k≤40000000) (htab:Tab w) (hd:q.den≠1) :
 Calls Tryz.prog 141 #[.agg #[.bool b,.slice A n c,.slice D m e]] w (aE w (af (bG q))):=by
 rw [jO hd];obtain ⟨u,hu⟩:∃ u,dq (q.den:Int) 1=u:=⟨_,rfl⟩;have hu0:u≠0:=by rw [← hu];exact sN (by omega)
 have e0:((u:Int) == 0)=false:=by simp;exact hu0
 have HC:=Qh hu;obtain ⟨X,hX⟩:∃ X,Lib.itoa q.num=X:=⟨_,rfl⟩;obtain ⟨Y,hY⟩:∃ Y,Lib.itoa (q.den:Int)=Y:=⟨_,rfl⟩;have hs:=h.sz h0;have hx1:(⟨X.toArray⟩:ByteArray).size≤1000000000:=by show X.length≤_;rw [← hX];have:=fL hs.1 hk (by omega);omega
 have hy1:(⟨Y.toArray⟩:ByteArray).size≤1000000000:=by show Y.length≤_;rw [← hY];have:=fL (z:=(q.den:Int)) (by simpa using hs.2) hk (by omega);omega
 obtain ⟨N,hN⟩:∃ N,(⟨X.toArray⟩:ByteArray).size=N:=⟨_,rfl⟩;obtain ⟨M,hM⟩:∃ M,(⟨Y.toArray⟩:ByteArray).size=M:=⟨_,rfl⟩;rw [hN] at hx1;rw [hM] at hy1;have hc1:(9223372036854775807 < N+1)=False:=by simp;omega
 have hc2:(9223372036854775807≤N)=False:=by simp;omega
 have hc3:(9223372036854775807 < N+1+M)=False:=by simp;omega
 rw [hX,hY];have HX:=Qh hX;have HY:=Qh hY;clear hd hu hu0 hX hY hs;go_in;go_wp2_with fail;(with_reducible refine (gU _ b A n c D m e (q) (k) ?_ ?_ ?_).mono ?_);(exact (h.belw ((Below.refl _ _).alloc Qr _)));(omega);(omega);rintro e w1 ⟨b1,A1,n1,c1,b'1,A'1,n'1,c'1,rfl,h1,h'1,hb1⟩;have q1:=hb1.q1;replace h:=h.belw q1;have x1a:Blk w1 w.heap.size 65 #[.bool b,.slice A n c,.slice D m e]:=(am _ _ _ (by simp)).below hb1 (by simp);have bw1:=(aa w).trans (q1.mono (aa w).size);have lw1:=hb1.l1;clear q1;go_wp2_with fail;have p2:=(((Kp.refl w1).alloc (.cells #[.bool b1,.slice A1 n1 c1] 194)).alloc (.cells #[.bool b'1,.slice A'1 n'1 c'1] 194));have bw2:=((bw1.alloc (by first | omega | (simp <;> omega)) (.cells #[.bool b1,.slice A1 n1 c1] 194)).alloc (by first | omega | (simp <;> omega)) (.cells #[.bool b'1,.slice A'1 n'1 c'1] 194));have x2a:Blk ((w1.alloc (.cells #[.bool b1,.slice A1 n1 c1] 194)).alloc (.cells #[.bool b'1,.slice A'1 n'1 c'1] 194)) w1.heap.size 194 #[.bool b1,.slice A1 n1 c1]:=((am _ _ _ (by simp)).alloc (.cells #[.bool b'1,.slice A'1 n'1 c'1] 194));have x2b:Blk ((w1.alloc (.cells #[.bool b1,.slice A1 n1 c1] 194)).alloc (.cells #[.bool b'1,.slice A'1 n'1 c'1] 194)) (w1.heap.size+1) 194 #[.bool b'1,.slice A'1 n'1 c'1]:=(am _ _ _ (by simp));replace x1a:=((x1a.alloc (.cells #[.bool b1,.slice A1 n1 c1] 194)).alloc (.cells #[.bool b'1,.slice A'1 n'1 c'1] 194));have lw2:w1.heap.size+2≤((w1.alloc (.cells #[.bool b1,.slice A1 n1 c1] 194)).alloc (.cells #[.bool b'1,.slice A'1 n'1 c'1] 194)).heap.size:=by simp
 generalize hE2:((w1.alloc (.cells #[.bool b1,.slice A1 n1 c1] 194)).alloc (.cells #[.bool b'1,.slice A'1 n'1 c'1] 194))=w2 at p2 bw2 lw2 x2a x2b x1a ⊢;clear hE2;replace h:=h.keep p2;replace h1:=h1.keep p2;replace h'1:=h'1.keep p2;clear bw1;obtain ⟨lx1aa,lx1ab,lx1ac,lx1ad⟩:=eY x1a.lt;obtain ⟨lx2aa,lx2ab,lx2ac,lx2ad⟩:=eY x2a.lt;obtain ⟨cx2ba,cx2bb⟩:=x2b.c2;obtain ⟨lx2ba,lx2bb,lx2bc,lx2bd⟩:=iX x2b.lt
 go_region_held3 (fun w'=>Sees w2.heap.size w2 w') (first | with_reducible exact Sees.of Qr (by assumption) | with_reducible exact Sees.of Qr (aa _).drew | exact Sees.of Qr (ae (aa _) 1) | exact Sees.of Qr (ae (by assumption) _))
  (first
   | (go_at_call 154;(with_reducible refine (nt _).mono ?_);rintro e w3 ⟨b3,A3,n3,c3,rfl,h3,hb3⟩;replace hb3:=ag (ae (aa _) 1) hb3;have q3:Below w2.heap.size w2 w3:=ag (aa w2) hb3;replace h:=h.belw hb3;replace h1:=h1.belw hb3;replace h'1:=h'1.belw hb3)
   | (go_at_call 152;(with_reducible refine (nC _ b'1 A'1 n'1 c'1 (((q).den:Int)) ((k)) ?_ b3 A3 n3 c3 (1) (1) ?_ u HC.out ?_).mono ?_);(exact h'1.iz);(exact h3.iz);(omega);rintro e w4 ⟨rfl,hb4⟩;have q4:Below w2.heap.size w2 w4:=ag q3 hb4;replace h:=h.belw hb4;replace h1:=h1.belw hb4;replace h'1:=h'1.belw hb4;replace h3:=h3.belw hb4))
 have bw4:=bw2.trans (q4.mono bw2.size);clear lx1aa lx1ab lx1ac lx1ad lx2aa lx2ab lx2ac lx2ad cx2ba cx2bb lx2ba lx2bb lx2bc lx2bd;replace x1a:=x1a.b q4;replace x2a:=x2a.b q4;replace x2b:=x2b.b q4;have lw4:=q4.size;obtain ⟨lx1aa,lx1ab,lx1ac,lx1ad⟩:=eY x1a.lt;have cx2a:=x2a.c2;obtain ⟨lx2aa,lx2ab,lx2ac,lx2ad⟩:=eY x2a.lt;obtain ⟨cx2ba,cx2bb⟩:=x2b.c2;obtain ⟨lx2ba,lx2bb,lx2bc,lx2bd⟩:=iX x2b.lt;go_wp2_with fail
 go_region_held3 (fun w'=>Sees w4.heap.size w4 w') (first | with_reducible exact Sees.of Qr (by assumption) | with_reducible exact Sees.of Qr (aa _).drew | exact Sees.of Qr (ae (aa _) 1) | exact Sees.of Qr (ae (by assumption) _))
  (first
   | (go_at_call 182;(with_reducible refine (iy _ b1 A1 n1 c1 ((q).num) ((k)) ?_ X ?_ ?_ ?_).mono ?_);(exact h1.iz);(omega);(first | exact htab.belw bw4 | exact (htab.belw bw4).belw (ae (aa _) 1) | exact (htab.belw bw4).belw (aa _).drew | exact (htab.belw bw4).belw (by assumption) | fail);(exact HX.out);rintro e w5 ⟨rfl,hb5⟩;replace hb5:=ag (ae (aa _) 1) hb5;have q5:Below w4.heap.size w4 w5:=ag (aa w4) hb5;replace h:=h.belw hb5;replace h1:=h1.belw hb5;replace h'1:=h'1.belw hb5;replace h3:=h3.belw hb5)
   | (go_at_call 182;(with_reducible refine (iy _ b'1 A'1 n'1 c'1 (((q).den:Int)) ((k)) ?_ Y ?_ ?_ ?_).mono ?_);(exact h'1.iz);(omega);(first | exact htab.belw bw4 | exact (htab.belw bw4).belw (ae (aa _) 1) | exact (htab.belw bw4).belw (aa _).drew | exact (htab.belw bw4).belw (by assumption) | fail);(exact HY.out);rintro e w6 ⟨rfl,hb6⟩;have q6:Below w4.heap.size w4 w6:=ag q5 hb6;replace h:=h.belw hb6;replace h1:=h1.belw hb6;replace h'1:=h'1.belw hb6;replace h3:=h3.belw hb6))
 have bw6:=bw4.trans (q6.mono bw4.size);clear lx1aa lx1ab lx1ac lx1ad cx2a lx2aa lx2ab lx2ac lx2ad cx2ba cx2bb lx2ba lx2bb lx2bc lx2bd;replace x1a:=x1a.b q6;replace x2a:=x2a.b q6;replace x2b:=x2b.b q6;have lw6:=q6.size;go_wp2;go_ret;refine ⟨?_,bw6⟩;exact congrArg (fun x=>Ending.returned (.string x)) (oY X Y)
theorem us (w:World) (b A n c D m e q k) (h:QZ w b A n c D m e q k) (h0:0 < k) (hk:k≤40000000) (htab:Tab w) (T:List UInt8) (hT:bG q=T):Calls Tryz.prog 141 #[.agg #[.bool b,.slice A n c,.slice D m e]] w (aE w (af T)):=by
 subst hT;by_cases hd:q.den=1
 ·exact rf w b A n c D m e q k h h0 hk htab hd
 exact rh w b A n c D m e q k h h0 hk htab hd
def aX (m:aA):List UInt8:=32 :: (m.name ++ 32 :: (bG m.x.q ++ 32 :: (bG m.y.q ++ [59])))
def fM (b:aq):List UInt8:=[98,111,100,121,32] ++ b.name ++ [32,123] ++ b.pts.flatMap aX ++ [32,125]
theorem dV {q:Rat}{k:Nat}(hs:Sz q k) (hk:k≤500):(bG q).length≤10100:=by
 have h1:=fL (z:=q.num) (k:=k) (K:=500) hs.1 hk (by decide);have h2:=fL (z:=(q.den:Int)) (k:=k) (K:=500) (by simpa using hs.2) hk (by decide);by_cases h:q.den=1
 ·rw [jN h];omega
 rw [jO h,List.length_append,List.length_cons];omega
def eO (m:aA):Prop:=m.name.length≤1000∧Sz m.x.q 500∧Sz m.y.q 500
theorem kz {m:aA}(h:eO m):(aX m).length≤22000:=by
 have h1:=dV h.2.1 Qr;have h2:=dV h.2.2 Qr;have h3:=h.1;unfold aX;simp only [List.length_cons,List.length_append,List.length_nil];omega
theorem gB:∀ {l:List aA},(∀ m∈l,eO m)→(l.flatMap aX).length≤22000 * l.length
 | [],_=>by simp
 | m :: l,h=>by
  have h1:=kz (h m (by simp));have h2:=gB (l:=l) (fun x hx=>h x (by simp [hx]));simp only [List.flatMap_cons,List.length_append,List.length_cons];omega
theorem dF {α:Type}(f:α→List UInt8) {l:List α}{i:Nat}{a:α}(h:l[i]?=some a):(l.take (i+1)).flatMap f=(l.take i).flatMap f ++ f a:=by
 rw [List.take_add_one,h];simp
theorem dG {α:Type}(f:α→List UInt8):∀ (l:List α) (i:Nat),((l.take i).flatMap f).length≤(l.flatMap f).length
 | [],i=>by simp
 | a :: l,0=>by simp
 | a :: l,i+1=>by
  have:=dG f l i;simp only [List.take_succ_cons,List.flatMap_cons,List.length_append];omega
abbrev NmL (s:List UInt8):Prop:=s.length < 4611686018427387904
def cz (w:World) (g o:Nat) (r:RD) (k:Nat):Prop:=∃ b A n c D m e,w.cell? ⟨g,o,none⟩=some (.bool b)∧w.cell? ⟨g,o+1,none⟩=some (.slice A n c)∧w.cell? ⟨g,o+2,none⟩=some (.slice D m e)∧QD w b A n c D m e r k
def de (k:Nat) (w:World) (g o:Nat) (m:aA):Prop:=w.cell? ⟨g,o,none⟩=some (af m.name)∧cz w g (o+1) m.x k∧cz w g (o+4) m.y k∧NmL m.name
def SlS {α:Type}(P:World→Nat→Nat→α→Prop) (s:Nat) (w:World) (A:Option Addr) (n c:Nat) (l:List α):Prop :=
  l.length=n∧n≤c∧(0 < n→∃ g o,A=some ⟨g,o,none⟩∧g < w.heap.size∧∀ i a,l[i]?=some a→P w g (o+i * s) a)
def du (k:Nat) (w:World) (g o:Nat) (b:aq):Prop:=∃ A n c,w.cell? ⟨g,o,none⟩=some (af b.name)∧w.cell? ⟨g,o+1,none⟩=some (.slice A n c)∧SlS (de k) 7 w A n c b.pts∧NmL b.name
def gQ (w:World) (g o:Nat) (j:aQ):Prop:=w.cell? ⟨g,o,none⟩=some (af j.name)∧w.cell? ⟨g,o+1,none⟩=some (.int .i64 j.kind)∧w.cell? ⟨g,o+2,none⟩=some (.int .i64 j.a)∧w.cell? ⟨g,o+3,none⟩=some (.int .i64 j.point)∧w.cell? ⟨g,o+4,none⟩=some (.int .i64 j.b)∧w.cell? ⟨g,o+5,none⟩=some (.int .i64 j.on)∧w.cell? ⟨g,o+6,none⟩=some (.int .i64 j.to_)∧NmL j.name
def gR (w:World) (g o:Nat) (d:aU):Prop:=w.cell? ⟨g,o,none⟩=some (af d.name)∧w.cell? ⟨g,o+1,none⟩=some (.int .i64 d.body)∧NmL d.name
structure LkS (k:Nat) (w:World) (A:Option Addr) (n c:Nat) (B:Option Addr) (p d:Nat) (C:Option Addr) (q e:Nat) (L:aj):Prop where
  name:NmL L.name
  bodies:SlS (du k) 2 w A n c L.bodies
  joints:SlS gQ 7 w B p d L.joints
  drivers:SlS gR 2 w C q e L.drivers
theorem az {w w':World}{g o:Nat}{v:Value}(h:w.cell? ⟨g,o,none⟩=some v) (hb:Below w.heap.size w w'):w'.cell? ⟨g,o,none⟩=some v:=(hb.cell (p:=⟨g,o,none⟩) (World.block_lt_of_cell? w _ h)).trans h
theorem cz.belw {w w':World}{g o:Nat}{r:RD}{k:Nat}(h:cz w g o r k) (hb:Below w.heap.size w w'):cz w' g o r k:=by
 obtain ⟨b,A,n,c,D,m,e,h1,h2,h3,h4⟩:=h;exact ⟨b,A,n,c,D,m,e,az h1 hb,az h2 hb,az h3 hb,h4.belw hb⟩
theorem de.belw {w w':World}{g o:Nat}{m:aA}{k:Nat}(h:de k w g o m) (hb:Below w.heap.size w w'):de k w' g o m:=⟨az h.1 hb,h.2.1.belw hb,h.2.2.1.belw hb,h.2.2.2⟩
theorem SlS.belw {α:Type}{P:World→Nat→Nat→α→Prop}{s:Nat}{w w':World}{A:Option Addr}{n c:Nat}{l:List α}(hP:∀ g o a,P w g o a→P w' g o a) (h:SlS P s w A n c l) (hb:Below w.heap.size w w'):SlS P s w' A n c l:=by
 refine ⟨h.1,h.2.1,fun hn=>?_⟩;obtain ⟨g,o,e,hg,h3⟩:=h.2.2 hn;exact ⟨g,o,e,Nat.lt_of_lt_of_le hg hb.size,fun i a ha=>hP _ _ _ (h3 i a ha)⟩
theorem du.belw {w w':World}{g o:Nat}{b:aq}{k:Nat}(h:du k w g o b) (hb:Below w.heap.size w w'):du k w' g o b:=by
 obtain ⟨A,n,c,h1,h2,h3,h4⟩:=h;exact ⟨A,n,c,az h1 hb,az h2 hb,h3.belw (fun _ _ _ h=>h.belw hb) hb,h4⟩
theorem gQ.belw {w w':World}{g o:Nat}{j:aQ}(h:gQ w g o j) (hb:Below w.heap.size w w'):gQ w' g o j :=
 ⟨az h.1 hb,az h.2.1 hb,az h.2.2.1 hb,az h.2.2.2.1 hb,az h.2.2.2.2.1 hb,az h.2.2.2.2.2.1 hb,az h.2.2.2.2.2.2.1 hb,h.2.2.2.2.2.2.2⟩
theorem gR.belw {w w':World}{g o:Nat}{d:aU}(h:gR w g o d) (hb:Below w.heap.size w w'):gR w' g o d:=⟨az h.1 hb,az h.2.1 hb,h.2.2⟩
theorem LkS.belw {k:Nat}{w w':World}{A B C:Option Addr}{n c p d q e:Nat}{L:aj}(h:LkS k w A n c B p d C q e L) (hb:Below w.heap.size w w'):LkS k w' A n c B p d C q e L :=
 ⟨h.name,h.bodies.belw (fun _ _ _ h=>h.belw hb) hb,h.joints.belw (fun _ _ _ h=>h.belw hb) hb,h.drivers.belw (fun _ _ _ h=>h.belw hb) hb⟩
theorem SlS.bd {k:Nat}{w w':World}{A:Option Addr}{n c:Nat}{l:List aq}(h:SlS (du k) 2 w A n c l) (hb:Below w.heap.size w w'):SlS (du k) 2 w' A n c l:=h.belw (fun _ _ _ h=>h.belw hb) hb
theorem SlS.mk_ {k:Nat}{w w':World}{A:Option Addr}{n c:Nat}{l:List aA}(h:SlS (de k) 7 w A n c l) (hb:Below w.heap.size w w'):SlS (de k) 7 w' A n c l:=h.belw (fun _ _ _ h=>h.belw hb) hb
theorem SlS.jt {w w':World}{A:Option Addr}{n c:Nat}{l:List aQ}(h:SlS gQ 7 w A n c l) (hb:Below w.heap.size w w'):SlS gQ 7 w' A n c l:=h.belw (fun _ _ _ h=>h.belw hb) hb
theorem SlS.dr {w w':World}{A:Option Addr}{n c:Nat}{l:List aU}(h:SlS gR 2 w A n c l) (hb:Below w.heap.size w w'):SlS gR 2 w' A n c l:=h.belw (fun _ _ _ h=>h.belw hb) hb
theorem SlS.at_ {α:Type}{P:World→Nat→Nat→α→Prop}{s:Nat}{w:World}{A:Option Addr}{n c:Nat}{l:List α}(h:SlS P s w A n c l) {i:Nat}(hi:i < n):∃ g o a,A=some ⟨g,o,none⟩∧g < w.heap.size∧n≤c∧l[i]?=some a∧P w g (o+i * s) a:=by
 obtain ⟨g,o,e,hg,h3⟩:=h.2.2 (by omega);have hl:i < l.length:=by rw [h.1];exact hi
 exact ⟨g,o,l[i],e,hg,h.2.1,List.getElem?_eq_getElem hl,h3 i _ (List.getElem?_eq_getElem hl)⟩
theorem SlS.rowAt {α:Type}{P:World→Nat→Nat→α→Prop}{s:Nat}{w:World}{g o n c:Nat}{l:List α}(h:SlS P s w (some ⟨g,o,none⟩) n c l) {j:Nat}(hj:j < n):∃ a,l[j]?=some a∧P w g (o+j * s) a:=by
 obtain ⟨g',o',a,e,_,_,ha,hp⟩:=h.at_ hj;injection e with e;injection e with e1 e2 _;subst e1 e2;exact ⟨a,ha,hp⟩
theorem rj (b:Nat) (w:World) (h0:w.cell? ⟨b,0,none⟩=some (.pointer (some ⟨b,0,none⟩))) :
 Calls Tryz.prog 58 #[.pointer (some ⟨b,0,none⟩)] w fun e w'=>e=.returned (.tuple #[])∧w'=w:=by
 obtain ⟨j,hj,_⟩:=Option.map_eq_some_iff.1 (show (Tryz.prog.info? 70).map TypeInfo.size=some 2 by kernel_rfl);go_in;go_wp2;rw [Lib.run_neq_ptr_same w _ Tryz.underlying68 hj];go_wp2;go_end0;exact ⟨rfl,rfl⟩
theorem oZ (b:Nat) (w:World) (h0:w.cell? ⟨b,0,none⟩=some (.pointer none)) (hsh:w.shape? b=some (70,2)) (hfz:w.frozen? ⟨b,0,none⟩=false) :
 Calls Tryz.prog 58 #[.pointer (some ⟨b,0,none⟩)] w fun e w'=>e=.returned (.tuple #[])∧w'=w.setCell ⟨b,0,none⟩ (.pointer (some ⟨b,0,none⟩)):=by
 obtain ⟨j,hj,hjs⟩:=Option.map_eq_some_iff.1 (show (Tryz.prog.info? 70).map TypeInfo.size=some 2 by kernel_rfl);go_in;go_wp2;rw [Lib.run_to_unsafe w ⟨b,0,none⟩ Tryz.underlying68 Tryz.underlying152 hj (by rw [hjs];decide) hsh (Nat.zero_lt_succ 1)];simp only [Result.andThen];rw [Oper.upon_value];go_wp2;rw [run_callFunc_extern Tryz.func99 (by kernel_rfl) (by kernel_rfl) (by kernel_rfl) (e:=Extern.AbiNoEscape.same) (by kernel_rfl)];rw [Lib.run_noEscape];simp only [Result.andThen];rw [Oper.upon_value];go_wp2;rw [Lib.run_from_unsafe w ⟨b,0,none⟩ Tryz.underlying152 Tryz.underlying68 hj hsh (by kernel_rfl)];simp only [Result.andThen];rw [Oper.upon_value];go_wp2;go_end0;exact ⟨rfl,rfl⟩
def Oth (b:Nat) (w w':World):Prop:=∀ g T cs,g≠b→T≠5→Blk w g T cs→Blk w' g T cs
theorem Oth.refl (b:Nat) (w:World):Oth b w w:=fun _ _ _ _ _ h=>h
theorem Oth.set {b:Nat}{w w':World}(h:Oth b w w') (i:Nat) (u:Value):Oth b w (w'.setCell ⟨b,i,none⟩ u):=fun g T cs hg hT hb=>(h g T cs hg hT hb).far hg u
theorem o0 (B b:Nat) (bs:List Value) (w:World) (h:Lib.IsBuilder 70 5 B b bs w) :
 Calls Tryz.prog 58 #[.pointer (some ⟨b,0,none⟩)] w fun e w'=>e=.returned (.tuple #[])∧(Lib.BuilderAt 70 5 B b (.pointer (some ⟨b,0,none⟩)) bs w'∧Below B w w'∧Oth b w w'):=by
 rcases h with h | h
 ·refine (oZ b w h.cell0 h.shape h.frozen0).mono ?_
  rintro e w' ⟨rfl,rfl⟩;exact ⟨rfl,h.used _,(Below.refl B w).setCell (p:=⟨b,0,none⟩) h.1 _,(Oth.refl b w).set 0 _⟩
 refine (rj b w h.cell0).mono ?_;rintro e w' ⟨rfl,rfl⟩;exact ⟨rfl,h,Below.refl B _,Oth.refl b _⟩
theorem o3 (B b:Nat) (bs:List Value) (s:ByteArray) (w:World) (h:Lib.IsBuilder 70 5 B b bs w) (hlen:bs.length+s.size≤140737488355328) (hBw:B≤w.heap.size) :
 Calls Tryz.prog 27 #[.pointer (some ⟨b,0,none⟩),.string s] w fun e w'=>e=.returned (.tuple #[.int .i64 s.size,.nilIface])∧(Lib.BuilderAt 70 5 B b (.pointer (some ⟨b,0,none⟩)) (bs ++ Lib.strCells s) w'∧Below B w w'∧Oth b w w'):=by
 obtain ⟨i0,hi,hz0,hz1,hz2⟩:=info_parts (show (Tryz.prog.info? 5).map (fun i=>(i.zero,i.size,i.bytes))=some (some (.int .u8 0),1,1) by kernel_rfl);go_in;go_wp2_with (go_at_call 58;refine (o0 B b bs _ h).mono ?_);rintro e w1 ⟨rfl,h1,hb1,ho1⟩;obtain ⟨hB,v,hbk,hown,hne⟩:=h1;have c0:w1.cell? ⟨b,0,none⟩=some (.pointer (some ⟨b,0,none⟩)):=by rw [Lib.cell_of_heap hbk];rfl
 have c1:w1.cell? ⟨b,1,none⟩=some v:=by rw [Lib.cell_of_heap hbk];rfl
 go_wp2_with (at_builtin;refine Lib.wpList_append_own_string _ rfl _ _ 47 9 rfl B 5 i0 Tryz.underlying47 Tryz.underlying9 hi hz0 hz1 hz2 _ _ _ rfl hown s rfl ?c3 ?c4 ?c5 ?_)
 case c3=>unfold maxLen;omega
 case c4=>omega
 case c5=>have:=hb1.size;omega
 intro v' w2 hown' hgrow _
 have hlt:b < w1.heap.size:=by
  rcases Nat.lt_or_ge b w1.heap.size with h' | h'
  ·exact h'
  simp [Array.getElem?_eq_none h'] at hbk
 have hb2:w2.heap[b]?=some (.cells #[.pointer (some ⟨b,0,none⟩),v] 70 (0,0)):=by
  rw [hgrow.block b hlt (fun e=>hne e.symm)];exact hbk
 have d0:w2.cell? ⟨b,0,none⟩=some (.pointer (some ⟨b,0,none⟩)):=by rw [Lib.cell_of_heap hb2];rfl
 have d1:w2.cell? ⟨b,1,none⟩=some v:=by rw [Lib.cell_of_heap hb2];rfl
 have f1:w2.frozen? ⟨b,1,none⟩=false:=Lib.frozen_of_heap hb2 1
 obtain ⟨ao,n',cap,rfl⟩:∃ ao n' cap,v'=.slice ao n' cap:=by
  rcases hown'.2 with ⟨hv,_⟩ | ⟨g,cap,cur,hv,_⟩
  ·exact ⟨_,_,_,hv⟩
  exact ⟨_,_,_,hv⟩
 go_wp2;go_ret2;refine ⟨rfl,?_,?_,Oth.set (fun g T cs hg hT hb=>?_) 1 _⟩
 ·exact Lib.BuilderAt.put (T:=70) (e:=5) hB hb2 (bs':=bs ++ Lib.strCells s) (by simpa [Lib.strCells_length] using hown') (by decide)
 ·exact (hb1.grown hgrow (by have:=hb1.size;omega) (fun k hk=>(hown.lt k hk).1)).setCell (p:=⟨b,1,none⟩) hB _
 have h9:=ho1 g T cs hg hT hb;refine (hgrow.block g h9.lt (fun hgv=>?_)).trans h9;rcases hown.2 with ⟨hv,_⟩ | ⟨g',cap,cur,hv,_,hk,_⟩
 ·rw [hv] at hgv;cases hgv
 rw [hv] at hgv;injection hgv with hgv;subst hgv;have:=h9.symm.trans hk;simp only [Option.some.injEq,Obj.cells.injEq] at this;exact hT this.2.1
theorem fO (w:World) (b:Bool) (A:Option Addr) (n c:Nat) (D:Option Addr) (m e:Nat) (r:RD) (k:Nat) (h:QD w b A n c D m e r k) (h0:0 < k) (hk:k≤40000000) (htab:Tab w) (T:List UInt8) (hT:bG r.q=T) :
 Calls Tryz.prog 101 #[.agg #[.bool b,.slice A n c,.slice D m e]] w (aE w (af T)):=by
 have H:=Qh h;have HT:=Qh hT;clear h hT;go_in;go_wp2_with fail;have q0:Below w.heap.size w (w.alloc (.cells #[.bool b,.slice A n c,.slice D m e] 65)):=(Below.refl _ _).alloc Qr _;(with_reducible refine (us _ b A n c D m e r.q k (H.out.belw q0).qz h0 hk (htab.belw q0) T HT.out).mono ?_);rintro e' w1 ⟨rfl,hb1⟩;have q1:=q0.trans (hb1.mono q0.size);go_wp2;go_ret;exact ⟨rfl,q1⟩
def Bu (B b:Nat) (w:World) (l:List UInt8):Prop:=Lib.IsBuilder 70 5 B b (Lib.byteCells l) w∧B≤w.heap.size
theorem BuilderAt.belw {T e:TypeId}{B b:Nat}{p:Value}{bs:List Value}{w w':World}(h:Lib.BuilderAt T e B b p bs w) (hb:Below w.heap.size w w'):Lib.BuilderAt T e B b p bs w':=by
 have hlt:=h.lt;obtain ⟨hB,v,hk,hown,hne⟩:=h;refine ⟨hB,v,(hb.block b hlt).trans hk,⟨hown.1,?_⟩,hne⟩;rcases hown.2 with h1 | ⟨g,cap,cur,h1,h2,h3,h4⟩
 ·exact Or.inl h1
 refine Or.inr ⟨g,cap,cur,h1,h2,(hb.block g ?_).trans h3,h4⟩;exact lt_of_block h3
theorem Bu.belw {B b:Nat}{w w':World}{l:List UInt8}(h:Bu B b w l) (hb:Below w.heap.size w w'):Bu B b w' l :=
 ⟨h.1.imp (fun x=>BuilderAt.belw x hb) (fun x=>BuilderAt.belw x hb),Nat.le_trans h.2 hb.size⟩
theorem Bu.lt {B b:Nat}{w:World}{l:List UInt8}(h:Bu B b w l):b < w.heap.size:=h.1.elim (fun x=>x.lt) (fun x=>x.lt)
theorem Bu.new {w:World}:Bu w.heap.size w.heap.size (w.alloc (.cells #[.pointer none,.slice none 0 0] 70)) [] :=
 ⟨Lib.fresh_isBuilder _ _ w,by simp⟩
theorem jh (a:List UInt8) (b:List UInt8):Lib.byteCells a ++ Lib.strCells ⟨b.toArray⟩=Lib.byteCells (a ++ b):=by
 simp [Lib.strCells,Lib.byteCells]
theorem bU (B b:Nat) (w:World) (l s:List UInt8) (h:Bu B b w l) (hlen:l.length+s.length≤140737488355328) :
 Calls Tryz.prog 27 #[.pointer (some ⟨b,0,none⟩),af s] w fun e w'=>e=.returned (.tuple #[.int .i64 (s.length:Nat),.nilIface])∧Bu B b w' (l ++ s)∧Below B w w'∧Oth b w w':=by
 have hz:(⟨s.toArray⟩:ByteArray).size=s.length:=ai s;refine (o3 B b (Lib.byteCells l) ⟨s.toArray⟩ w h.1 (by rw [hz];simpa [Lib.byteCells] using hlen) h.2).mono ?_;rintro e w' ⟨rfl,h1,h2,h3⟩;rw [jh] at h1;exact ⟨by rw [hz],⟨Or.inr h1,Nat.le_trans h.2 h2.size⟩,h2,h3⟩
theorem rk (B b:Nat) (w:World) (l:List UInt8) (h:Bu B b w l) :
 Calls Tryz.prog 31 #[.pointer (some ⟨b,0,none⟩)] w fun e w'=>e=.returned (.int .i64 (l.length:Nat))∧w'=w:=by
 refine (Tryz.Builder_Len B b _ w h.1).mono ?_;rintro e w' ⟨rfl,rfl⟩;exact ⟨by simp [Lib.byteCells],rfl⟩
theorem mL (B b:Nat) (w:World) (l:List UInt8) (h:Bu B b w l) :
 Calls Tryz.prog 32 #[.pointer (some ⟨b,0,none⟩)] w fun e w'=>e=.returned (af l)∧Below B w w':=Tryz.Builder_String_any B b l w h.1 h.2
theorem Blk.c7 {w:World}{g t:Nat}{a0 a1 a2 a3 a4 a5 a6:Value}(h:Blk w g t #[a0,a1,a2,a3,a4,a5,a6]):w.cell? ⟨g,0,none⟩=some a0∧w.cell? ⟨g,1,none⟩=some a1∧w.cell? ⟨g,2,none⟩=some a2∧w.cell? ⟨g,3,none⟩=some a3∧w.cell? ⟨g,4,none⟩=some a4∧w.cell? ⟨g,5,none⟩=some a5∧w.cell? ⟨g,6,none⟩=some a6:=⟨h.cell 0,h.cell 1,h.cell 2,h.cell 3,h.cell 4,h.cell 5,h.cell 6⟩
abbrev S7 (g:Nat) (a0 a1 a2 a3 a4 a5 a6:Value) (w:World):Prop:=w.cell? ⟨g,0,none⟩=some a0∧w.cell? ⟨g,1,none⟩=some a1∧w.cell? ⟨g,2,none⟩=some a2∧w.cell? ⟨g,3,none⟩=some a3∧w.cell? ⟨g,4,none⟩=some a4∧w.cell? ⟨g,5,none⟩=some a5∧w.cell? ⟨g,6,none⟩=some a6
theorem de.short {w:World}{g o:Nat}{m:aA}(h:de 500 w g o m) (hm:m.name.length≤1000):eO m:=by
 obtain ⟨_,⟨b,A,n,c,D,m1,e,_,_,_,h1⟩,⟨b',A',n',c',D',m1',e',_,_,_,h2⟩,_⟩:=h;exact ⟨hm,h1.sz (by decide),h2.sz (by decide)⟩
theorem SlS.short {w:World}{A:Option Addr}{n c:Nat}{l:List aA}(h:SlS (de 500) 7 w A n c l) (hms:∀ m∈l,m.name.length≤1000):∀ m∈l,eO m:=by
 intro m hm;obtain ⟨i,hi,e⟩:=List.getElem_of_mem hm;obtain ⟨g,o,a,_,_,_,ha,hp⟩:=h.at_ (i:=i) (by rw [← h.1];exact hi);rw [List.getElem?_eq_getElem hi] at ha;injection ha with ha;rw [← ha,e] at hp;exact hp.short (hms m hm)
theorem ut (w:World) (A:Option Addr) (n c:Nat) (b:aq) (h:SlS (de 500) 7 w A n c b.pts) (htab:Tab w) (hn:n≤1000) (hnm:b.name.length≤1000) (hms:∀ m∈b.pts,m.name.length≤1000) (T:List UInt8) (hT:fM b=T) :
 Calls Tryz.prog 60 #[.agg #[af b.name,.slice A n c]] w (aE w (af T)):=by
 have HM:=Qh (h.short hms);have HF:=Qh (gB (h.short hms));have hlen:=h.1;have hnc:=h.2.1;have hsn:=ai b.name;obtain ⟨h1,eh1⟩:∃ t,[98,111,100,121,32] ++ b.name=t:=⟨_,rfl⟩;have ah1:=bB ([98,111,100,121,32]) (b.name);rw [eh1] at ah1;have lh1:h1.length=5+b.name.length:=by rw [← eh1,List.length_append];try simp
 have kh1:(9223372036854775807 < 5+b.name.length)=False:=eq_false (by omega);have zh1:=ai h1;obtain ⟨h2,eh2⟩:∃ t,h1 ++ [32,123]=t:=⟨_,rfl⟩;have ah2:=bB (h1) ([32,123]);rw [eh2] at ah2;have lh2:h2.length=h1.length+2:=by rw [← eh2,List.length_append];try simp
 have kh2:(9223372036854775807 < h1.length+2)=False:=eq_false (by omega);have zh2:=ai h2;have HE:Hid (b.pts.flatMap aX ++ [32,125] ++ []=b.pts.flatMap aX ++ [32,125]∧T=h2 ++ b.pts.flatMap aX ++ [32,125]):=Qh ⟨by simp,by rw [← hT,← eh2,← eh1];rfl⟩;have HLN:=Qh hlen;have HTab:=Qh htab;have H:=Qh h;have hl2:h2.length≤1007:=by omega
 clear h hms hT htab hlen eh1 eh2 lh1 lh2;go_in;go_wp2_with fail
 have B0:Bu (w.heap.size+1) (w.heap.size+1) ((w.alloc (.cells #[af b.name,.slice A n c] 62)).alloc (.cells #[.pointer none,.slice none 0 0] 70)) []:=by
  have:=Bu.new (w:=w.alloc (.cells #[af b.name,.slice A n c] 62));simpa using this
 have q0:Below w.heap.size w ((w.alloc (.cells #[af b.name,.slice A n c] 62)).alloc (.cells #[.pointer none,.slice none 0 0] 70)):=((aa w).alloc Qr _).alloc (by simp) _;have xa:Blk ((w.alloc (.cells #[af b.name,.slice A n c] 62)).alloc (.cells #[.pointer none,.slice none 0 0] 70)) w.heap.size 62 #[af b.name,.slice A n c]:=(am _ _ _ rfl).alloc _;(with_reducible refine (bU _ _ _ _ h2 B0 (by simp;omega)).mono ?_);rintro e' w1 ⟨rfl,B1,q1,_⟩;have q1:Below w.heap.size w w1:=q0.trans (q1.mono (by omega));have xa:=xa.below ‹Below (w.heap.size+1) _ w1› (by omega);rw [List.nil_append] at B1;clear B0 q0;obtain ⟨cA0,cA1⟩:=xa.c2;have HB:=Qh B1;clear B1;go_wp2_with fail;clear cA0 cA1;go_loopw [14] (fun iv wr=>∃ i:Nat,iv=.int .i64 (i:Nat)∧i≤n∧Hid (Bu (w.heap.size+1) (w.heap.size+1) wr (h2 ++ (b.pts.take i).flatMap aX))∧Below w.heap.size w wr) (fun iv _=>n - (intOf iv).toNat)
 case atStart=>exact ⟨0,rfl,Nat.zero_le _,by simpa using HB,q1⟩
 case round =>
  clear HB q1;obtain ⟨i,rfl,hi,HB,hb⟩:=hrel;rename World=>wa;have hfl:=dG aX b.pts i;rcases Nat.lt_or_ge i n with hlt | hge
  ·have hi1:((i:Int) < (n:Int))=True:=by simp;omega
   obtain ⟨g,o,m,e1,hg,_,hbi,hM⟩:=(H.out.mk_ hb).at_ hlt;subst e1;have hsh:=HM.out m (List.mem_of_getElem? hbi);obtain ⟨hm1,hm2,hm3⟩:=hsh;have hfs:=dF aX hbi;have hfl2:=dG aX b.pts (i+1);obtain ⟨d0,⟨b1,A1,n1,c1,D1,m1,e1,d1,d2,d3,hQ1⟩,⟨b2,A2,n2,c2,D2,m2,e2,d4,d5,d6,hQ2⟩,hmn⟩:=hM;have d2:wa.cell? ⟨g,o+i * 7+2,none⟩=some (.slice A1 n1 c1):=d2;have d3:wa.cell? ⟨g,o+i * 7+3,none⟩=some (.slice D1 m1 e1):=d3;have d5:wa.cell? ⟨g,o+i * 7+5,none⟩=some (.slice A2 n2 c2):=d5;have d6:wa.cell? ⟨g,o+i * 7+6,none⟩=some (.slice D2 m2 e2):=d6;have hsm:=ai m.name;obtain ⟨X,hX⟩:∃ X,bG m.x.q=X:=⟨_,rfl⟩;obtain ⟨Y,hY⟩:∃ Y,bG m.y.q=Y:=⟨_,rfl⟩;have hsX:=ai X;have hsY:=ai Y;have hlX:X.length≤10100:=by rw [← hX];exact dV hm2 Qr
   have hlY:Y.length≤10100:=by rw [← hY];exact dV hm3 Qr
   obtain ⟨s1,es1⟩:∃ t,[32] ++ m.name=t:=⟨_,rfl⟩;have as1:=bB ([32]) (m.name);rw [es1] at as1;have ls1:s1.length=1+m.name.length:=by rw [← es1,List.length_append];try simp
   have ks1:(9223372036854775807 < 1+m.name.length)=False:=eq_false (by omega);have zs1:=ai s1;obtain ⟨s2,es2⟩:∃ t,s1 ++ [32]=t:=⟨_,rfl⟩;have as2:=bB (s1) ([32]);rw [es2] at as2;have ls2:s2.length=s1.length+1:=by rw [← es2,List.length_append];try simp
   have ks2:(9223372036854775807 < s1.length+1)=False:=eq_false (by omega);have zs2:=ai s2;obtain ⟨s3,es3⟩:∃ t,s2 ++ X=t:=⟨_,rfl⟩;have as3:=bB (s2) (X);rw [es3] at as3;have ls3:s3.length=s2.length+X.length:=by rw [← es3,List.length_append];try simp
   have ks3:(9223372036854775807 < s2.length+X.length)=False:=eq_false (by omega);have zs3:=ai s3;obtain ⟨s4,es4⟩:∃ t,s3 ++ [32]=t:=⟨_,rfl⟩;have as4:=bB (s3) ([32]);rw [es4] at as4;have ls4:s4.length=s3.length+1:=by rw [← es4,List.length_append];try simp
   have ks4:(9223372036854775807 < s3.length+1)=False:=eq_false (by omega);have zs4:=ai s4;obtain ⟨s5,es5⟩:∃ t,s4 ++ Y=t:=⟨_,rfl⟩;have as5:=bB (s4) (Y);rw [es5] at as5;have ls5:s5.length=s4.length+Y.length:=by rw [← es5,List.length_append];try simp
   have ks5:(9223372036854775807 < s4.length+Y.length)=False:=eq_false (by omega);have zs5:=ai s5;obtain ⟨s6,es6⟩:∃ t,s5 ++ [59]=t:=⟨_,rfl⟩;have as6:=bB (s5) ([59]);rw [es6] at as6;have ls6:s6.length=s5.length+1:=by rw [← es6,List.length_append];try simp
   have ks6:(9223372036854775807 < s5.length+1)=False:=eq_false (by omega);have zs6:=ai s6
   have hmt:aX m=s6:=by
    rw [← es6,← es5,← es4,← es3,← es2,← es1,← hX,← hY];unfold aX;simp
   rw [hmt] at hfs
   have hls:((b.pts.take i).flatMap aX).length+s6.length≤22000 * n:=by
    have:=congrArg List.length hfs;rw [List.length_append] at this;have h9:=HF.out;have h8:=HLN.out;rw [h8] at h9;omega
   have HX:=Qh hX;have HY:=Qh hY;have HFS:=Qh hfs;have HQ1:=Qh hQ1;have HQ2:=Qh hQ2;have HLS:=Qh hls;have hga:g < wa.heap.size:=hg;clear hX hY hfs hQ1 hQ2 hls hmt hfl hfl2 hbi hm1 hm2 hm3 es1 es2 es3 es4 es5 es6 ls1 ls2 ls3 ls4 ls5 ls6;go_wp2_with fail;have xp:Blk (wa.alloc (.cells #[af m.name,.bool b1,.slice A1 n1 c1,.slice D1 m1 e1,.bool b2,.slice A2 n2 c2,.slice D2 m2 e2] 67)) wa.heap.size 67 #[af m.name,.bool b1,.slice A1 n1 c1,.slice D1 m1 e1,.bool b2,.slice A2 n2 c2,.slice D2 m2 e2]:=am _ _ _ rfl;have qb:Below wa.heap.size wa (wa.alloc (.cells #[af m.name,.bool b1,.slice A1 n1 c1,.slice D1 m1 e1,.bool b2,.slice A2 n2 c2,.slice D2 m2 e2] 67)):=(aa wa).alloc Qr _;have HBb:=Qh (HB.out.belw qb);have HTb:=Qh ((HTab.out.belw hb).belw qb);have HQ1b:=Qh (HQ1.out.belw qb);have HQ2b:=Qh (HQ2.out.belw qb);have bwb:=hb.trans (qb.mono hb.size);have hwb:wa.heap.size < (wa.alloc (.cells #[af m.name,.bool b1,.slice A1 n1 c1,.slice D1 m1 e1,.bool b2,.slice A2 n2 c2,.slice D2 m2 e2] 67)).heap.size:=xp.lt;have hbl:wa.heap.size≠w.heap.size+1:=by have:=HB.out.lt;omega
   clear HB HQ1 HQ2 d0 d1 d2 d3 d4 d5 d6;generalize (wa.alloc (.cells #[af m.name,.bool b1,.slice A1 n1 c1,.slice D1 m1 e1,.bool b2,.slice A2 n2 c2,.slice D2 m2 e2] 67))=wb at xp qb HBb HTb HQ1b HQ2b bwb hwb ⊢;obtain ⟨cp0,cp1,cp2,cp3,cp4,cp5,cp6⟩:=xp.c7
   go_region_held3 (S7 wa.heap.size (af m.name) (.bool b1) (.slice A1 n1 c1) (.slice D1 m1 e1) (.bool b2) (.slice A2 n2 c2) (.slice D2 m2 e2)) (first | with_reducible exact Blk.c7 (by assumption) | with_reducible exact Blk.c7 (Blk.drew (by assumption)) | exact Blk.c7 (Blk.drewN (by assumption) _))
    (first
     | (go_at_call 101;(with_reducible refine (fO _ b1 A1 n1 c1 D1 m1 e1 m.x 500 ?_ (by decide) (by decide) ?_ X HX.out).mono ?_);(exact HQ1b.out.belw (by first | exact qwy | exact (aa wb).drew | exact ae (aa wb) _));(exact HTb.out.belw (by first | exact qwy | exact (aa wb).drew | exact ae (aa wb) _));rintro e' wx ⟨rfl,hwx⟩;have qwx:Below wb.heap.size wb wx:=(by first | exact ag qwy hwx | exact ag (aa wb) hwx | exact ag (ae (aa wb) _) hwx);have xwx:=xp.below qwx xp.lt)
     | (go_at_call 101;(with_reducible refine (fO _ b2 A2 n2 c2 D2 m2 e2 m.y 500 ?_ (by decide) (by decide) ?_ Y HY.out).mono ?_);(exact HQ2b.out.belw (by first | exact qwx | exact (aa wb).drew | exact ae (aa wb) _));(exact HTb.out.belw (by first | exact qwx | exact (aa wb).drew | exact ae (aa wb) _));rintro e' wy ⟨rfl,hwy⟩;have qwy:Below wb.heap.size wb wy:=(by first | exact ag qwx hwy | exact ag (aa wb) hwy | exact ag (ae (aa wb) _) hwy);have xwy:=xp.below qwy xp.lt)
     | (go_at_call 27;(with_reducible refine (bU _ _ _ _ s6 (HBb.out.belw (by first | exact qwx | exact qwy)) (by rw [List.length_append];have:=HLS.out;omega)).mono ?_);rintro e' wz ⟨rfl,Bz,qz,oz⟩;have xz:=oz wa.heap.size 67 _ hbl (by decide) (by first | exact xwx | exact xwy)))
   all_goals
    have bz:Below w.heap.size w wz:=by
     first
      | exact (bwb.trans (qwy.mono bwb.size)).trans (qz.mono (Nat.le_succ _))
      | exact (bwb.trans (qwx.mono bwb.size)).trans (qz.mono (Nat.le_succ _))
    have HBz:Hid (Bu (w.heap.size+1) (w.heap.size+1) wz (h2 ++ (b.pts.take (i+1)).flatMap aX)):=Qh (by rw [HFS.out,← List.append_assoc];exact Bz);clear Bz HFS cp0 cp1 cp2 cp3 cp4 cp5 cp6;go_wp2_with fail;go_roundw
    case rel=>exact ⟨i+1,by go_num,by omega,HBz,bz⟩
    case measure=>simp [intOf];omega
  have hi1:((i:Int) < (n:Int))=False:=by simp;omega
  have hin:b.pts.take i=b.pts:=List.take_of_length_le (by rw [HLN.out];exact hge);rw [hin] at HB;have hf:=HF.out;rw [HLN.out] at hf;have HFL:=Qh hf;clear hf hin hfl;go_wp2_with fail;(with_reducible refine (bU _ _ _ _ [32,125] HB.out (by rw [List.length_append];have:=HFL.out;simp only [List.length_cons,List.length_nil];omega)).mono ?_);rintro e' w2 ⟨rfl,B2,q2,_⟩;have b2:=hb.trans (q2.mono (Nat.le_succ _));have HB2:=Qh B2;clear B2;go_wp2_with fail;(with_reducible refine (mL _ _ _ _ HB2.out).mono ?_);rintro e' w3 ⟨rfl,q3⟩;have b3:=b2.trans (q3.mono (Nat.le_succ _));have hTT:h2 ++ b.pts.flatMap aX ++ [32,125]=T:=HE.out.2.symm;rw [hTT];go_wp2;go_ret;exact ⟨rfl,b3⟩
theorem mM (w:World) (A:Option Addr) (n c:Nat) (B:Option Addr) (p d:Nat) (C:Option Addr) (q e:Nat) (nm:List UInt8) (l:List aq) (k:Nat) (h:SlS (du k) 2 w A n c l) (i j:Nat) (b:aq) (m:aA) (hb:l[i]?=some b) (hm:b.pts[j]?=some m) (hlb:b.name.length≤1000) (hlm:m.name.length≤1000) (T:List UInt8) (hT:b.name ++ 46 :: m.name=T) :
 Calls Tryz.prog 61 #[.agg #[af nm,.slice A n c,.slice B p d,.slice C q e],.int .i64 (i:Nat),.int .i64 (j:Nat)] w (aE w (af T)):=by
 have hil:i < n:=by rw [← h.1];exact (List.getElem?_eq_some_iff.1 hb).1
 obtain ⟨g,o,b',e1,hg,hnc,hb',hB⟩:=h.at_ hil;rw [hb] at hb';injection hb' with hb';subst hb' e1;obtain ⟨A',n',c',c0,c1,hM,_⟩:=hB;have hjl:j < n':=by rw [← hM.1];exact (List.getElem?_eq_some_iff.1 hm).1
 obtain ⟨g',o',m',e1,hg',hnc',hm',hK⟩:=hM.at_ hjl;rw [hm] at hm';injection hm' with hm';subst hm' e1;have k0:=hK.1;have f1:((i:Int) < (n:Int)):=by omega
 have f2:((j:Int) < (n':Int)):=by omega
 have hsb:=ai b.name;have hsm:=ai m.name;obtain ⟨h1,eh1⟩:∃ t,b.name ++ [46]=t:=⟨_,rfl⟩;have ah1:=bB (b.name) ([46]);rw [eh1] at ah1;have lh1:h1.length=b.name.length+1:=by rw [← eh1,List.length_append];try simp
 have kh1:(9223372036854775807 < b.name.length+1)=False:=eq_false (by omega);have zh1:=ai h1;obtain ⟨h2,eh2⟩:∃ t,h1 ++ m.name=t:=⟨_,rfl⟩;have ah2:=bB (h1) (m.name);rw [eh2] at ah2;have lh2:h2.length=h1.length+m.name.length:=by rw [← eh2,List.length_append];try simp
 have kh2:(9223372036854775807 < h1.length+m.name.length)=False:=eq_false (by omega);have zh2:=ai h2;have hTT:h2=T:=by rw [← hT,← eh2,← eh1];simp
 subst hTT;have hgl:¬ g=w.heap.size:=by omega
 have hgl':¬ g'=w.heap.size:=by omega
 have hgl2:¬ g'=w.heap.size+1:=by omega
 have hnn:((i:Int)≤(n:Int)):=by omega
 clear hb hm hM hK h hT eh1 eh2 lh1 lh2;go_in;go_wp2_with fail;go_quiet (fail);go_wp2;go_ret;exact ⟨rfl,by first | exact ((aa w).alloc Qr _).alloc (by simp) _ | exact ae (((aa w).alloc Qr _).alloc (by simp) _) _⟩
def fe (m:aA):Bool:=decide (60 < (bG m.x.q).length) || decide (60 < (bG m.y.q).length)
def iB (l:List aq):Bool:=l.any fun b=>b.pts.any fe
theorem lF {α:Type}{f:α→Bool}{l:List α}{i:Nat}{a:α}(ha:l[i]?=some a) (h:(l.take i).any f=false) (hf:f a=false):(l.take (i+1)).any f=false:=by
 rw [List.take_add_one,ha,List.any_append,h];simp [hf]
theorem nF {α:Type}{f:α→Bool}{l:List α}{i:Nat}{a:α}(ha:l[i]?=some a) (hf:f a=true):l.any f=true :=
 List.any_eq_true.2 ⟨a,List.mem_of_getElem? ha,hf⟩
theorem mN {l:List aq}{i:Nat}{b:aq}(hb:l[i]?=some b) (h:iB (l.take i)=false) (hf:b.pts.any fe=false):iB (l.take (i+1))=false:=lF hb h hf
theorem jP {l:List aq}{i j:Nat}{b:aq}{m:aA}(hb:l[i]?=some b) (hm:b.pts[j]?=some m) (h:fe m=true):iB l=true:=nF hb (nF hm h)
theorem uu (w:World) (A:Option Addr) (n c:Nat) (B:Option Addr) (p d:Nat) (C:Option Addr) (q e:Nat) (nm:List UInt8) (l:List aq) (h:SlS (du 500) 2 w A n c l) (htab:Tab w) (hn:n≤1000) (hps:∀ b∈l,b.pts.length≤1000) (v:Bool) (hv:iB l=v) :
 Calls Tryz.prog 63 #[.agg #[af nm,.slice A n c,.slice B p d,.slice C q e]] w (aE w (.bool v)):=by
 have HV:=Qh hv;have HL:=Qh h.1;have HPS:=Qh hps;have hnc:=h.2.1;have H:=Qh h;have HTab:=Qh htab;clear htab;clear h hv hps;go_in;go_wp2_with fail;go_loopw [10] (fun iv wr=>∃ i:Nat,iv=.int .i64 (i:Nat)∧i≤n∧Hid (iB (l.take i)=false)∧Blk wr w.heap.size 36 #[af nm,.slice A n c,.slice B p d,.slice C q e]∧Below w.heap.size w wr) (fun iv _=>n - (intOf iv).toNat)
 case atStart=>exact ⟨0,rfl,Nat.zero_le _,Qh rfl,am _ _ _ (by simp),(aa w).alloc Qr _⟩
 case round =>
  obtain ⟨i,rfl,hi,HI,xL,hb⟩:=hrel;rename World=>wa;have hlL:w.heap.size < wa.heap.size:=xL.lt;have cL:=xL.cell 1;rcases Nat.lt_or_ge i n with hlt | hge
  ·have hi1:((i:Int) < (n:Int))=True:=by simp;omega
   obtain ⟨g,o,b,e1,hg,_,hbi,hB⟩:=(H.out.bd hb).at_ hlt;subst e1;obtain ⟨A',n',c',c0,c1,hM,hnm⟩:=hB;have hnc':=hM.2.1;have hn1:n'≤1000:=by rw [← hM.1];exact HPS.out b (List.mem_of_getElem? hbi)
   have HM:=Qh hM;have HBI:=Qh hbi;clear hM hbi;go_wp2_with fail;have xb:Blk (wa.alloc (.cells #[af b.name,.slice A' n' c'] 62)) wa.heap.size 62 #[af b.name,.slice A' n' c']:=am _ _ _ rfl;have qb:Below wa.heap.size wa (wa.alloc (.cells #[af b.name,.slice A' n' c'] 62)):=(aa wa).alloc Qr _;have xL1:=xL.below qb xL.lt;have hb1:=hb.trans (qb.mono hb.size);clear cL c0 c1;generalize (wa.alloc (.cells #[af b.name,.slice A' n' c'] 62))=wx at xb qb xL1 hb1 ⊢;have cb:=xb.cell 1;go_wp2_with fail;clear cb;go_loopw [17] (fun jv w2=>∃ j:Nat,jv=.int .i64 (j:Nat)∧j≤n'∧Hid ((b.pts.take j).any fe=false)∧Below wx.heap.size wx w2) (fun jv _=>n' - (intOf jv).toNat)
   case atStart=>exact ⟨0,rfl,Nat.zero_le _,Qh rfl,aa wx⟩
   case round =>
    obtain ⟨j,rfl,hj,HJ,hb2⟩:=hrel;rename World=>wb;have xL2:=xL1.below hb2 xL1.lt;have hlL2:w.heap.size < wb.heap.size:=xL2.lt;have cL2:=xL2.cell 1;have bwb:=hb1.trans (hb2.mono hb1.size);rcases Nat.lt_or_ge j n' with hjl | hjg
    ·have hj1:((j:Int) < (n':Int))=True:=by simp;omega
     obtain ⟨g',o',m,e1,hg',_,hmj,hM⟩:=((HM.out.mk_ qb).mk_ hb2).at_ hjl;subst e1;have HMJ:=Qh hmj;obtain ⟨d0,⟨b1,A1,n1,c1,D1,m1,e1,d1,d2,d3,hQ1⟩,⟨b2,A2,n2,c2,D2,m2,e2,d4,d5,d6,hQ2⟩,hmn⟩:=hM;have d2:wb.cell? ⟨g',o'+j * 7+2,none⟩=some (.slice A1 n1 c1):=d2;have d3:wb.cell? ⟨g',o'+j * 7+3,none⟩=some (.slice D1 m1 e1):=d3;have d5:wb.cell? ⟨g',o'+j * 7+5,none⟩=some (.slice A2 n2 c2):=d5;have d6:wb.cell? ⟨g',o'+j * 7+6,none⟩=some (.slice D2 m2 e2):=d6;obtain ⟨X,hX⟩:∃ X,bG m.x.q=X:=⟨_,rfl⟩;obtain ⟨Y,hY⟩:∃ Y,bG m.y.q=Y:=⟨_,rfl⟩;have hsX:=ai X;have hsY:=ai Y;have HX:=Qh hX;have HY:=Qh hY;have HQ1:=Qh hQ1;have HQ2:=Qh hQ2;have hgb:g < wb.heap.size:=by have:=hb2.size;have:=qb.size;omega
     clear hX hY hQ1 hQ2 hmj;go_wp2_with fail;have xp:Blk (wb.alloc (.cells #[af m.name,.bool b1,.slice A1 n1 c1,.slice D1 m1 e1,.bool b2,.slice A2 n2 c2,.slice D2 m2 e2] 67)) wb.heap.size 67 #[af m.name,.bool b1,.slice A1 n1 c1,.slice D1 m1 e1,.bool b2,.slice A2 n2 c2,.slice D2 m2 e2]:=am _ _ _ rfl;have qb:Below wb.heap.size wb (wb.alloc (.cells #[af m.name,.bool b1,.slice A1 n1 c1,.slice D1 m1 e1,.bool b2,.slice A2 n2 c2,.slice D2 m2 e2] 67)):=(aa wb).alloc Qr _;have HTb:=Qh ((HTab.out.belw bwb).belw qb);have HQ1b:=Qh (HQ1.out.belw qb);have HQ2b:=Qh (HQ2.out.belw qb);have bwc:=bwb.trans (qb.mono bwb.size);have xL3:=xL2.below qb xL2.lt;have hb3:=ag hb2 qb;have hwb:wb.heap.size < (wb.alloc (.cells #[af m.name,.bool b1,.slice A1 n1 c1,.slice D1 m1 e1,.bool b2,.slice A2 n2 c2,.slice D2 m2 e2] 67)).heap.size:=xp.lt;clear HQ1 HQ2 d0 d1 d2 d3 d4 d5 d6 cL2;generalize (wb.alloc (.cells #[af m.name,.bool b1,.slice A1 n1 c1,.slice D1 m1 e1,.bool b2,.slice A2 n2 c2,.slice D2 m2 e2] 67))=wc at xp qb HTb HQ1b HQ2b bwc hwb xL3 hb3 ⊢;(with_reducible refine (fO _ b1 A1 n1 c1 D1 m1 e1 m.x 500 HQ1b.out (by decide) (by decide) HTb.out X HX.out).mono ?_);rintro e' w3 ⟨rfl,hw3⟩;have xp3:=xp.below hw3 xp.lt;have xL3:=xL3.b hw3;have bw3:=bwc.trans (hw3.mono bwc.size);have hb3:=ag hb3 hw3;by_cases hx6:60 < X.length
     ·have f6:((60:Int) < (X.length:Int))=True:=eq_true (by omega)
      have hm6:fe m=true:=by unfold fe;rw [HX.out,decide_eq_true hx6];rfl
      have hvt:v=true:=by rw [← HV.out];exact jP HBI.out HMJ.out hm6
      subst hvt;go_wp2;go_ret;exact ⟨rfl,bw3⟩
     have f6:((60:Int) < (X.length:Int))=False:=eq_false (by omega);have cp4:=xp3.cell 4;have cp5:=xp3.cell 5;have cp6:=xp3.cell 6;go_wp2_with fail;(with_reducible refine (fO _ b2 A2 n2 c2 D2 m2 e2 m.y 500 (HQ2b.out.belw hw3) (by decide) (by decide) (HTb.out.belw hw3) Y HY.out).mono ?_);rintro e' w4 ⟨rfl,hw4⟩;have xL4:=xL3.below hw4 xL3.lt;have bw4:=bw3.trans (hw4.mono bw3.size);have hb4:=ag hb3 hw4;clear cp4 cp5 cp6;by_cases hy6:60 < Y.length
     ·have g6:((60:Int) < (Y.length:Int))=True:=eq_true (by omega)
      have hm6:fe m=true:=by unfold fe;rw [HX.out,HY.out,decide_eq_true hy6,Bool.or_true]
      have hvt:v=true:=by rw [← HV.out];exact jP HBI.out HMJ.out hm6
      subst hvt;go_wp2;go_ret;exact ⟨rfl,bw4⟩
     have g6:((60:Int) < (Y.length:Int))=False:=eq_false (by omega);have hm6:fe m=false:=by unfold fe;rw [HX.out,HY.out,decide_eq_false hx6,decide_eq_false hy6];rfl
     have HJ2:=Qh (lF HMJ.out HJ.out hm6);clear hm6;go_wp2_with fail;go_roundw
     case rel=>exact ⟨j+1,by go_num,by omega,HJ2,hb4⟩
     case measure=>simp [intOf];omega
    have hj1:((j:Int) < (n':Int))=False:=by simp;omega
    have hjn:b.pts.take j=b.pts:=List.take_of_length_le (by rw [HM.out.1];exact hjg);rw [hjn] at HJ;have HI2:=Qh (mN HBI.out HI.out HJ.out);clear hjn;go_wp2_with fail;go_roundw
    case rel=>exact ⟨i+1,by go_num,by omega,HI2,xL2,bwb⟩
    case measure=>simp [intOf];omega
  have hi1:((i:Int) < (n:Int))=False:=by simp;omega
  have hin:l.take i=l:=List.take_of_length_le (by rw [HL.out];exact hge);rw [hin] at HI;have hvf:v=false:=by rw [← HV.out];exact HI.out
  subst hvf;clear hin;go_wp2;go_ret;exact ⟨rfl,hb⟩
theorem cE (w:World) (i:Int) (n:Nat) (v:Bool) (hv:inI i n=v):Calls Tryz.prog 114 #[.int .i64 i,.int .i64 (n:Nat)] w (fun e w'=>e=.returned (.bool v)∧w'=w):=by
 subst hv;by_cases h1:0≤i
 ·by_cases h2:i < (n:Int)
  ·have e:inI i n=true:=by unfold inI;simp [h1,h2]
   rw [e];have f1:(0≤i)=True:=eq_true h1;have f2:(i < (n:Int))=True:=eq_true h2;go_in;go_wp2;go_ret;exact ⟨rfl,rfl⟩
  have e:inI i n=false:=by unfold inI;simp [h2]
  rw [e];have f1:(0≤i)=True:=eq_true h1;have f2:(i < (n:Int))=False:=eq_false h2;go_in;go_wp2;go_ret;exact ⟨rfl,rfl⟩
 have e:inI i n=false:=by unfold inI;simp [h1]
 rw [e];have f1:(0≤i)=False:=eq_false h1;go_in;go_wp2;go_ret;exact ⟨rfl,rfl⟩
theorem o4 (w:World) (i:Int) (n:Nat) (v:Bool) (hv:inI i n=v):Calls Tryz.prog 114 #[.int .i64 i,.int .i64 (n:Nat)] w (aE w (.bool v)):=(cE w i n v hv).mono fun _ _ ⟨h1,h2⟩=>⟨h1,h2 ▸ aa _⟩
theorem rl (w:World) (A:Option Addr) (n c:Nat) (l:List aq) (k:Nat) (h:SlS (du k) 2 w A n c l) (hk:k≤300000000) (hn:n≤1000) (x:Int) (hx:bQ bj [] l=x):Calls Tryz.prog 76 #[.slice A n c] w (aE w (ba x)):=by
 have hnc:=h.2.1;have HX:=Qh (dU hx);clear hx;go_in;go_wp2_with fail;go_loopw [13] (fun iv wr=>∃ i:Nat,iv=.int .i64 (i:Nat)∧i≤n∧Hid (bQ bj (l.take i) (l.drop i)=x)∧Below w.heap.size w wr) (fun iv _=>n - (intOf iv).toNat)
 case atStart=>exact ⟨0,rfl,Nat.zero_le _,HX,aa w⟩
 case round =>
  clear HX;obtain ⟨i,rfl,hi,HX,hb⟩:=hrel;rename World=>wa;rcases Nat.lt_or_ge i n with hlt | hge
  ·have hi1:((i:Int) < (n:Int))=True:=by simp;omega
   obtain ⟨g,o,b,e,hg,_,hbi,hB⟩:=(h.bd hb).at_ hlt;subst e;have hstep:=eN HX.out hbi;obtain ⟨A',n',c',c0,c1,hM,hnm⟩:=hB;have HR:=Qh (h.bd hb);have HM:=Qh hM;have HS:=Qh hstep;have HN:=Qh hnm;have HB:=Qh hbi;obtain ⟨v,hv⟩:∃ v,bI b.name=v:=⟨_,rfl⟩;have HV:=Qh hv;clear h hM hstep hnm hbi hv HX;go_wp2_with fail;(with_reducible refine (iA _ b.name HN.out v HV.out).mono ?_);rintro e w1 ⟨rfl,hb1⟩;have q1:=hb1.q1;have x1:Blk w1 wa.heap.size 62 #[af b.name,.slice A' n' c']:=(am _ _ _ (by simp)).below hb1 (by simp);have bw1:=hb.trans (q1.mono hb.size);clear hb1;cases v
   ·have h5:x=5:=by
     have e5:bj (l.take i) b=5:=if_pos HV.out;rcases HS.out with ⟨z,_⟩ | ⟨_,z⟩
     ·rw [e5] at z;cases z
     rw [← z,e5]
    go_wp2;go_ret;exact ⟨by rw [h5];rfl,bw1⟩
   obtain ⟨cB0,cB1⟩:=x1.c2;go_wp2_with fail;clear cB0 cB1;go_loopw [27] (fun jv w2=>∃ j:Nat,jv=.int .i64 (j:Nat)∧j≤i∧Hid (twN ((l.take j).map aq.name) b.name=false)∧Below w1.heap.size w1 w2) (fun jv _=>i - (intOf jv).toNat)
   case atStart=>exact ⟨0,rfl,Nat.zero_le _,Qh rfl,aa w1⟩
   case round =>
    obtain ⟨j,rfl,hj,HT,hb2⟩:=hrel;rename World=>w2;have x2:=x1.below hb2 x1.lt;have bw2:=bw1.trans (hb2.mono bw1.size);obtain ⟨cB0,cB1⟩:=x2.c2;have hlw:wa.heap.size < w2.heap.size:=x2.lt;rcases Nat.lt_or_ge j i with hjl | hjg
    ·have hj1:((j:Int) < (i:Int))=True:=by simp;omega
     have hjn:j < n:=by omega
     obtain ⟨a,ha,hA⟩:=((HR.out.bd q1).bd hb2).rowAt hjn;obtain ⟨A2,n2,c2,d0,d1,hM2,hn2⟩:=hA;have hgw:g < w2.heap.size:=by have:=hb2.size;have:=q1.size;omega
     clear hM2 hn2;have hne1:¬ wa.heap.size=w2.heap.size:=by omega
     have hne2:¬ g=w2.heap.size:=by omega
     have htl:=aI b.name;by_cases heq:a.name=b.name
     ·have h6:x=6:=by
       have e6:bj (l.take i) b=6:=by
        unfold bj;rw [HV.out,if_neg (by decide),if_pos (gZ ha hjl heq)]
       rcases HS.out with ⟨z,_⟩ | ⟨_,z⟩
       ·rw [e6] at z;cases z
       rw [← z,e6]
      rw [heq] at d0;have hee:(b.name == b.name)=true:=by simp
      clear heq ha;go_wp2;go_ret;exact ⟨by rw [h6];rfl,bw2.alloc bw2.size _⟩
     have hta:=aI a.name;have HT2:=Qh (fJ ha HT.out heq);have hee:(a.name == b.name)=false:=beq_eq_false_iff_ne.2 heq;clear heq ha HT;go_wp2_with fail;go_roundw
     case rel=>exact ⟨j+1,by go_num,by omega,HT2,hb2.alloc hb2.size _⟩
     case measure=>simp [intOf];omega
    have hj1:((j:Int) < (i:Int))=False:=by simp;omega
    obtain rfl:j=i:=by omega
    clear cB0 cB1 c0 c1;have hlen':b.pts.length=n':=HM.out.1;by_cases h8:8 < n'
    ·have f8:((8:Int) < (n':Int))=True:=eq_true (by omega)
     have h4:x=4:=by
      have e4:bj (l.take j) b=4:=by
       unfold bj;rw [HV.out,if_neg (by decide),HT.out,if_neg (by decide),if_pos (by rw [hlen'];exact h8)]
      rcases HS.out with ⟨z,_⟩ | ⟨_,z⟩
      ·rw [e4] at z;cases z
      rw [← z,e4]
     obtain ⟨cB0,cB1⟩:=x2.c2;clear hlen';go_wp2;go_ret;exact ⟨by rw [h4];rfl,bw2⟩
    have f8:((8:Int) < (n':Int))=False:=eq_false (by omega);obtain ⟨y,hy⟩:∃ y,bQ bW [] b.pts=y:=⟨_,rfl⟩
    have HE:Hid (bj (l.take j) b=y):=Qh (by
     unfold bj;rw [HV.out,if_neg (by decide),HT.out,if_neg (by decide),if_neg (by rw [hlen'];exact h8)]
     exact hy)
    have HP:=Qh (dU hy);have HM2:=Qh ((HM.out.mk_ q1).mk_ hb2);obtain ⟨cB0,cB1⟩:=x2.c2;clear hy hlen' HV HT HM;go_wp2_with fail;clear cB0 cB1;go_loopw [46] (fun pv wr=>∃ p:Nat,pv=.int .i64 (p:Nat)∧p≤n'∧Hid (bQ bW (b.pts.take p) (b.pts.drop p)=y)∧Below w2.heap.size w2 wr) (fun pv _=>n' - (intOf pv).toNat)
    case atStart=>exact ⟨0,rfl,Nat.zero_le _,HP,aa w2⟩
    case round =>
     clear HP;obtain ⟨p,rfl,hp,HP,hb3⟩:=hrel;rename World=>w3;have x3:=x2.below hb3 x2.lt;have bw3:=bw2.trans (hb3.mono bw2.size);have hlw3:wa.heap.size < w3.heap.size:=x3.lt;rcases Nat.lt_or_ge p n' with hpl | hpg
     ·have hp1:((p:Int) < (n':Int))=True:=by simp;omega
      obtain ⟨g',o',m,e,hg',_,hmp,hMk⟩:=(HM2.out.mk_ hb3).at_ hpl;subst e;have hst:=eN HP.out hmp;obtain ⟨d0,⟨b1,A1,n1,c1,D1,m1,e1,d1,d2,d3,hQ1⟩,⟨b2,A2,n2,c2,D2,m2,e2,d4,d5,d6,hQ2⟩,hmn⟩:=hMk;have d2:w3.cell? ⟨g',o'+p * 7+2,none⟩=some (.slice A1 n1 c1):=d2;have d3:w3.cell? ⟨g',o'+p * 7+3,none⟩=some (.slice D1 m1 e1):=d3;have d5:w3.cell? ⟨g',o'+p * 7+5,none⟩=some (.slice A2 n2 c2):=d5;have d6:w3.cell? ⟨g',o'+p * 7+6,none⟩=some (.slice D2 m2 e2):=d6;obtain ⟨cC0,cC1⟩:=x3.c2;have HST:=Qh hst;have HQ1:=Qh hQ1;have HQ2:=Qh hQ2;have HMN:=Qh hmn;have HMP:=Qh hmp;have HM3:=Qh (HM2.out.mk_ hb3);obtain ⟨v,hv⟩:∃ v,bI m.name=v:=⟨_,rfl⟩;have HV:=Qh hv;clear hst hQ1 hQ2 hmn hmp hv HM2 HP;go_wp2_with fail;(with_reducible refine (iA _ m.name HMN.out v HV.out).mono ?_);rintro e w4 ⟨rfl,hb4⟩;have q4:=hb4.q1;have x4:Blk w4 w3.heap.size 67 #[af m.name,.bool b1,.slice A1 n1 c1,.slice D1 m1 e1,.bool b2,.slice A2 n2 c2,.slice D2 m2 e2]:=(am _ _ _ (by simp)).below hb4 (by simp);have x3b:=x3.below q4 x3.lt;have bw4:=bw3.trans (q4.mono bw3.size);clear hb4 d0 d1 d2 d3 d4 d5 d6 cC0 cC1
      have hxy:∀ z:Int,z≠0→bW (b.pts.take p) m=z→x=z:=fun z hz hm=>by
       have hy:y=z:=by
        rcases HST.out with ⟨u,_⟩ | ⟨_,u⟩
        ·exact absurd (hm.symm.trans u) hz
        exact u.symm.trans hm
       rcases HS.out with ⟨u,_⟩ | ⟨_,u⟩
       ·exact absurd (hy.symm.trans (HE.out.symm.trans u)) hz
       rw [← u,HE.out,hy]
      cases v
      ·have h5:x=5:=hxy 5 (by decide) (if_pos HV.out)
       clear hxy;go_wp2;go_ret;exact ⟨by rw [h5];rfl,bw4⟩
      have HXY:=Qh hxy;clear hxy;obtain ⟨cC0,cC1⟩:=x3b.c2;go_wp2_with fail;clear cC0 cC1;go_loopw [61] (fun jv wr=>∃ r:Nat,jv=.int .i64 (r:Nat)∧r≤p∧Hid (twN ((b.pts.take r).map aA.name) m.name=false)∧Below w4.heap.size w4 wr) (fun jv _=>p - (intOf jv).toNat)
      case atStart=>exact ⟨0,rfl,Nat.zero_le _,Qh rfl,aa w4⟩
      case round =>
       obtain ⟨r,rfl,hr,HT,hb5⟩:=hrel;rename World=>w5;have x5:=x4.below hb5 x4.lt;have bw5:=bw4.trans (hb5.mono bw4.size);have cD0:=x5.cell 0;have hlw5:w3.heap.size < w5.heap.size:=x5.lt;rcases Nat.lt_or_ge r p with hrl | hrg
       ·have hr1:((r:Int) < (p:Int))=True:=by simp;omega
        have hrn:r < n':=by omega
        obtain ⟨a,ha,hA⟩:=((HM3.out.mk_ q4).mk_ hb5).rowAt hrn;obtain ⟨d0,⟨b3,A3,n3,c3,D3,m3,e3,d1,d2,d3,hQ3⟩,⟨b4,A4,n4,c4,D4,m4,e4,d4,d5,d6,hQ4⟩,hmn3⟩:=hA;have hgw:g' < w5.heap.size:=by have:=hb5.size;have:=q4.size;omega
        have d2:w5.cell? ⟨g',o'+r * 7+2,none⟩=some (.slice A3 n3 c3):=d2;have d3:w5.cell? ⟨g',o'+r * 7+3,none⟩=some (.slice D3 m3 e3):=d3;have d5:w5.cell? ⟨g',o'+r * 7+5,none⟩=some (.slice A4 n4 c4):=d5;have d6:w5.cell? ⟨g',o'+r * 7+6,none⟩=some (.slice D4 m4 e4):=d6;clear hQ3 hQ4 hmn3;have hne1:¬ w3.heap.size=w5.heap.size:=by omega
        have hne2:¬ g'=w5.heap.size:=by omega
        have htl:=aI m.name;by_cases heq:a.name=m.name
        ·have h6:x=6:=HXY.out 6 (by decide) (by
          unfold bW
          rw [HV.out,if_neg (by decide),if_pos (gZ ha hrl heq)])
         rw [heq] at d0;have hee:(m.name == m.name)=true:=by simp
         clear heq ha;go_wp2;go_ret;exact ⟨by rw [h6];rfl,bw5.alloc bw5.size _⟩
        have hta:=aI a.name;have HT2:=Qh (fJ ha HT.out heq);have hee:(a.name == m.name)=false:=beq_eq_false_iff_ne.2 heq;clear heq ha HT;go_wp2_with fail;go_roundw
        case rel=>exact ⟨r+1,by go_num,by omega,HT2,hb5.alloc hb5.size _⟩
        case measure=>simp [intOf];omega
       have hr1:((r:Int) < (p:Int))=False:=by simp;omega
       obtain rfl:r=p:=by omega
       have cD1:=x5.cell 1;have cD2:=x5.cell 2;have cD3:=x5.cell 3;obtain ⟨v1,hv1⟩:∃ v,m.x.ok=v:=⟨_,rfl⟩;obtain ⟨v2,hv2⟩:∃ v,m.y.ok=v:=⟨_,rfl⟩;have HV1:=Qh hv1;have HV2:=Qh hv2;clear hv1 hv2;go_wp2_with fail;(with_reducible refine (eK _ b1 A1 n1 c1 D1 m1 e1 m.x k v1 ((HQ1.out.belw q4).belw hb5) hk HV1.out).mono ?_);rintro e w6 ⟨rfl,hb6⟩;have x6:=x5.below hb6 x5.lt;have bw6:=bw5.trans (hb6.mono bw5.size);clear cD0 cD1 cD2 cD3
       have hE3:v1=false∨v2=false→bW (b.pts.take r) m=3:=fun hh=>by
        unfold bW;rw [HV.out,if_neg (by decide),HT.out,if_neg (by decide),HV1.out,HV2.out];rcases hh with e | e
        ·rw [e,if_pos rfl]
        rw [e];cases v1
        ·rfl
        rfl
       have HE3:=Qh hE3;clear hE3;cases v1
       ·have h3:x=3:=HXY.out 3 (by decide) (HE3.out (.inl rfl))
        go_wp2;go_ret;exact ⟨by rw [h3];rfl,bw6⟩
       have cE4:=x6.cell 4;have cE5:=x6.cell 5;have cE6:=x6.cell 6;have hlw6:w3.heap.size < w6.heap.size:=x6.lt;go_wp2_with fail;(with_reducible refine (eK _ b2 A2 n2 c2 D2 m2 e2 m.y k v2 (((HQ2.out.belw q4).belw hb5).belw hb6) hk HV2.out).mono ?_);rintro e w7 ⟨rfl,hb7⟩;have bw7:=bw6.trans (hb7.mono bw6.size);have hb37:Below w2.heap.size w2 w7:=(((hb3.trans (q4.mono hb3.size)).trans (hb5.mono (Nat.le_trans hb3.size q4.size))).trans (hb6.mono (Nat.le_trans (Nat.le_trans hb3.size q4.size) hb5.size))).trans (hb7.mono (Nat.le_trans (Nat.le_trans (Nat.le_trans hb3.size q4.size) hb5.size) hb6.size));clear cE4 cE5 cE6;cases v2
       ·have h3:x=3:=HXY.out 3 (by decide) (HE3.out (.inr rfl))
        go_wp2;go_ret;exact ⟨by rw [h3];rfl,bw7⟩
       ·have h0:bW (b.pts.take r) m=0:=by
         unfold bW;rw [HV.out,if_neg (by decide),HT.out,if_neg (by decide),HV1.out,HV2.out];rfl
        have HP2:Hid (bQ bW (b.pts.take (r+1)) (b.pts.drop (r+1))=y):=Qh (by
         rcases HST.out with ⟨_,u⟩ | ⟨u,_⟩
         ·exact u
         exact absurd h0 u)
        clear h0;go_wp2_with fail;go_roundw
        case rel=>exact ⟨r+1,by go_num,by omega,HP2,hb37⟩
        case measure=>simp [intOf];omega
     have hp1:((p:Int) < (n':Int))=False:=by simp;omega
     have hy0:y=0:=fH HP.out (by rw [HM2.out.1];exact hpg)
     have HX2:Hid (bQ bj (l.take (j+1)) (l.drop (j+1))=x):=Qh (by
      rcases HS.out with ⟨_,u⟩ | ⟨u,_⟩
      ·exact u
      exact absurd (HE.out.trans hy0) u)
     clear hy0;go_wp2_with fail;go_roundw
     case rel=>exact ⟨j+1,by go_num,by omega,HX2,bw3⟩
     case measure=>simp [intOf];omega
  have hi1:((i:Int) < (n:Int))=False:=by simp;omega
  have hx0:x=0:=fH HX.out (by rw [h.1];exact hge);go_wp2;go_ret;exact ⟨by rw [hx0];rfl,hb⟩
theorem iC {i:Int}{n:Nat}(h:inI i n=true):∃ m:Nat,i=(m:Int)∧m < n:=by
 unfold inI at h;simp only [Bool.and_eq_true,decide_eq_true_eq] at h;exact ⟨i.toNat,by omega,by omega⟩
theorem o5 (w:World) (A:Option Addr) (n c:Nat) (B:Option Addr) (p d:Nat) (C:Option Addr) (q e:Nat) (nm:List UInt8) (j:aQ) (h:j.kind≠0∧j.kind≠1) :
 Calls Tryz.prog 113 #[.agg #[af nm,.slice A n c,.slice B p d,.slice C q e],.agg #[af j.name,.int .i64 j.kind,.int .i64 j.a,.int .i64 j.point,.int .i64 j.b,.int .i64 j.on,.int .i64 j.to_]] w (aE w (ba 7)):=by
 have e0:(j.kind == 0)=false:=beq_eq_false_iff_ne.2 h.1;have e1:(j.kind == 1)=false:=beq_eq_false_iff_ne.2 h.2;have e2:(j.kind != 0)=true:=bne_iff_ne.2 h.1;have e3:(j.kind != 1)=true:=bne_iff_ne.2 h.2;clear h;go_in;go_wp2;go_ret;exact ⟨rfl,(((aa w).alloc Qr _).alloc (by simp) _)⟩
theorem o6 (w:World) (A:Option Addr) (n c:Nat) (B:Option Addr) (p d:Nat) (C:Option Addr) (q e:Nat) (nm:List UInt8) (j:aQ) (L:aj) (k:Nat) (h:SlS (du k) 2 w A n c L.bodies) (hk:k≤10000000) (hk1:0 < k) (hn:n≤1000) (hk0:j.kind=0) (x:Int) (hx:bJ L j=x) :
 Calls Tryz.prog 113 #[.agg #[af nm,.slice A n c,.slice B p d,.slice C q e],.agg #[af j.name,.int .i64 j.kind,.int .i64 j.a,.int .i64 j.point,.int .i64 j.b,.int .i64 j.on,.int .i64 j.to_]] w (aE w (ba x)):=by
 have e0:(j.kind == 0)=true:=beq_iff_eq.2 hk0;have e2:(j.kind != 0)=false:=by rw [hk0];rfl
 have hln:=h.1;have HX:=Qh hx;have HK:=Qh (show ¬ (j.kind≠0∧j.kind≠1) by rw [hk0];decide);have HK0:=Qh hk0;have H:=Qh h;have HL:=Qh hln;obtain ⟨v1,hv1⟩:∃ v,inI j.a n=v:=⟨_,rfl⟩;obtain ⟨v2,hv2⟩:∃ v,inI j.b n=v:=⟨_,rfl⟩;have HV1:=Qh hv1;have HV2:=Qh hv2;clear hx hk0 h hln hv1 hv2;go_in;go_wp2_with fail;(with_reducible refine (o4 _ j.a n v1 HV1.out).mono ?_);rintro e' w1 ⟨rfl,hb1⟩;have q1:=hb1.q2;have x1:Blk w1 w.heap.size 36 #[af nm,.slice A n c,.slice B p d,.slice C q e]:=((am _ _ _ (by simp)).alloc _).below hb1 (by simp <;> omega);have y1:Blk w1 (w.heap.size+1) 79 #[af j.name,.int .i64 j.kind,.int .i64 j.a,.int .i64 j.point,.int .i64 j.b,.int .i64 j.on,.int .i64 j.to_]:=(am _ _ _ (by simp)).below hb1 (by simp);clear hb1;cases v1
 ·have h9:x=9:=by rw [← HX.out];unfold bJ;rw [if_neg HK.out,HL.out,if_pos HV1.out]
  go_wp2;go_ret;exact ⟨by rw [h9];rfl,q1⟩
 have cx1:=x1.cell 1;have cy2:=y1.cell 2;have cy4:=y1.cell 4;go_wp2_with fail;(with_reducible refine (o4 _ j.b n v2 HV2.out).mono ?_);rintro e' w2 ⟨rfl,hb2⟩;have q2:=q1.trans (hb2.mono q1.size);have x2:=x1.below hb2 x1.lt;have y2:=y1.below hb2 y1.lt;clear cx1 cy2 cy4 hb2 x1 y1;cases v2
 ·have h9:x=9:=by rw [← HX.out];unfold bJ;rw [if_neg HK.out,HL.out,if_neg (by rw [HV1.out];decide),if_pos HV2.out]
  go_wp2;go_ret;exact ⟨by rw [h9];rfl,q2⟩
 obtain ⟨an,han,hal⟩:=iC HV1.out;obtain ⟨bn,hbn,hbl⟩:=iC HV2.out;have HA:=Qh han;have HBN:=Qh hbn;have cx1:=x2.cell 1;have cy1:=y2.cell 1;have cy2:=y2.cell 2;have cy3:=y2.cell 3;have cy4:=y2.cell 4;have cy5:=y2.cell 5;have cy6:=y2.cell 6;rw [han] at cy2;rw [hbn] at cy4;clear han hbn;by_cases hab:an=bn
 ·have h13:x=13:=by
   rw [← HX.out];unfold bJ;rw [if_neg HK.out,HL.out,if_neg (by rw [HV1.out];decide),if_neg (by rw [HV2.out];decide),if_pos (by rw [HA.out,HBN.out,hab])]
  subst hab;go_wp2;go_ret;exact ⟨by rw [h13];rfl,q2⟩
 have eab:((an:Int) == (bn:Int))=false:=beq_eq_false_iff_ne.2 (by omega);obtain ⟨g,o,bb,e1',hg,hnc,hbb,hBb⟩:=(H.out.bd q2).at_ hbl;subst e1';obtain ⟨ab,hab',hAb⟩:=(H.out.bd q2).rowAt hal;obtain ⟨Ab,nb,cb,k0,k1,hMb,_⟩:=hBb;obtain ⟨Aa,na,ca,l0,l1,hMa,_⟩:=hAb;have hpa:cK L j.a=ab.pts:=by unfold cK;rw [HA.out];show (match L.bodies[an]? with | some b=>b.pts | none=>[])=_;rw [hab']
 have hpb:cK L j.b=bb.pts:=by unfold cK;rw [HBN.out];show (match L.bodies[bn]? with | some b=>b.pts | none=>[])=_;rw [hbb]
 have hla:=hMa.1;have hlb:=hMb.1;have hbn2:((bn:Nat):Int) < ((n:Nat):Int):=by omega
 have han2:((an:Nat):Int) < ((n:Nat):Int):=by omega
 obtain ⟨v3,hv3⟩:∃ v,inI j.point na=v:=⟨_,rfl⟩;obtain ⟨v4,hv4⟩:∃ v,inI j.on nb=v:=⟨_,rfl⟩;have HV3:=Qh hv3;have HV4:=Qh hv4;have HMB:=Qh hMb;have HPA:=Qh hpa;have HPB:=Qh hpb;have HLA:=Qh hla;have HLB:=Qh hlb;have HAB:=Qh (show ¬ j.a=j.b by rw [HA.out,HBN.out];omega);clear hv3 hv4 hMb hMa hpa hpb hla hlb hbb hab' hab;go_wp2_with fail;cases v3
 ·have h9:x=9:=by
   rw [← HX.out];unfold bJ;rw [if_neg HK.out,HL.out,if_neg (by rw [HV1.out];decide),if_neg (by rw [HV2.out];decide),if_neg HAB.out,HPA.out,HLA.out,if_pos HV3.out]
  go_quiet ((go_at_call 114;exact Calls.quiet_of_same (cE _ j.point na false HV3.out)));go_wp2;go_ret;exact ⟨by rw [h9];rfl,ae q2 _⟩
 cases v4
 ·have h9:x=9:=by
   rw [← HX.out];unfold bJ;rw [if_neg HK.out,HL.out,if_neg (by rw [HV1.out];decide),if_neg (by rw [HV2.out];decide),if_neg HAB.out,HPA.out,HLA.out,if_neg (by rw [HV3.out];decide),HPB.out,HLB.out,if_pos HV4.out]
  go_quiet ((go_at_call 114;first | with_reducible exact Calls.quiet_of_same (cE _ j.point na true HV3.out) | with_reducible exact Calls.quiet_of_same (cE _ j.on nb false HV4.out) | fail));go_wp2;go_ret;exact ⟨by rw [h9];rfl,ae q2 _⟩
 have hX2:x=(if j.kind=0 then (if j.to_=0 then 0 else 2) else if inI j.to_ nb=false then 9 else if fK bb.pts j.on j.to_=true then 8 else 0):=by
  rw [← HX.out];unfold bJ;rw [if_neg HK.out,HL.out,if_neg (by rw [HV1.out];decide),if_neg (by rw [HV2.out];decide),if_neg HAB.out,HPA.out,HLA.out,if_neg (by rw [HV3.out];decide),HPB.out,HLB.out,if_neg (by rw [HV4.out];decide)]
 have HX2:=Qh hX2;clear hX2;by_cases hto:j.to_=0
 ·have hx:x=0:=by rw [HX2.out,if_pos HK0.out,if_pos hto]
  have t0:(j.to_ == 0)=true:=beq_iff_eq.2 hto;have t1:(j.to_ != 0)=false:=by rw [hto];rfl
  clear hto;go_quiet ((go_at_call 114;first | with_reducible exact Calls.quiet_of_same (cE _ j.point na true HV3.out) | with_reducible exact Calls.quiet_of_same (cE _ j.on nb true HV4.out) | fail));go_wp2;go_ret;exact ⟨by rw [hx];rfl,ae q2 _⟩
 have hx:x=2:=by rw [HX2.out,if_pos HK0.out,if_neg hto]
 have t0:(j.to_ == 0)=false:=beq_eq_false_iff_ne.2 hto;have t1:(j.to_ != 0)=true:=bne_iff_ne.2 hto;clear hto;go_quiet ((go_at_call 114;first | with_reducible exact Calls.quiet_of_same (cE _ j.point na true HV3.out) | with_reducible exact Calls.quiet_of_same (cE _ j.on nb true HV4.out) | fail));go_wp2;go_ret;exact ⟨by rw [hx];rfl,ae q2 _⟩
theorem o7 (w:World) (A:Option Addr) (n c:Nat) (B:Option Addr) (p d:Nat) (C:Option Addr) (q e:Nat) (nm:List UInt8) (j:aQ) (L:aj) (k:Nat) (h:SlS (du k) 2 w A n c L.bodies) (hk:k≤10000000) (hk1:0 < k) (hn:n≤1000) (hk0:j.kind=1) (x:Int) (hx:bJ L j=x) :
 Calls Tryz.prog 113 #[.agg #[af nm,.slice A n c,.slice B p d,.slice C q e],.agg #[af j.name,.int .i64 j.kind,.int .i64 j.a,.int .i64 j.point,.int .i64 j.b,.int .i64 j.on,.int .i64 j.to_]] w (aE w (ba x)):=by
 have e0:(j.kind == 0)=false:=beq_eq_false_iff_ne.2 (by rw [hk0];decide);have e2:(j.kind != 0)=true:=by rw [hk0];rfl
 have e1:(j.kind == 1)=true:=beq_iff_eq.2 hk0;have e3:(j.kind != 1)=false:=by rw [hk0];rfl
 have hln:=h.1;have HX:=Qh hx;have HK:=Qh (show ¬ (j.kind≠0∧j.kind≠1) by rw [hk0];decide);have HK0:=Qh hk0;have H:=Qh h;have HL:=Qh hln;obtain ⟨v1,hv1⟩:∃ v,inI j.a n=v:=⟨_,rfl⟩;obtain ⟨v2,hv2⟩:∃ v,inI j.b n=v:=⟨_,rfl⟩;have HV1:=Qh hv1;have HV2:=Qh hv2;clear hx hk0 h hln hv1 hv2;go_in;go_wp2_with fail;(with_reducible refine (o4 _ j.a n v1 HV1.out).mono ?_);rintro e' w1 ⟨rfl,hb1⟩;have q1:=hb1.q2;have x1:Blk w1 w.heap.size 36 #[af nm,.slice A n c,.slice B p d,.slice C q e]:=((am _ _ _ (by simp)).alloc _).below hb1 (by simp <;> omega);have y1:Blk w1 (w.heap.size+1) 79 #[af j.name,.int .i64 j.kind,.int .i64 j.a,.int .i64 j.point,.int .i64 j.b,.int .i64 j.on,.int .i64 j.to_]:=(am _ _ _ (by simp)).below hb1 (by simp);clear hb1;cases v1
 ·have h9:x=9:=by rw [← HX.out];unfold bJ;rw [if_neg HK.out,HL.out,if_pos HV1.out]
  go_wp2;go_ret;exact ⟨by rw [h9];rfl,q1⟩
 have cx1:=x1.cell 1;have cy2:=y1.cell 2;have cy4:=y1.cell 4;go_wp2_with fail;(with_reducible refine (o4 _ j.b n v2 HV2.out).mono ?_);rintro e' w2 ⟨rfl,hb2⟩;have q2:=q1.trans (hb2.mono q1.size);have x2:=x1.below hb2 x1.lt;have y2:=y1.below hb2 y1.lt;clear cx1 cy2 cy4 hb2 x1 y1;cases v2
 ·have h9:x=9:=by rw [← HX.out];unfold bJ;rw [if_neg HK.out,HL.out,if_neg (by rw [HV1.out];decide),if_pos HV2.out]
  go_wp2;go_ret;exact ⟨by rw [h9];rfl,q2⟩
 obtain ⟨an,han,hal⟩:=iC HV1.out;obtain ⟨bn,hbn,hbl⟩:=iC HV2.out;have HA:=Qh han;have HBN:=Qh hbn;have cx1:=x2.cell 1;have cy1:=y2.cell 1;have cy2:=y2.cell 2;have cy3:=y2.cell 3;have cy4:=y2.cell 4;have cy5:=y2.cell 5;have cy6:=y2.cell 6;rw [han] at cy2;rw [hbn] at cy4;clear han hbn;by_cases hab:an=bn
 ·have h13:x=13:=by
   rw [← HX.out];unfold bJ;rw [if_neg HK.out,HL.out,if_neg (by rw [HV1.out];decide),if_neg (by rw [HV2.out];decide),if_pos (by rw [HA.out,HBN.out,hab])]
  subst hab;go_wp2;go_ret;exact ⟨by rw [h13];rfl,q2⟩
 have eab:((an:Int) == (bn:Int))=false:=beq_eq_false_iff_ne.2 (by omega);obtain ⟨g,o,bb,e1',hg,hnc,hbb,hBb⟩:=(H.out.bd q2).at_ hbl;subst e1';obtain ⟨ab,hab',hAb⟩:=(H.out.bd q2).rowAt hal;obtain ⟨Ab,nb,cb,k0,k1,hMb,_⟩:=hBb;obtain ⟨Aa,na,ca,l0,l1,hMa,_⟩:=hAb;have hpa:cK L j.a=ab.pts:=by unfold cK;rw [HA.out];show (match L.bodies[an]? with | some b=>b.pts | none=>[])=_;rw [hab']
 have hpb:cK L j.b=bb.pts:=by unfold cK;rw [HBN.out];show (match L.bodies[bn]? with | some b=>b.pts | none=>[])=_;rw [hbb]
 have hla:=hMa.1;have hlb:=hMb.1;have hbn2:((bn:Nat):Int) < ((n:Nat):Int):=by omega
 have han2:((an:Nat):Int) < ((n:Nat):Int):=by omega
 obtain ⟨v3,hv3⟩:∃ v,inI j.point na=v:=⟨_,rfl⟩;obtain ⟨v4,hv4⟩:∃ v,inI j.on nb=v:=⟨_,rfl⟩;have HV3:=Qh hv3;have HV4:=Qh hv4;have HMB:=Qh hMb;have HPA:=Qh hpa;have HPB:=Qh hpb;have HLA:=Qh hla;have HLB:=Qh hlb;have HAB:=Qh (show ¬ j.a=j.b by rw [HA.out,HBN.out];omega);clear hv3 hv4 hMb hMa hpa hpb hla hlb hbb hab' hab;go_wp2_with fail;cases v3
 ·have h9:x=9:=by
   rw [← HX.out];unfold bJ;rw [if_neg HK.out,HL.out,if_neg (by rw [HV1.out];decide),if_neg (by rw [HV2.out];decide),if_neg HAB.out,HPA.out,HLA.out,if_pos HV3.out]
  go_quiet ((go_at_call 114;exact Calls.quiet_of_same (cE _ j.point na false HV3.out)));go_wp2;go_ret;exact ⟨by rw [h9];rfl,ae q2 _⟩
 cases v4
 ·have h9:x=9:=by
   rw [← HX.out];unfold bJ;rw [if_neg HK.out,HL.out,if_neg (by rw [HV1.out];decide),if_neg (by rw [HV2.out];decide),if_neg HAB.out,HPA.out,HLA.out,if_neg (by rw [HV3.out];decide),HPB.out,HLB.out,if_pos HV4.out]
  go_quiet ((go_at_call 114;first | with_reducible exact Calls.quiet_of_same (cE _ j.point na true HV3.out) | with_reducible exact Calls.quiet_of_same (cE _ j.on nb false HV4.out) | fail));go_wp2;go_ret;exact ⟨by rw [h9];rfl,ae q2 _⟩
 have hX2:x=(if j.kind=0 then (if j.to_=0 then 0 else 2) else if inI j.to_ nb=false then 9 else if fK bb.pts j.on j.to_=true then 8 else 0):=by
  rw [← HX.out];unfold bJ;rw [if_neg HK.out,HL.out,if_neg (by rw [HV1.out];decide),if_neg (by rw [HV2.out];decide),if_neg HAB.out,HPA.out,HLA.out,if_neg (by rw [HV3.out];decide),HPB.out,HLB.out,if_neg (by rw [HV4.out];decide)]
 have HX2:=Qh hX2;clear hX2;obtain ⟨v5,hv5⟩:∃ v,inI j.to_ nb=v:=⟨_,rfl⟩;have HV5:=Qh hv5;clear hv5;go_quiet ((go_at_call 114;first | with_reducible exact Calls.quiet_of_same (cE _ j.point na true HV3.out) | with_reducible exact Calls.quiet_of_same (cE _ j.on nb true HV4.out) | fail));go_wp2_with fail;(with_reducible refine (o4 _ j.to_ nb v5 HV5.out).mono ?_);rintro e' w3 ⟨rfl,hb3⟩;have q23:Below w2.heap.size w2 w3:=ag (ae (aa _) _) hb3;have q3:=q2.trans (q23.mono q2.size);have x3:=x2.below q23 x2.lt;have y3:=y2.below q23 y2.lt;clear cx1 cy1 cy2 cy3 cy4 cy5 cy6 k0 k1 l0 l1 hb3 x2 y2;cases v5
 ·have hx:x=9:=by rw [HX2.out,if_neg (by rw [HK0.out];decide),if_pos HV5.out]
  go_wp2;go_ret;exact ⟨by rw [hx];rfl,q3⟩
 obtain ⟨on,hon,honl⟩:=iC HV4.out;obtain ⟨tn,htn,htnl⟩:=iC HV5.out;have cy5:=y3.cell 5;have cy6:=y3.cell 6;rw [hon] at cy5;rw [htn] at cy6;obtain ⟨g',o',m,e2',hg',hnc',hm,hM⟩:=(HMB.out.mk_ q23).at_ honl;subst e2';obtain ⟨m',hm',hM'⟩:=(HMB.out.mk_ q23).rowAt htnl;obtain ⟨d0,⟨b1,A1,n1,c1,D1,m1,e1,d1,d2,d3,hQ1⟩,⟨b2,A2,n2,c2,D2,m2,f2,d4,d5,d6,hQ2⟩,_⟩:=hM;obtain ⟨z0,⟨b3,A3,n3,c3,D3,m3,f3,z1,z2,z3,hQ3⟩,⟨b4,A4,n4,c4,D4,m4,f4,z4,z5,z6,hQ4⟩,_⟩:=hM';have d2:w3.cell? ⟨g',o'+on * 7+2,none⟩=some (.slice A1 n1 c1):=d2;have d3:w3.cell? ⟨g',o'+on * 7+3,none⟩=some (.slice D1 m1 e1):=d3;have d5:w3.cell? ⟨g',o'+on * 7+5,none⟩=some (.slice A2 n2 c2):=d5;have d6:w3.cell? ⟨g',o'+on * 7+6,none⟩=some (.slice D2 m2 f2):=d6;have z2:w3.cell? ⟨g',o'+tn * 7+2,none⟩=some (.slice A3 n3 c3):=z2;have z3:w3.cell? ⟨g',o'+tn * 7+3,none⟩=some (.slice D3 m3 f3):=z3;have z5:w3.cell? ⟨g',o'+tn * 7+5,none⟩=some (.slice A4 n4 c4):=z5;have z6:w3.cell? ⟨g',o'+tn * 7+6,none⟩=some (.slice D4 m4 f4):=z6
 have hpe:fK bb.pts j.on j.to_=(decide (m.x.q=m'.x.q) && decide (m.y.q=m'.y.q)):=by
  unfold fK;rw [hon,htn];show (match bb.pts[on]?,bb.pts[tn]? with | some p,some q=>decide (p.x.q=q.x.q) && decide (p.y.q=q.y.q) | _,_=>false)=_;rw [hm,hm']
 have HPE:=Qh hpe;have HQ1:=Qh hQ1;have HQ2:=Qh hQ2;have HQ3:=Qh hQ3;have HQ4:=Qh hQ4;have hon2:((on:Nat):Int) < ((nb:Nat):Int):=by omega
 have htn2:((tn:Nat):Int) < ((nb:Nat):Int):=by omega
 obtain ⟨s1,hs1⟩:∃ s,mw m.x.q m'.x.q=s:=⟨_,rfl⟩;obtain ⟨s2,hs2⟩:∃ s,mw m.y.q m'.y.q=s:=⟨_,rfl⟩;have HS1:=Qh hs1;have HS2:=Qh hs2;have hl1:w.heap.size < w3.heap.size:=x3.lt;have hl2:w.heap.size+1 < w3.heap.size:=y3.lt;clear hpe hQ1 hQ2 hQ3 hQ4 hs1 hs2 hm hm' hon htn;go_wp2_with fail
 have hz:∀ z:Bool,(decide (m.x.q=m'.x.q) && decide (m.y.q=m'.y.q))=z→x=if z=true then 8 else 0:=fun z hz=>by
  rw [HX2.out,if_neg (by rw [HK0.out];decide),if_neg (by rw [HV5.out];decide),HPE.out,hz]
 have HZ:=Qh hz;clear hz;go_region
 ·go_wp2_with fail
  (with_reducible refine (gY _ b1 A1 n1 c1 D1 m1 e1 m.x.q k ?_ b3 A3 n3 c3 D3 m3 f3 m'.x.q k ?_ s1 HS1.out hk1 (by omega) hk1 (by omega)).mono ?_);(exact ((HQ1.out.qz).belw (ae ((((aa _).alloc Qr _).alloc (by simp) _)) 1)));(exact ((HQ3.out.qz).belw (ae ((((aa _).alloc Qr _).alloc (by simp) _)) 1)));rintro e' w4 ⟨rfl,hb4⟩;have xa:=(((am _ _ _ (g:=w3.heap.size) (by simp)).alloc _).drew).below hb4 (by simp <;> omega);have xb:=((am _ _ _ (g:=w3.heap.size+1) (by simp)).drew).below hb4 (by simp <;> omega);have q4:Below w3.heap.size w3 w4:=(ae ((((aa w3).alloc Qr _).alloc (by simp) _)) 1).trans (hb4.mono (by simp <;> omega));have q24:=q3.trans (q4.mono q3.size);have hla:w3.heap.size < w4.heap.size:=xa.lt;have hlb:w3.heap.size+1 < w4.heap.size:=xb.lt;by_cases hs1:s1=0
  ·have es:(s1 == 0)=true:=beq_iff_eq.2 hs1
   have hqx:m.x.q=m'.x.q:=ce.1 (HS1.out.trans hs1);have HQX:=Qh hqx;clear hs1 hqx;have ca4:=xa.cell 4;have ca5:=xa.cell 5;have ca6:=xa.cell 6;have cb4:=xb.cell 4;have cb5:=xb.cell 5;have cb6:=xb.cell 6;go_wp2_with fail;(with_reducible refine (gY _ b2 A2 n2 c2 D2 m2 f2 m.y.q k ?_ b4 A4 n4 c4 D4 m4 f4 m'.y.q k ?_ s2 HS2.out hk1 (by omega) hk1 (by omega)).mono ?_);(exact (HQ2.out.qz).belw q4);(exact (HQ4.out.qz).belw q4);rintro e' w5 ⟨rfl,hb5⟩;have q5:=q24.trans (hb5.mono q24.size);clear ca4 ca5 ca6 cb4 cb5 cb6;by_cases hs2:s2=0
   ·have es2:(s2 == 0)=true:=beq_iff_eq.2 hs2
    have hqy:m.y.q=m'.y.q:=ce.1 (HS2.out.trans hs2);have h8:x=8:=HZ.out true (by rw [decide_eq_true HQX.out,decide_eq_true hqy];rfl);clear hs2 hqy;go_wp2;go_ret;exact ⟨by rw [h8];rfl,q5⟩
   have es2:(s2 == 0)=false:=beq_eq_false_iff_ne.2 hs2;have h0:x=0:=HZ.out false (by rw [decide_eq_false (fun e=>hs2 (HS2.out.symm.trans (ce.2 e)))];simp);clear hs2;go_wp2;go_ret;exact ⟨by rw [h0];rfl,q5⟩
  have es:(s1 == 0)=false:=beq_eq_false_iff_ne.2 hs1;have h0:x=0:=HZ.out false (by rw [decide_eq_false (fun e=>hs1 (HS1.out.symm.trans (ce.2 e)))];rfl);clear hs1;go_wp2;go_ret;exact ⟨by rw [h0];rfl,q24⟩
 go_wp2_with fail;(with_reducible refine (gY _ b1 A1 n1 c1 D1 m1 e1 m.x.q k ?_ b3 A3 n3 c3 D3 m3 f3 m'.x.q k ?_ s1 HS1.out hk1 (by omega) hk1 (by omega)).mono ?_);(exact ((HQ1.out.qz).belw (ae ((((aa _).alloc Qr _).alloc (by simp) _)) 1)));(exact ((HQ3.out.qz).belw (ae ((((aa _).alloc Qr _).alloc (by simp) _)) 1)));rintro e' w4 ⟨rfl,hb4⟩;have xa:=(((am _ _ _ (g:=w3.heap.size) (by simp)).alloc _).drew).below hb4 (by simp <;> omega);have xb:=((am _ _ _ (g:=w3.heap.size+1) (by simp)).drew).below hb4 (by simp <;> omega);have q4:Below w3.heap.size w3 w4:=(ae ((((aa w3).alloc Qr _).alloc (by simp) _)) 1).trans (hb4.mono (by simp <;> omega));have q24:=q3.trans (q4.mono q3.size);have hla:w3.heap.size < w4.heap.size:=xa.lt;have hlb:w3.heap.size+1 < w4.heap.size:=xb.lt;by_cases hs1:s1=0
 ·have es:(s1 == 0)=true:=beq_iff_eq.2 hs1
  have hqx:m.x.q=m'.x.q:=ce.1 (HS1.out.trans hs1);have HQX:=Qh hqx;clear hs1 hqx;have ca4:=xa.cell 4;have ca5:=xa.cell 5;have ca6:=xa.cell 6;have cb4:=xb.cell 4;have cb5:=xb.cell 5;have cb6:=xb.cell 6;go_wp2_with fail;(with_reducible refine (gY _ b2 A2 n2 c2 D2 m2 f2 m.y.q k ?_ b4 A4 n4 c4 D4 m4 f4 m'.y.q k ?_ s2 HS2.out hk1 (by omega) hk1 (by omega)).mono ?_);(exact (HQ2.out.qz).belw q4);(exact (HQ4.out.qz).belw q4);rintro e' w5 ⟨rfl,hb5⟩;have q5:=q24.trans (hb5.mono q24.size);clear ca4 ca5 ca6 cb4 cb5 cb6;by_cases hs2:s2=0
  ·have es2:(s2 == 0)=true:=beq_iff_eq.2 hs2
   have hqy:m.y.q=m'.y.q:=ce.1 (HS2.out.trans hs2);have h8:x=8:=HZ.out true (by rw [decide_eq_true HQX.out,decide_eq_true hqy];rfl);clear hs2 hqy;go_wp2;go_ret;exact ⟨by rw [h8];rfl,q5⟩
  have es2:(s2 == 0)=false:=beq_eq_false_iff_ne.2 hs2;have h0:x=0:=HZ.out false (by rw [decide_eq_false (fun e=>hs2 (HS2.out.symm.trans (ce.2 e)))];simp);clear hs2;go_wp2;go_ret;exact ⟨by rw [h0];rfl,q5⟩
 have es:(s1 == 0)=false:=beq_eq_false_iff_ne.2 hs1;have h0:x=0:=HZ.out false (by rw [decide_eq_false (fun e=>hs1 (HS1.out.symm.trans (ce.2 e)))];rfl);clear hs1;go_wp2;go_ret;exact ⟨by rw [h0];rfl,q24⟩
theorem eB {α:Type}{f:List α→α→Int}:∀ (l prev:List α),bQ f prev l=0→∀ a∈l,∃ p,f p a=0
 | [],_,_=>by simp
 | a :: r,prev,h=>by
  unfold bQ at h;split at h
  ·rename_i h0
   intro x hx;rcases List.mem_cons.1 hx with rfl | hx
   ·exact ⟨_,h0⟩
   exact eB r _ h x hx
  rename_i h0;exact absurd h h0
theorem dH {s:List UInt8}(h:bI s=true):s.length≤24:=by
 unfold bI at h;simp at h;omega
def rm (m:aA):Prop:=m.name.length≤24∧m.x.ok=true∧m.y.ok=true
theorem mO {p:List aA}{m:aA}(h:bW p m=0):rm m:=by
 unfold bW at h
 repeat' split at h
 all_goals first | omega | skip
 rename_i h1 h2 h3 h4;exact ⟨dH (by simpa using h1),by simpa using h3,by simpa using h4⟩
def cj (b:aq):Prop:=b.name.length≤24∧b.pts.length≤8∧∀ m∈b.pts,rm m
theorem mP {p:List aq}{b:aq}(h:bj p b=0):cj b:=by
 unfold bj at h;split at h
 ·omega
 rename_i h1;split at h
 ·omega
 split at h
 ·omega
 rename_i h3;refine ⟨dH (by simpa using h1),by omega,fun m hm=>?_⟩;obtain ⟨q,hq⟩:=eB _ _ h m hm;exact mO hq
def nG (bs:List aq) (j:aQ):Prop:=j.name.length≤24∧∃ (a b p o:Nat) (x y:aq) (m1 m2:aA),j.a=(a:Nat)∧j.b=(b:Nat)∧j.point=(p:Nat)∧j.on=(o:Nat)∧bs[a]?=some x∧bs[b]?=some y∧x.pts[p]?=some m1∧y.pts[o]?=some m2 ∧
  ((j.kind=0∧j.to_=0)∨(j.kind=1∧∃ (t:Nat) (m3:aA),j.to_=(t:Nat)∧y.pts[t]?=some m3))
theorem gC {α:Type}{l:List α}{i:Int}(h:inI i l.length=true):∃ (n:Nat) (a:α),i=(n:Nat)∧l[n]?=some a:=by
 obtain ⟨n,h1,h2⟩:=iC h;exact ⟨n,l[n],h1,List.getElem?_eq_getElem h2⟩
theorem kA {L:aj}{i:Int}{n:Nat}{b:aq}(h:i=(n:Nat)) (hb:L.bodies[n]?=some b):cK L i=b.pts:=by
 subst h;unfold cK;show (match L.bodies[n]? with | some b=>b.pts | none=>[])=_;rw [hb]
theorem lG {L:aj}{p:List aQ}{j:aQ}(h:be L p j=0):nG L.bodies j:=by
 unfold be at h;split at h
 ·omega
 rename_i h1;split at h
 ·omega
 refine ⟨dH (by simpa using h1),?_⟩;unfold bJ at h;split at h
 ·omega
 rename_i hk;split at h
 ·omega
 rename_i ha;split at h
 ·omega
 rename_i hb;split at h
 ·omega
 split at h
 ·omega
 rename_i hp;split at h
 ·omega
 rename_i ho;obtain ⟨a,x,ea,hx⟩:=gC (by simpa using ha);obtain ⟨b,y,eb,hy⟩:=gC (by simpa using hb);rw [kA ea hx] at hp;rw [kA eb hy] at ho;obtain ⟨pn,m1,ep,hm1⟩:=gC (by simpa using hp);obtain ⟨on,m2,eo,hm2⟩:=gC (by simpa using ho);refine ⟨a,b,pn,on,x,y,m1,m2,ea,eb,ep,eo,hx,hy,hm1,hm2,?_⟩;split at h
 ·rename_i h0
  split at h
  ·rename_i ht;exact Or.inl ⟨h0,ht⟩
  omega
 rename_i h0;split at h
 ·omega
 rename_i ht;rw [kA eb hy] at ht;obtain ⟨t,m3,et,hm3⟩:=gC (by simpa using ht);exact Or.inr ⟨by omega,t,m3,et,hm3⟩
def lH (bs:List aq) (d:aU):Prop:=d.name.length≤24∧∃ (i:Nat) (b:aq),d.body=(i:Nat)∧bs[i]?=some b
theorem kB {bs:List aq}{p:List aU}{d:aU}(h:aG bs.length p d=0):lH bs d:=by
 unfold aG at h;split at h
 ·omega
 rename_i h1;split at h
 ·omega
 split at h
 ·omega
 rename_i hb;obtain ⟨i,b,e,hi⟩:=gC (by simpa using hb);exact ⟨dH (by simpa using h1),i,b,e,hi⟩
structure vD (L:aj):Prop where
  name:L.name.length≤24
  nb:L.bodies.length≤8
  nj:L.joints.length≤16
  nd:L.drivers.length≤2
  b0:0 < L.bodies.length
  body:∀ b∈L.bodies,cj b
  joint:∀ j∈L.joints,nG L.bodies j
  driver:∀ d∈L.drivers,lH L.bodies d
theorem rn {L:aj}(h:cf L=0):vD L:=by
 unfold cf at h;split at h
 ·omega
 rename_i h1;split at h
 ·omega
 rename_i h2;split at h
 ·omega
 rename_i h3;split at h
 ·rename_i h4;exact absurd h h4
 rename_i h4;split at h
 ·omega
 rename_i h5;split at h
 ·rename_i h6;exact absurd h h6
 rename_i h6;split at h
 ·omega
 rename_i h7;refine ⟨dH (by simpa using h1),by omega,by omega,by omega,by omega,fun b hb=>?_,fun j hj=>?_,fun d hd=>?_⟩
 ·obtain ⟨q,hq⟩:=eB _ _ (by simpa using h4) b hb
  exact mP hq
 ·obtain ⟨q,hq⟩:=eB _ _ (by simpa using h6) j hj
  exact lG hq
 obtain ⟨q,hq⟩:=eB _ _ h d hd;exact kB hq
def eC (bs:List aq) (i j:Int):List UInt8:=match bs[i.toNat]? with
  | some b=>(match b.pts[j.toNat]? with | some m=>b.name ++ 46 :: m.name | none=>[])
  | none=>[]
theorem kC {bs:List aq}{i j:Nat}{b:aq}{m:aA}(hb:bs[i]?=some b) (hm:b.pts[j]?=some m):eC bs (i:Nat) (j:Nat)=b.name ++ 46 :: m.name:=by
 unfold eC;show (match bs[i]? with | some b=>(match b.pts[j]? with | some m=>b.name ++ 46 :: m.name | none=>[]) | none=>[])=_;rw [hb];show (match b.pts[j]? with | some m=>b.name ++ 46 :: m.name | none=>[])=_;rw [hm]
def lI (bs:List aq) (i:Int):List UInt8:=match bs[i.toNat]? with | some b=>b.name | none=>[]
theorem sO {bs:List aq}{i:Nat}{b:aq}(hb:bs[i]?=some b):lI bs (i:Nat)=b.name:=by
 unfold lI;show (match bs[i]? with | some b=>b.name | none=>[])=_;rw [hb]
def cF (bs:List aq) (j:aQ):List (List UInt8) :=
  if j.kind=1 then [[115,108,105,100,101],j.name,eC bs j.a j.point,eC bs j.b j.on,eC bs j.b j.to_]
  else [[112,105,110],j.name,eC bs j.a j.point,eC bs j.b j.on]
def aH (bs:List aq) (j:aQ):List UInt8:=fd (cF bs j) ++ [59,10]
def aN (bs:List aq) (d:aU):List UInt8:=[100,114,105,118,101,114,32] ++ d.name ++ [32] ++ lI bs d.body ++ [59,10]
def lJ (nm:List UInt8):List UInt8:=[108,105,110,107,97,103,101,32] ++ nm ++ [59,10]
def bm (b:aq):List UInt8:=fM b ++ [10]
def bZ (L:aj):List UInt8:=lJ L.name ++ L.bodies.flatMap bm ++ L.joints.flatMap (aH L.bodies) ++ L.drivers.flatMap (aN L.bodies)
def aJ (L:aj):Int:=if cf L≠0 then cf L else if iB L.bodies=true∨65536 < (bZ L).length then 4 else 0
def cl (L:aj):List UInt8:=if aJ L=0 then bZ L else []
theorem dW {α:Type}(f:α→List UInt8) (K:Nat):∀ (l:List α),(∀ a∈l,(f a).length≤K)→(l.flatMap f).length≤K * l.length
 | [],_=>by simp
 | a :: l,h=>by
  have h1:=h a (by simp);have h2:=dW f K l fun x hx=>h x (by simp [hx])
  simp only [List.flatMap_cons,List.length_append,List.length_cons,Nat.mul_add,Nat.mul_one];omega
theorem kD {b:aq}(hb:b.name.length≤24) (hp:b.pts.length≤8) (h:∀ m∈b.pts,eO m):(bm b).length≤180000:=by
 have:=gB h;unfold bm fM;simp only [List.length_append,List.length_cons,List.length_nil];omega
theorem gF {bs:List aq}{i j:Int}(h:∀ b∈bs,cj b):(eC bs i j).length≤49:=by
 unfold eC;split
 ·rename_i b hb
  have h1:=h b (List.mem_of_getElem? hb);split
  ·rename_i m hm
   have h2:=h1.2.2 m (List.mem_of_getElem? hm);have:=h1.1;have:=h2.1;simp only [List.length_append,List.length_cons];omega
  simp
 simp
theorem o8 {bs:List aq}{i:Int}(h:∀ b∈bs,cj b):(lI bs i).length≤24:=by
 unfold lI;split
 ·rename_i b hb
  exact (h b (List.mem_of_getElem? hb)).1
 simp
theorem ff {bs:List aq}{j:aQ}(h:∀ b∈bs,cj b) (hj:j.name.length≤24):(aH bs j).length≤200:=by
 have h1:=gF h (i:=j.a) (j:=j.point);have h2:=gF h (i:=j.b) (j:=j.on);have h3:=gF h (i:=j.b) (j:=j.to_);unfold aH cF;split
 ·simp only [fd,List.length_append,List.length_cons,List.length_nil]
  omega
 simp only [fd,List.length_append,List.length_cons,List.length_nil];omega
theorem iE {bs:List aq}{d:aU}(h:∀ b∈bs,cj b) (hd:d.name.length≤24):(aN bs d).length≤60:=by
 have h1:=o8 h (i:=d.body);unfold aN;simp only [List.length_append,List.length_cons,List.length_nil];omega
def RdW (r:RD):Prop:=Wds r.num∧Wds r.den
def MkW (m:aA):Prop:=RdW m.x∧RdW m.y
def LkW (L:aj):Prop:=∀ b∈L.bodies,∀ m∈b.pts,MkW m
structure MkF (m:aA):Prop where
  name:bI m.name=true
  x:m.x.ok=true
  y:m.y.ok=true
structure BdF (b:aq):Prop where
  name:bI b.name=true
  pts:∀ m∈b.pts,MkF m
  dist:∀ {i j:Nat}{m m':aA},b.pts[i]?=some m→b.pts[j]?=some m'→m.name=m'.name→i=j
structure LkF (L:aj):Prop where
  ok:vD L
  name:bI L.name=true
  body:∀ b∈L.bodies,BdF b
  dist:∀ {i j:Nat}{a b:aq},L.bodies[i]?=some a→L.bodies[j]?=some b→a.name=b.name→i=j
  joint:∀ j∈L.joints,bI j.name=true
  driver:∀ d∈L.drivers,bI d.name=true
/-! Lines. -/
def iG (h:Nat) (c:UInt8):Nat:=((h ^^^ c.toNat) * 16777619) % 4294967296
def fP (t:List UInt8):Nat:=t.foldl iG 2166136261
theorem sQ (h:Nat) (c:UInt8):iG h c < 4294967296:=by unfold iG;omega
theorem mQ:∀ (t:List UInt8) (b:Nat),b < 4294967296→t.foldl iG b < 4294967296
 | [],_,h=>h
 | c :: t,b,_=>by rw [List.foldl_cons];exact mQ t _ (sQ b c)
theorem nH (t:List UInt8):fP t < 4294967296:=by unfold fP;exact mQ t _ (by omega)
theorem ro {t:List UInt8}{i:Nat}{c:UInt8}(h:t[i]?=some c) (b:Nat):(t.take (i+1)).foldl iG b=iG ((t.take i).foldl iG b) c:=by
 rw [List.take_add_one,h,List.foldl_append];generalize (t.take i).foldl iG b=x;rw [Option.toList_some,List.foldl_cons,List.foldl_nil]
def rq (k:Nat):UInt8:=UInt8.ofNat (if k < 10 then 48+k else 87+k)
def dI:Nat→Nat→List UInt8
  | 0,_=>[]
  | k+1,n=>dI k (n / 16) ++ [rq (n % 16)]
theorem iI:∀ k n,(dI k n).length=k
 | 0,_=>rfl
 | k+1,n=>by rw [dI,List.length_append,iI k];rfl
theorem fl:∀ k n,dI (k+1) n=rq (n / 16 ^ k % 16) :: dI k n
 | 0,n=>by simp [dI]
 | k+1,n=>by
  rw [dI,fl k (n / 16),dI,Nat.div_div_eq_div_mul,show 16 * 16 ^ k=16 ^ (k+1) by rw [Nat.pow_succ,Nat.mul_comm]];rfl
theorem jQ (n:Nat):∀ d k,n < 16 ^ k→dI (d+k) n=List.replicate d 48 ++ dI k n
 | 0,k,_=>by simp
 | d+1,k,h=>by
  have h2:n / 16 ^ (d+k)=0:=Nat.div_eq_of_lt (Nat.lt_of_lt_of_le h (Nat.pow_le_pow_right (by decide) (by omega)));rw [show d+1+k=d+k+1 by omega,fl,h2,jQ n d k h,List.replicate_succ];rfl
def ji (n:Nat):List UInt8:=dI 8 n
theorem lK (n:Nat):(ji n).length=8:=iI 8 n
theorem rt {n k:Nat}(h:n < 16 ^ k) (hk:k≤8):List.replicate (8 - k) 48 ++ dI k n=ji n:=by
 rw [← jQ n (8 - k) k h,show 8 - k+k=8 by omega];rfl
theorem jR (n:Int):IntKind.u32.wrap n=n % 4294967296:=by simp [IntKind.wrap,IntKind.signed,IntKind.bits]
theorem gG (a b:Nat) (ha:a < 4294967296) (hb:b < 4294967296):bits .xor .u32 (a:Int) (b:Int)=((a ^^^ b:Nat):Int):=by
 have hx:a ^^^ b < 2 ^ 32:=Nat.xor_lt_two_pow (by omega) (by omega)
 have h1:(BitVec.ofInt 32 (a:Int)).toNat=a:=by
  rw [BitVec.ofInt_natCast,BitVec.toNat_ofNat];exact Nat.mod_eq_of_lt (by omega)
 have h2:(BitVec.ofInt 32 (b:Int)).toNat=b:=by
  rw [BitVec.ofInt_natCast,BitVec.toNat_ofNat];exact Nat.mod_eq_of_lt (by omega)
 show IntKind.u32.wrap ((BitVec.ofInt 32 (a:Int) ^^^ BitVec.ofInt 32 (b:Int)).toNat:Int)=_;rw [BitVec.toNat_xor,h1,h2,jR];omega
theorem jj (a:Nat) (ha:a < 4294967296):bits .and .u64 (a:Int) 15=((a % 16:Nat):Int):=by
 have h1:(BitVec.ofInt 64 (a:Int)).toNat=a:=by
  rw [BitVec.ofInt_natCast,BitVec.toNat_ofNat];exact Nat.mod_eq_of_lt (by omega)
 have h3:a &&& 15=a % 16:=Nat.and_two_pow_sub_one_eq_mod a 4;show IntKind.u64.wrap ((BitVec.ofInt 64 (a:Int) &&& BitVec.ofInt 64 15).toNat:Int)=_;rw [BitVec.toNat_and,h1,show (BitVec.ofInt 64 15).toNat=15 by decide,h3];simp [IntKind.wrap,IntKind.signed,IntKind.bits];omega
theorem sR {h:Nat}(hh:h < 4294967296) (c:UInt8):bits .xor .u32 (h:Int) ((c.toNat:Nat):Int) * 16777619 % 4294967296=((iG h c:Nat):Int):=by
 have hc:c.toNat < 256:=c.toNat_lt;rw [gG _ _ hh (by omega)];unfold iG;omega
theorem ru (w:World) (s:List UInt8) (C:Nat) (t:TypeId) (fr:Nat × Nat) {j:Nat}{c:UInt8}(h:s[j]?=some c):(w.drew.alloc (.cells (bytesRow ⟨s.toArray⟩ C) t fr)).cell? ⟨w.heap.size,j,none⟩=some (.int .u8 ((c.toNat:Nat):Int)):=by
 have e:w.drew.heap.size=w.heap.size:=rfl;have hj:=(List.getElem?_eq_some_iff.1 h);rw [← e,World.cell?_alloc_mark,bytesRow_at _ _ _ (by simpa using hj.1)];simp [hj.2]
theorem lL (w:World) (o:Obj):Below w.heap.size w (w.drew.alloc o):=(ae (aa w) 1).alloc Qr _
theorem ry (w:World) (s:List UInt8) (hs:s.length≤100000000):Calls Tryz.prog 25 #[af s] w (aE w (.int .u32 (fP s:Nat))):=by
 have hsz:=ai s;have hcv:=fun w:World=>run_bytes_of_string (P:=Tryz.prog) w 9 47 5 ⟨s.toArray⟩ Tryz.underlying9 Tryz.underlying47 Tryz.underlying5
 go_in;go_wp2_with fail;go_loopw [3,9] (fun hv iv wr=>∃ i:Nat,hv=.int .u32 (((s.take i).foldl iG 2166136261:Nat):Int)∧iv=.int .i64 (i:Nat)∧i≤s.length∧Below w.heap.size w wr∧Hid (∀ j c,s[j]?=some c→wr.cell? ⟨w.heap.size,j,none⟩=some (.int .u8 ((c.toNat:Nat):Int)))) (fun _ iv _=>s.length - (intOf iv).toNat)
 case atStart=>exact ⟨0,rfl,rfl,Nat.zero_le _,lL _ _,Qh fun j c h=>ru _ _ _ _ _ h⟩
 case round =>
  obtain ⟨i,rfl,rfl,hi,hb,HC⟩:=hrel;rename World=>wa;rcases Nat.lt_or_ge i s.length with hlt | hge
  ·have hi1:((i:Int) < (s.length:Int))=True:=by simp;omega
   obtain ⟨c,hc⟩:∃ c,s[i]?=some c:=⟨_,List.getElem?_eq_getElem hlt⟩;have c0:=HC.out i c hc;have hst:=ro hc 2166136261;have hv:=sR (mQ (s.take i) 2166136261 (by omega)) c;rw [← hst] at hv;have hw8:IntKind.u32.wrap ((c.toNat:Nat):Int)=((c.toNat:Nat):Int):=by rw [jR];have:=c.toNat_lt;omega
   have HV:=Qh hv;clear hst hv hc;go_wp2_with fail;go_roundw
   case rel=>exact ⟨i+1,by rw [HV.out],by go_num,by omega,hb,HC⟩
   case measure=>simp [intOf];omega
  have hi1:((i:Int) < (s.length:Int))=False:=by simp;omega
  have hin:s.take i=s:=List.take_of_length_le hge;rw [hin];clear hin;go_wp2;go_ret;exact ⟨rfl,hb⟩
theorem sS (d:Nat) (hd:d < 16):∀ h,(⟨#[48,49,50,51,52,53,54,55,56,57,97,98,99,100,101,102,103,104,105,106,107,108,109,110,111,112,113,114,115,116,117,118,119,120,121,122]⟩:ByteArray)[d]'h=rq d:=by
 intro h;have h9:∀ d:Fin 16,([48,49,50,51,52,53,54,55,56,57,97,98,99,100,101,102,103,104,105,106,107,108,109,110,111,112,113,114,115,116,117,118,119,120,121,122]:List UInt8)[d.1]?=some (rq d.1):=by decide
 exact (List.getElem?_eq_some_iff.1 (h9 ⟨d,hd⟩)).2
def T64 (w:World):Prop:=w.cell? ⟨7,15,none⟩=some (.int .u8 4)
theorem T64.belw {w w':World}(h:T64 w) (hb:Below w.heap.size w w'):T64 w':=(hb.cell (p:=⟨7,15,none⟩) (World.block_lt_of_cell? w _ h)).trans h
theorem vZ (w:World) (htab:T64 w):Calls Tryz.prog 219 #[.int .u64 16] w (fun e w'=>e=.returned (.int .i64 4)∧w'=w):=by
 have h1:IntKind.u64.wrap (bits .and .u64 16 (IntKind.u64.wrap (-16)) * 285870213051353865) / 288230376151711744=15:=by decide
 have c0:w.cell? ⟨7,15,none⟩=some (.int .u8 4):=htab;clear htab;go_in;go_wp2;go_ret;exact ⟨rfl,rfl⟩
theorem v6 (w:World) (htab:T64 w):Calls Tryz.prog 180 #[.int .u64 16] w (fun e w'=>e=.returned (.int .i64 4)∧w'=w):=by
 go_in;go_wp2_with fail;(with_reducible refine (vZ w htab).mono ?_);rintro e' w1 ⟨rfl,rfl⟩;go_wp2;go_ret;exact ⟨rfl,rfl⟩
theorem sT (w:World):Calls Tryz.prog 179 #[.int .i64 16] w (fun e w'=>e=.returned (.bool true)∧w'=w):=by
 have h1:bits .and .i64 16 15=0:=by decide
 go_in;go_wp2;go_ret;exact ⟨rfl,rfl⟩
def mR (D:List UInt8):Array Value:=(D.map fun c=>Value.int .u8 ((c.toNat:Nat):Int)).toArray
theorem lM {D:List UInt8}{i:Nat}{c:UInt8}(h:D[i]?=some c):(mR D)[i]?=some (.int .u8 ((c.toNat:Nat):Int)):=by unfold mR;simp [h]
theorem rz (D:List UInt8) (i:Nat) (c:UInt8):(mR D).setIfInBounds i (.int .u8 ((c.toNat:Nat):Int))=mR (D.set i c):=by unfold mR;simp [List.map_set]
theorem lN {D:List UInt8}{m:Nat}(h:m < D.length) (c:UInt8):(D.set m c).drop m=c :: D.drop (m+1):=by
 rw [List.drop_eq_getElem_cons (by simpa using h),List.getElem_set_self,List.drop_set_of_lt (Nat.lt_succ_self m)]
theorem o9 (n:Nat) (h:n < 4294967296):IntKind.u64.wrap (n:Int)=(n:Int):=by simp [IntKind.wrap,IntKind.signed,IntKind.bits];omega
theorem uw (w:World) (n:Nat) (hn:n < 4294967296) (htab:T64 w):Calls Tryz.prog 140 #[.slice none 0 0,.int .u64 (n:Nat),.int .i64 16,.bool false,.bool false] w (fun e w'=>∃ k,k≤8∧n < 16 ^ k∧e=.returned (.tuple #[.slice none 0 0,af (dI k n)])∧Below w.heap.size w w'):=by
 have HTab:=Qh htab;clear htab;go_in;have q0:Below w.heap.size w (w.alloc (.cells Tryz.zeroCells215 215)):=(aa w).alloc Qr _;have x0:Blk (w.alloc (.cells Tryz.zeroCells215 215)) w.heap.size 215 (mR (List.replicate 65 0)):=am _ _ _ (by kernel_rfl);go_wp2_with fail;generalize (w.alloc (.cells Tryz.zeroCells215 215))=w0 at q0 x0 ⊢;(with_reducible refine (sT w0).mono ?_);rintro e' w1 ⟨rfl,rfl⟩;go_wp2_with fail;(with_reducible refine (v6 w1 (HTab.out.belw q0)).mono ?_);rintro e' w2 ⟨rfl,rfl⟩;go_wp2_with fail;go_loopw [1,13] (fun uv iv wr=>∃ (k:Nat) (D:List UInt8),uv=.int .u64 ((n / 16 ^ k:Nat):Int)∧iv=.int .i64 ((65 - k:Nat):Int)∧k≤7∧D.length=65∧Hid (D.drop (65 - k)=dI k n)∧Blk wr w.heap.size 215 (mR D)∧Below w.heap.size w wr) (fun uv _ _=>(intOf uv).toNat)
 case atStart=>exact ⟨0,List.replicate 65 0,by simp,rfl,by omega,by simp,Qh (by simp [dI]),x0,q0⟩
 case round =>
  clear x0 q0;obtain ⟨k,D,rfl,rfl,hk,hD,HD,xD,hb⟩:=hrel;rename World=>wa;obtain ⟨U,hU⟩:∃ U,n / 16 ^ k=U:=⟨_,rfl⟩;obtain ⟨m,hm⟩:∃ m,64 - k=m:=⟨_,rfl⟩;have hUn:U≤n:=by rw [← hU];exact Nat.div_le_self _ _
  have hkm:((65 - k:Nat):Int)=(m:Int)+1:=by omega
  have hi1:IntKind.i64.wrap ((m:Int)+1 - 1)=(m:Int):=by rw [IntKind.wrap_i64];omega
  have hm65:m < 65:=by omega
  have hlw:w.heap.size < wa.heap.size:=xD.lt;obtain ⟨c0,hc0⟩:∃ c,D[m]?=some c:=⟨_,List.getElem?_eq_getElem (by omega)⟩;have cm:wa.cell? ⟨w.heap.size,m,none⟩=some (.int .u8 ((c0.toNat:Nat):Int)):=by rw [xD.cell m];exact lM hc0
  rw [hkm,hU];obtain ⟨d,hd⟩:∃ d,U % 16=d:=⟨_,rfl⟩;have hd16:d < 16:=by omega
  have hgt:=sS d hd16;obtain ⟨x,hx⟩:∃ x,rq d=x:=⟨_,rfl⟩;rw [hx] at hgt;have xD2:=xD.set_at m (.int .u8 ((x.toNat:Nat):Int)) _ (rz D m x)
  have hdr:(D.set m x).drop m=dI (k+1) n:=by
   rw [lN (by omega),show m+1=65 - k by omega,HD.out,fl,hU,hd,hx]
  have fm:wa.frozen? ⟨w.heap.size,m,none⟩=false:=xD.frozen m;have HX:=Qh xD2;have HR:=Qh hdr;have HU:=Qh hU;have HM:=Qh hm;clear hdr xD2 hc0 HD hx hU hm;by_cases h16:16≤U
  ·have f16:((16:Int)≤(U:Int))=True:=eq_true (by omega)
   have hba:=jj U (by omega);rw [hd] at hba;have hd36:(d:Int) < 36:=by omega
   have hk6:k+1≤7:=by
    rcases Nat.lt_or_ge 6 k with h | h
    ·have:k=7:=by omega
     subst this;have:=HU.out;omega
    omega
   go_wp2_with fail;go_roundw
   case rel=>exact ⟨k+1,D.set m x,by rw [← HU.out,Nat.pow_succ,← Nat.div_div_eq_div_mul];simp,by congr 1;have:=HM.out;omega,hk6,by simpa using hD,by rw [show 65 - (k+1)=m by have:=HM.out;omega];exact HR,HX.out,hb.setCell Qr _⟩
   case measure=>simp [intOf];omega
  have f16:((16:Int)≤(U:Int))=False:=eq_false (by omega);obtain rfl:U=d:=by omega
  have hm66:(m:Int)≤65:=by omega
  have hne:(65=m)=False:=eq_false (by omega);obtain ⟨E,hE⟩:∃ E,(D.set m x).drop m=E:=⟨_,rfl⟩;have hlE:E.length=65 - m:=by rw [← hE,List.length_drop,List.length_set,hD]
  have xE:=HX.out;have hEk:dI (k+1) n=E:=HR.out.symm.trans hE
  have hcv:=run_convert_bytes_back (P:=Tryz.prog) (wa.setCell ⟨w.heap.size,m,none⟩ (.int .u8 ((x.toNat:Nat):Int))) 47 9 5 ⟨w.heap.size,m,none⟩ (65 - m) E Tryz.underlying47 Tryz.underlying5 Tryz.underlying9 (fun j hj=>by
   rw [show (⟨w.heap.size,m,none⟩:Addr).add j=⟨w.heap.size,m+j,none⟩ by simp [Addr.add],xE.cell (m+j)];refine lM ?_;rw [← List.getElem?_drop,hE]
   exact List.getElem?_eq_getElem hj)
  rw [hlE] at hcv
  have hnk:n < 16 ^ (k+1):=by
   have h1:=HU.out;have h2:=(Nat.div_lt_iff_lt_mul (x:=n) (y:=16) (Nat.pow_pos (n:=k) (by decide:0 < 16))).1 (by omega);rw [Nat.pow_succ,Nat.mul_comm];exact h2
  have HK:=Qh (And.intro hEk hnk);clear hE hlE hEk hnk xE;go_wp2_with fail;go_ret2;exact ⟨k+1,by omega,HK.out.2,by rw [HK.out.1];rfl,hb.setCell Qr _⟩
theorem ux (w:World) (n:Nat) (hn:n < 4294967296) (htab:T64 w):Calls Tryz.prog 103 #[.int .u64 (n:Nat),.int .i64 16] w (fun e w'=>∃ k,k≤8∧n < 16 ^ k∧e=.returned (af (dI k n))∧Below w.heap.size w w'):=by
 go_in;go_wp2_with fail;(with_reducible refine (uw w n hn htab).mono ?_);rintro e' w1 ⟨k,hk,hnk,rfl,hb⟩;go_wp2;go_ret;exact ⟨k,hk,hnk,rfl,hb⟩
theorem vE (w:World) (n:Nat) (hn:n < 4294967296) (htab:T64 w):Calls Tryz.prog 64 #[.int .u64 (n:Nat),.int .i64 16] w (fun e w'=>∃ k,k≤8∧n < 16 ^ k∧e=.returned (af (dI k n))∧Below w.heap.size w w'):=by
 go_in;go_wp2_with fail;(with_reducible refine (ux w n hn htab).mono ?_);rintro e' w1 ⟨k,hk,hnk,rfl,hb⟩;go_wp2;go_ret;exact ⟨k,hk,hnk,rfl,hb⟩
theorem vF (w:World) (z:Int) (j:Nat) (hz:z=j) (hj:j < 1000000) (d:List UInt8) (hd:List.replicate j 48=d):Calls Tryz.prog 65 #[.string ⟨#[48]⟩,.int .i64 z] w (aE w (af d)):=by
 have e9:∀ k,Lib.repeatL [48] k=List.replicate k 48:=fun k=>by
  induction k with
  | zero=>rfl
  | succ k ih=>rw [Lib.repeatL,ih,List.replicate_succ];rfl
 exact iq w z j d hz hj ((e9 j).trans hd)
theorem tJ (w:World) (n:Nat) (hn:n < 4294967296) (htab:T64 w):Calls Tryz.prog 30 #[.int .u32 (n:Nat)] w (aE w (af (ji n))):=by
 have hw64:=o9 n hn;go_in;go_wp2_with fail;(with_reducible refine (vE w n hn htab).mono ?_);rintro e' w1 ⟨k,hk,hnk,rfl,hb⟩;have hpad:=rt hnk hk;obtain ⟨X,hX⟩:∃ X,dI k n=X:=⟨_,rfl⟩;obtain ⟨Z,hZ⟩:∃ Z,List.replicate (8 - k) (48:UInt8)=Z:=⟨_,rfl⟩;have hlX:X.length=k:=by rw [← hX,iI]
 have hlZ:Z.length=8 - k:=by rw [← hZ,List.length_replicate]
 rw [hX,hZ] at hpad;rw [hX];have zX:=ai X;have zZ:=ai Z;have aZ:=jG Z X;rw [hpad] at aZ;have kZ:(9223372036854775807 < Z.length+X.length)=False:=eq_false (by omega);have hwk:IntKind.i64.wrap (8 - (X.length:Int))=((8 - k:Nat):Int):=by rw [IntKind.wrap_i64];omega
 have HZ:=Qh hZ;clear hX hpad hnk hZ;go_wp2_with fail;(with_reducible refine (vF w1 _ (8 - k) ?_ (by omega) Z HZ.out).mono ?_);(first | rfl | omega);rintro e' w2 ⟨rfl,hb2⟩;have hb3:=ag hb hb2;go_wp2;go_ret;exact ⟨rfl,hb3⟩
def dw (n:Nat):List UInt8:=[108,105,110,107,119,111,114,107,32,49,32] ++ Lib.itoa n ++ [10]
def jS (t:List UInt8):List UInt8:=Lib.itoa t.length ++ [32] ++ ji (fP t) ++ [10] ++ t
def pkL (L:aj):List UInt8:=jS (bZ L)
def dx (Ls:List aj):List UInt8:=dw Ls.length ++ Ls.flatMap pkL
def ct:List aj→Int
  | []=>0
  | L :: r=>if aJ L=0 then ct r else aJ L
def cR (Ls:List aj):Int:=if 16 < Ls.length then 4 else if ct Ls≠0 then ct Ls else if 65536 < (dx Ls).length then 4 else 0
def eE (Ls:List aj):List UInt8:=if cR Ls=0 then dx Ls else []
theorem iJ:∀ (a b:List aj),ct (a ++ b)=if ct a=0 then ct b else ct a
 | [],b=>by simp [ct]
 | L :: r,b=>by
  rw [List.cons_append,ct,ct,iJ r b];by_cases h:aJ L=0 <;> simp [h]
theorem rA (L:aj):ct [L]=aJ L:=by
 unfold ct;by_cases h:aJ L=0
 ·rw [if_pos h,h];rfl
 rw [if_neg h]
theorem jT {Ls:List aj}{i:Nat}{L:aj}(h:Ls[i]?=some L) (h0:ct (Ls.take i)=0):ct (Ls.take (i+1))=aJ L:=by
 rw [List.take_add_one,h,iJ,if_pos h0];exact rA L
theorem lO {Ls:List aj}{i:Nat}{L:aj}(h:Ls[i]?=some L) (h0:ct (Ls.take i)=0) (hE:aJ L≠0):ct Ls=aJ L:=by
 have h1:=jT h h0
 conv=>lhs;rw [← List.take_append_drop (i+1) Ls]
 rw [iJ,h1,if_neg hE]
theorem iK {L:aj}(h:aJ L=0):(bZ L).length≤65536:=by
 unfold aJ at h;split at h
 ·rename_i h0;exact absurd h h0
 split at h
 ·cases h
 rename_i h0;exact Nat.le_of_not_lt fun h=>h0 (.inr h)
theorem fQ {n k:Nat}(h:n < 4294967296):(Lib.itoa (n:Int)).length≤11:=fL (z:=(n:Int)) (k:=1) (K:=1) (by simpa using h) (Nat.le_refl 1) (by decide)
theorem pd {t:List UInt8}(h:t.length≤65536):(jS t).length≤65600:=by
 have h1:=fQ (n:=t.length) (k:=0) (by omega);have h2:=lK (fP t);unfold jS;simp only [List.length_append,List.length_cons,List.length_nil];omega
theorem lP {Ls:List aj}(h:16 < Ls.length):cR Ls=4∧eE Ls=[]:=by
 have h1:cR Ls=4:=if_pos h;exact ⟨h1,if_neg (by rw [h1];decide)⟩
theorem lQ {Ls:List aj}(h:¬ 16 < Ls.length) (he:ct Ls≠0):cR Ls=ct Ls∧eE Ls=[]:=by
 have h1:cR Ls=ct Ls:=by unfold cR;rw [if_neg h,if_pos he]
 exact ⟨h1,if_neg (by rw [h1];exact he)⟩
theorem mS {Ls:List aj}(h:¬ 16 < Ls.length) (he:ct Ls=0) (hl:65536 < (dx Ls).length):cR Ls=4∧eE Ls=[]:=by
 have h1:cR Ls=4:=by unfold cR;rw [if_neg h,if_neg (by simpa using he),if_pos hl]
 exact ⟨h1,if_neg (by rw [h1];decide)⟩
theorem lR {Ls:List aj}(h:¬ 16 < Ls.length) (he:ct Ls=0) (hl:¬ 65536 < (dx Ls).length):cR Ls=0∧eE Ls=dx Ls:=by
 have h1:cR Ls=0:=by unfold cR;rw [if_neg h,if_neg (by simpa using he),if_neg hl]
 exact ⟨h1,if_pos h1⟩
def kE:List UInt8:=[48,49,50,51,52,53,54,55,56,57,97,98,99,100,101,102]
theorem sU {l cs:List UInt8}(h:∀ c∈l,cs.contains c=true):Lib.trimS l cs=[]:=by
 unfold Lib.trimS Lib.trimLeftS Lib.trimRightS;rw [bo,List.all_reverse,bo.2 (by rw [List.all_reverse];exact List.all_eq_true.2 h)];rfl
theorem tK:∀ k u,u < 10 ^ (k+1)→Lib.nDigits u≤k+1
 | 0,u,h=>by rw [Lib.nDigits_small (by omega)];omega
 | k+1,u,h=>by
  by_cases h1:u < 10
  ·rw [Lib.nDigits_small h1];omega
  rw [Lib.nDigits_big h1];have:=tK k (u / 10) (by rw [Nat.pow_succ] at h;omega);omega
theorem mT {n:Nat}{c:UInt8}(hc:aF c=false):c ∉ Lib.itoa (n:Int):=by
 intro h;rw [Lib.itoa_nonneg] at h;rw [List.all_eq_true.1 (nw n).1 c h] at hc;cases hc
theorem sV (n:Nat):(Lib.itoa (n:Int)).all aF=true∧ah (Lib.itoa (n:Int))=n:=by
 rw [Lib.itoa_nonneg];exact nw n
theorem sW (n:Nat):Lib.itoa (n:Int)≠[]:=by
 rw [Lib.itoa_nonneg];intro h;have h9:(Lib.decDigits n).length=0:=by rw [h];rfl
 rw [Lib.decDigits_length] at h9;have:=Lib.nDigits_pos n;omega
def mU (m h:Nat):List UInt8:=Lib.itoa (m:Int) ++ [32] ++ ji h
theorem rB (t:List UInt8):jS t=mU t.length (fP t) ++ 10 :: t:=by unfold jS mU;simp
def eP (n:Nat):List UInt8:=[108,105,110,107,119,111,114,107,32,49,32] ++ Lib.itoa (n:Int)
theorem gH (n:Nat) (r:List UInt8):dw n ++ r=eP n ++ 10 :: r:=by unfold dw eP;simp
theorem iL (n:Nat):(10:UInt8) ∉ eP n:=by
 unfold eP;intro hm;rcases List.mem_append.1 hm with hm | hm
 ·revert hm;decide
 exact mT (by decide) hm
def Mx (w:World):Prop:=∃ m,w.cell? ⟨0,0,none⟩=some (.int .i64 m)
theorem Mx.belw {w w':World}(h:Mx w) (hb:Below w.heap.size w w'):Mx w':=by
 obtain ⟨m,hm⟩:=h;exact ⟨m,(hb.cell (p:=⟨0,0,none⟩) (World.block_lt_of_cell? w _ hm)).trans hm⟩
theorem dh (w:World) (s:List UInt8) (c:UInt8) (a b:List UInt8) (f:Bool) (hm:Mx w) (hl:s.length≤65536) (hc:Lib.cut s [c]=(a,b,f)):Calls Tryz.prog 49 #[af s,.string ⟨#[c]⟩] w (aE w (.tuple #[af a,af b,.bool f])):=by
 obtain ⟨m,hm⟩:=hm;refine (Tryz.strings_Cut ⟨s.toArray⟩ ⟨#[c]⟩ m w (by show s.length < _;omega) hm).mono fun e w' ⟨he,n,hw⟩=>⟨?_,hw ▸ ae (aa _) n⟩
 rw [he];show Ending.returned (.tuple #[af (Lib.cut s [c]).1,af (Lib.cut s [c]).2.1,.bool (Lib.cut s [c]).2.2])=_;rw [hc]
theorem uy:ba 2=.iface 49 (.int .i64 2):=if_neg (by decide)
theorem uz:ba 4=.iface 49 (.int .i64 4):=if_neg (by decide)
theorem kF (w:World) (n:Nat) (hn:n≤99999) (I:List UInt8) (hI:Lib.itoa (n:Int)=I) (htab:Tab w):Calls Tryz.prog 50 #[af I] w (aE w (.tuple #[.int .i64 (n:Nat),.bool true])):=by
 have hd:=sV n;have h0:=sW n;have hl:=fQ (n:=n) (k:=0) (by omega)
 have hl9:(Lib.itoa (n:Int)).length≤9:=by
  rw [Lib.itoa_nonneg,Lib.decDigits_length];have:=tK 4 n (by omega);omega
 rw [hI] at hd h0 hl9;have HD:=Qh (And.intro hd (And.intro h0 hl9));have HI:=Qh hI;have HTab:=Qh htab;have f0:((0:Int)≤(n:Int))=True:=eq_true (by omega);have f1:((n:Int)≤99999)=True:=eq_true (by omega);clear hd h0 hl hl9 hI htab;go_in;go_wp2_with fail;(with_reducible refine (mD w I n HD.out.2.2 HD.out.2.1 HD.out.1.1 HD.out.1.2).mono ?_);rintro e' w1 ⟨rfl,q1⟩;go_wp2_with fail;(with_reducible refine (ip w1 (n:Int) (by omega) (by omega) (HTab.out.belw q1)).mono ?_);rintro e' w2 ⟨rfl,hb2⟩;rw [HI.out];have q2:=ag q1 hb2;go_wp2_with fail;go_ret2;exact ⟨rfl,q2⟩
theorem sX (w:World) (t x:List UInt8) (hn:t.length≤1000000) (hx:Lib.trimS t kE=x):Calls Tryz.prog 91 #[af t,.string ⟨#[48,49,50,51,52,53,54,55,56,57,97,98,99,100,101,102]⟩] w (aE w (af x)):=by
 subst hx;exact Any.strings_Trim_laid Tryz.lays160 (by kernel_rfl) ⟨t.toArray⟩ ⟨#[48,49,50,51,52,53,54,55,56,57,97,98,99,100,101,102]⟩ w (by show t.length≤_;omega) (by decide) (ascii_of_all (by decide))
theorem rC (w:World) (P S I:List UInt8) (h:S=P ++ I):Calls Tryz.prog 88 #[af S,af P] w (aE w (.tuple #[af I,.bool true])):=by
 have e1:Lib.hasPrefix S P=true:=by unfold Lib.hasPrefix;rw [List.isPrefixOf_iff_prefix,h];exact List.prefix_append _ _
 have e2:Lib.trimPrefix S P=I:=by unfold Lib.trimPrefix;rw [e1,if_pos rfl,h];simp
 refine (Tryz.strings_CutPrefix ⟨S.toArray⟩ ⟨P.toArray⟩ w).mono fun e w' ⟨he,hw⟩=>⟨?_,hw ▸ aa _⟩
 rw [he];show Ending.returned (.tuple #[af (Lib.trimPrefix S P),.bool (Lib.hasPrefix S P)])=_;rw [e1,e2]
theorem pf (w:World) (n:Nat) (hn:n≤16) (R:List UInt8) (S:List UInt8) (hS:dw n ++ R=S) (hl:S.length≤65536) (htab:Tab w) (hmx:Mx w):Calls Tryz.prog 48 #[af S] w (aE w (.tuple #[.int .i64 (n:Nat),af R,.nilIface])):=by
 obtain ⟨F,hF⟩:∃ F,eP n=F:=⟨_,rfl⟩;have hc:Lib.cut S [10]=(F,R,true):=by rw [← hS,gH,← hF];exact cZ (iL n)
 obtain ⟨I,hI⟩:∃ I,Lib.itoa (n:Int)=I:=⟨_,rfl⟩;have hFI:F=[108,105,110,107,119,111,114,107,32,49,32] ++ I:=by rw [← hF,← hI];rfl
 have zS:=ai S;have f1:((65536:Int) < (S.length:Int))=False:=eq_false (by omega);have f2:((16:Int) < (n:Int))=False:=eq_false (by omega);have HC:=Qh hc;have HFI:=Qh hFI;have HI:=Qh hI;have HTab:=Qh htab;have HM:=Qh hmx;clear hc hFI hF hI hS htab hmx;go_in;go_wp2_with fail;(with_reducible refine (dh w S 10 F R true HM.out hl HC.out).mono ?_);rintro e' w1 ⟨rfl,q1⟩;go_wp2_with fail;refine (rC w1 [108,105,110,107,119,111,114,107,32,49,32] F I HFI.out).mono ?_;rintro e' w2 ⟨rfl,hb2⟩;have q2:=ag q1 hb2;go_wp2_with fail;(with_reducible refine (kF w2 n (by omega) I HI.out (HTab.out.belw q2)).mono ?_);rintro e' w3 ⟨rfl,hb3⟩;have q3:=ag q2 hb3;go_wp2_with fail;refine bodyPost_ret (v:=.tuple #[.int .i64 (n:Nat),af R,.nilIface]) (by simp [results,Tryz.results48,go_sem, *] <;> trivial) rfl ?_;exact ⟨rfl,q3⟩
theorem sY (w:World) (A:Option Addr) (n c:Nat) (B:Option Addr) (p d:Nat) (C:Option Addr) (q e:Nat) (nm:List UInt8) (j:aQ) (L:aj) (k:Nat) (h:SlS (du k) 2 w A n c L.bodies) (hk:k≤10000000) (hk1:0 < k) (hn:n≤1000) (x:Int) (hx:bJ L j=x) :
 Calls Tryz.prog 113 #[.agg #[af nm,.slice A n c,.slice B p d,.slice C q e],.agg #[af j.name,.int .i64 j.kind,.int .i64 j.a,.int .i64 j.point,.int .i64 j.b,.int .i64 j.on,.int .i64 j.to_]] w (aE w (ba x)):=by
 by_cases h0:j.kind=0
 ·exact o6 w A n c B p d C q e nm j L k h hk hk1 hn h0 x hx
 by_cases h1:j.kind=1
 ·exact o7 w A n c B p d C q e nm j L k h hk hk1 hn h1 x hx
 subst hx;rw [show bJ L j=7 from if_pos ⟨h0,h1⟩];exact o5 w A n c B p d C q e nm j ⟨h0,h1⟩
theorem rD (w:World) (A:Option Addr) (n c:Nat) (B:Option Addr) (p d:Nat) (C:Option Addr) (q e:Nat) (L:aj) (k:Nat) (h:LkS k w A n c B p d C q e L) (hk:k≤10000000) (hk1:0 < k) (hn:n≤1000) (x:Int) (hx:(if 16 < L.joints.length then 4 else bQ (be L) [] L.joints)=x):Calls Tryz.prog 77 #[.agg #[af L.name,.slice A n c,.slice B p d,.slice C q e]] w (aE w (ba x)):=by
 have hln:=h.joints.1;have hlb:=h.bodies.1;by_cases h8:16 < p
 ·have f8:((16:Int) < (p:Int))=True:=eq_true (by omega)
  have h4:x=4:=by rw [← hx,if_pos (by rw [hln];exact h8)]
  clear hln hlb;go_in;go_wp2;go_ret;exact ⟨by rw [h4];rfl,(aa w).alloc Qr _⟩
 have f8:((16:Int) < (p:Int))=False:=eq_false (by omega);have hbd:p≤16:=by omega
 rw [if_neg (by rw [hln];exact h8)] at hx;have hnc:=h.joints.2.1;have HX:=Qh (dU hx);have HLN:=Qh hln;have HLB:=Qh hlb;clear hx hln hlb h8;go_in;go_wp2_with fail;go_loopw [16] (fun iv wr=>∃ i:Nat,iv=.int .i64 (i:Nat)∧i≤p∧Hid (bQ (be L) (L.joints.take i) (L.joints.drop i)=x)∧Blk wr w.heap.size 36 #[af L.name,.slice A n c,.slice B p d,.slice C q e]∧Below w.heap.size w wr) (fun iv _=>p - (intOf iv).toNat)
 case atStart=>exact ⟨0,rfl,Nat.zero_le _,HX,am _ _ _ (by simp),(aa w).alloc Qr _⟩
 case round =>
  clear HX;obtain ⟨i,rfl,hi,HX,xL,hb⟩:=hrel;rename World=>wa;rcases Nat.lt_or_ge i p with hlt | hge
  ·have hi1:((i:Int) < (p:Int))=True:=by simp;omega
   have hL:=h.belw hb;obtain ⟨g,o,b,e1,hg,_,hbi,hB⟩:=hL.joints.at_ hlt;subst e1;have hstep:=eN HX.out hbi;obtain ⟨c0,c1,c2,c3,c4,c5,c6,hnm⟩:=hB;have HL:=Qh hL;have HS:=Qh hstep;have HN:=Qh hnm;obtain ⟨v,hv⟩:∃ v,bI b.name=v:=⟨_,rfl⟩;have HV:=Qh hv;have hlL:w.heap.size < wa.heap.size:=xL.lt;clear h hL hstep hnm hbi hv HX;go_wp2_with fail;(with_reducible refine (iA _ b.name HN.out v HV.out).mono ?_);rintro e' w1 ⟨rfl,hb1⟩;have q1:=hb1.q1;have x1:Blk w1 wa.heap.size 79 #[af b.name,.int .i64 b.kind,.int .i64 b.a,.int .i64 b.point,.int .i64 b.b,.int .i64 b.on,.int .i64 b.to_]:=(am _ _ _ (by simp)).below hb1 (by simp);have xL1:=xL.below q1 xL.lt;have bw1:=hb.trans (q1.mono hb.size);clear hb1 c0 c1 c2 c3 c4 c5 c6
   have hxz:∀ z:Int,z≠0→(be L) (L.joints.take i) b=z→x=z:=fun z hz hm=>by
    rcases HS.out with ⟨u,_⟩ | ⟨_,u⟩
    ·exact absurd (hm.symm.trans u) hz
    exact u.symm.trans hm
   cases v
   ·have h5:x=5:=hxz 5 (by decide) (if_pos HV.out)
    clear hxz;go_wp2;go_ret;exact ⟨by rw [h5];rfl,bw1⟩
   have HXZ:=Qh hxz;clear hxz;have cL:=xL1.cell 2;go_wp2_with fail;clear cL;go_loopw [31] (fun jv wr=>∃ j:Nat,jv=.int .i64 (j:Nat)∧j≤i∧Hid (twN ((L.joints.take j).map aQ.name) b.name=false)∧Below w1.heap.size w1 wr) (fun jv _=>i - (intOf jv).toNat)
   case atStart=>exact ⟨0,rfl,Nat.zero_le _,Qh rfl,aa w1⟩
   case round =>
    obtain ⟨j,rfl,hj,HT,hb2⟩:=hrel;rename World=>w2;have x2:=x1.below hb2 x1.lt;have xL2:=xL1.below hb2 xL1.lt;have bw2:=bw1.trans (hb2.mono bw1.size);have cB0:=x2.cell 0;have hlw:wa.heap.size < w2.heap.size:=x2.lt;have hlL2:w.heap.size < w2.heap.size:=xL2.lt;rcases Nat.lt_or_ge j i with hjl | hjg
    ·have hj1:((j:Int) < (i:Int))=True:=by simp;omega
     have hjn:j < p:=by omega
     obtain ⟨a,ha,hA⟩:=((HL.out.joints.jt q1).jt hb2).rowAt hjn;obtain ⟨d0,d1,d2,d3,d4,d5,d6,hn2⟩:=hA;have hgw:g < w2.heap.size:=by have:=hb2.size;have:=q1.size;omega
     clear hn2;have hne1:¬ wa.heap.size=w2.heap.size:=by omega
     have hne2:¬ g=w2.heap.size:=by omega
     have htl:=aI b.name;by_cases heq:a.name=b.name
     ·have h6:x=6:=HXZ.out 6 (by decide) (by
       show be L (L.joints.take i) b=6;unfold be
       rw [HV.out,if_neg (by decide),if_pos (gZ ha hjl heq)])
      rw [heq] at d0;have hee:(b.name == b.name)=true:=by simp
      clear heq ha;go_wp2;go_ret;exact ⟨by rw [h6];rfl,bw2.alloc bw2.size _⟩
     have hta:=aI a.name;have HT2:=Qh (fJ ha HT.out heq);have hee:(a.name == b.name)=false:=beq_eq_false_iff_ne.2 heq;clear heq ha HT;go_wp2_with fail;go_roundw
     case rel=>exact ⟨j+1,by go_num,by omega,HT2,hb2.alloc hb2.size _⟩
     case measure=>simp [intOf];omega
    have hj1:((j:Int) < (i:Int))=False:=by simp;omega
    obtain rfl:j=i:=by omega
    clear cB0;have cL0:=xL2.cell 0;have cL1:=xL2.cell 1;have cL2:=xL2.cell 2;have cL3:=xL2.cell 3;have z0:=x2.cell 0;have z1:=x2.cell 1;have z2:=x2.cell 2;have z3:=x2.cell 3;have z4:=x2.cell 4;have z5:=x2.cell 5;have z6:=x2.cell 6;obtain ⟨y,hy⟩:∃ y,bJ L b=y:=⟨_,rfl⟩
    have HE:Hid (be L (L.joints.take j) b=y):=Qh (by
     unfold be
     rw [HV.out,if_neg (by decide),HT.out,if_neg (by decide)];exact hy)
    have HY:=Qh hy;clear hy;go_wp2_with fail;(with_reducible refine (sY _ A n c _ p d C q e L.name b L k ((HL.out.bodies.bd q1).bd hb2) hk hk1 hn y HY.out).mono ?_);rintro e' w3 ⟨rfl,hb3⟩;have bw3:=bw2.trans (hb3.mono bw2.size);have xL3:=xL2.below hb3 xL2.lt;clear cL0 cL1 cL2 cL3 z0 z1 z2 z3 z4 z5 z6;by_cases hy0:y=0
    ·have HX2:Hid (bQ (be L) (L.joints.take (j+1)) (L.joints.drop (j+1))=x):=Qh (by
      rcases HS.out with ⟨_,u⟩ | ⟨u,_⟩
      ·exact u
      exact absurd (HE.out.trans hy0) u)
     subst hy0;rw [show ba 0=.nilIface from if_pos rfl];go_wp2_with fail;go_roundw
     case rel=>exact ⟨j+1,by go_num,by omega,HX2,xL3,bw3⟩
     case measure=>simp [intOf];omega
    have hxy:x=y:=HXZ.out y hy0 HE.out;rw [show ba y=.iface 49 (.int .i64 y) from if_neg hy0];go_wp2;go_ret;exact ⟨by rw [hxy,show ba y=.iface 49 (.int .i64 y) from if_neg hy0];rfl,bw3⟩
  have hi1:((i:Int) < (p:Int))=False:=by simp;omega
  have hx0:x=0:=fH HX.out (by rw [HLN.out];exact hge);go_wp2;go_ret;exact ⟨by rw [hx0];rfl,hb⟩
theorem pg (w:World) (A:Option Addr) (n c:Nat) (B:Option Addr) (p d:Nat) (C:Option Addr) (q e:Nat) (L:aj) (k:Nat) (h:LkS k w A n c B p d C q e L) (hk:k≤10000000) (hk1:0 < k) (hn:n≤1000) (x:Int) (hx:(if 2 < L.drivers.length then 4 else bQ (aG n) [] L.drivers)=x):Calls Tryz.prog 78 #[.agg #[af L.name,.slice A n c,.slice B p d,.slice C q e]] w (aE w (ba x)):=by
 have hln:=h.drivers.1;have hlb:=h.bodies.1;by_cases h8:2 < q
 ·have f8:((2:Int) < (q:Int))=True:=eq_true (by omega)
  have h4:x=4:=by rw [← hx,if_pos (by rw [hln];exact h8)]
  clear hln hlb;go_in;go_wp2;go_ret;exact ⟨by rw [h4];rfl,(aa w).alloc Qr _⟩
 have f8:((2:Int) < (q:Int))=False:=eq_false (by omega);have hbd:q≤2:=by omega
 rw [if_neg (by rw [hln];exact h8)] at hx;have hnc:=h.drivers.2.1;have HX:=Qh (dU hx);have HLN:=Qh hln;have HLB:=Qh hlb;clear hx hln hlb h8;go_in;go_wp2_with fail;go_loopw [17] (fun iv wr=>∃ i:Nat,iv=.int .i64 (i:Nat)∧i≤q∧Hid (bQ (aG n) (L.drivers.take i) (L.drivers.drop i)=x)∧Blk wr w.heap.size 36 #[af L.name,.slice A n c,.slice B p d,.slice C q e]∧Below w.heap.size w wr) (fun iv _=>q - (intOf iv).toNat)
 case atStart=>exact ⟨0,rfl,Nat.zero_le _,HX,am _ _ _ (by simp),(aa w).alloc Qr _⟩
 case round =>
  clear HX;obtain ⟨i,rfl,hi,HX,xL,hb⟩:=hrel;rename World=>wa;rcases Nat.lt_or_ge i q with hlt | hge
  ·have hi1:((i:Int) < (q:Int))=True:=by simp;omega
   have hL:=h.belw hb;obtain ⟨g,o,b,e1,hg,_,hbi,hB⟩:=hL.drivers.at_ hlt;subst e1;have hstep:=eN HX.out hbi;obtain ⟨c0,c1,hnm⟩:=hB;have HL:=Qh hL;have HS:=Qh hstep;have HN:=Qh hnm;obtain ⟨v,hv⟩:∃ v,bI b.name=v:=⟨_,rfl⟩;have HV:=Qh hv;have hlL:w.heap.size < wa.heap.size:=xL.lt;clear h hL hstep hnm hbi hv HX;go_wp2_with fail;(with_reducible refine (iA _ b.name HN.out v HV.out).mono ?_);rintro e' w1 ⟨rfl,hb1⟩;have q1:=hb1.q1;have x1:Blk w1 wa.heap.size 81 #[af b.name,.int .i64 b.body]:=(am _ _ _ (by simp)).below hb1 (by simp);have xL1:=xL.below q1 xL.lt;have bw1:=hb.trans (q1.mono hb.size);clear hb1 c0 c1
   have hxz:∀ z:Int,z≠0→(aG n) (L.drivers.take i) b=z→x=z:=fun z hz hm=>by
    rcases HS.out with ⟨u,_⟩ | ⟨_,u⟩
    ·exact absurd (hm.symm.trans u) hz
    exact u.symm.trans hm
   cases v
   ·have h5:x=5:=hxz 5 (by decide) (if_pos HV.out)
    clear hxz;go_wp2;go_ret;exact ⟨by rw [h5];rfl,bw1⟩
   have HXZ:=Qh hxz;clear hxz;have cL:=xL1.cell 3;go_wp2_with fail;clear cL;go_loopw [32] (fun jv wr=>∃ j:Nat,jv=.int .i64 (j:Nat)∧j≤i∧Hid (twN ((L.drivers.take j).map aU.name) b.name=false)∧Below w1.heap.size w1 wr) (fun jv _=>i - (intOf jv).toNat)
   case atStart=>exact ⟨0,rfl,Nat.zero_le _,Qh rfl,aa w1⟩
   case round =>
    obtain ⟨j,rfl,hj,HT,hb2⟩:=hrel;rename World=>w2;have x2:=x1.below hb2 x1.lt;have xL2:=xL1.below hb2 xL1.lt;have bw2:=bw1.trans (hb2.mono bw1.size);have cB0:=x2.cell 0;have hlw:wa.heap.size < w2.heap.size:=x2.lt;have hlL2:w.heap.size < w2.heap.size:=xL2.lt;rcases Nat.lt_or_ge j i with hjl | hjg
    ·have hj1:((j:Int) < (i:Int))=True:=by simp;omega
     have hjn:j < q:=by omega
     obtain ⟨a,ha,hA⟩:=((HL.out.drivers.dr q1).dr hb2).rowAt hjn;obtain ⟨d0,d1,hn2⟩:=hA;have hgw:g < w2.heap.size:=by have:=hb2.size;have:=q1.size;omega
     clear hn2;have hne1:¬ wa.heap.size=w2.heap.size:=by omega
     have hne2:¬ g=w2.heap.size:=by omega
     have htl:=aI b.name;by_cases heq:a.name=b.name
     ·have h6:x=6:=HXZ.out 6 (by decide) (by
       show aG n (L.drivers.take i) b=6;unfold aG
       rw [HV.out,if_neg (by decide),if_pos (gZ ha hjl heq)])
      rw [heq] at d0;have hee:(b.name == b.name)=true:=by simp
      clear heq ha;go_wp2;go_ret;exact ⟨by rw [h6];rfl,bw2.alloc bw2.size _⟩
     have hta:=aI a.name;have HT2:=Qh (fJ ha HT.out heq);have hee:(a.name == b.name)=false:=beq_eq_false_iff_ne.2 heq;clear heq ha HT;go_wp2_with fail;go_roundw
     case rel=>exact ⟨j+1,by go_num,by omega,HT2,hb2.alloc hb2.size _⟩
     case measure=>simp [intOf];omega
    have hj1:((j:Int) < (i:Int))=False:=by simp;omega
    obtain rfl:j=i:=by omega
    clear cB0;have cL1:=xL2.cell 1;have z1:=x2.cell 1;obtain ⟨v1,hv1⟩:∃ v,inI b.body n=v:=⟨_,rfl⟩;have HV1:=Qh hv1;have HT9:=HT;clear hv1;go_wp2_with fail;(with_reducible refine (o4 _ b.body n v1 HV1.out).mono ?_);rintro e' w3 ⟨rfl,hb3⟩;have bw3:=bw2.trans (hb3.mono bw2.size);have xL3:=xL2.below hb3 xL2.lt;have x3:=x2.below hb3 x2.lt;clear cL1 z1;cases v1
    ·have h9:x=9:=HXZ.out 9 (by decide) (by
      show aG n (L.drivers.take j) b=9;unfold aG
      rw [HV.out,if_neg (by decide),HT9.out,if_neg (by decide),if_pos HV1.out])
     go_wp2;go_ret;exact ⟨by rw [h9];rfl,bw3⟩
    have z1:=x3.cell 1;have cL3:=xL3.cell 3;have hl3:wa.heap.size < w3.heap.size:=x3.lt;by_cases hb0:b.body=0
    ·have e0:(b.body == 0)=true:=beq_iff_eq.2 hb0
     have h7:x=7:=HXZ.out 7 (by decide) (by
      show aG n (L.drivers.take j) b=7;unfold aG
      rw [HV.out,if_neg (by decide),HT9.out,if_neg (by decide),HV1.out,if_neg (by decide),if_pos hb0])
     clear hb0;go_wp2;go_ret;exact ⟨by rw [h7];rfl,bw3⟩
    have e0:(b.body == 0)=false:=beq_eq_false_iff_ne.2 hb0;have HB0:=Qh hb0;clear hb0;go_wp2_with fail;clear z1 cL3;go_loopw [60] (fun jv wr=>∃ r:Nat,jv=.int .i64 (r:Nat)∧r≤j∧Hid (((L.drivers.take r).any fun p=>p.body == b.body)=false)∧Below w3.heap.size w3 wr) (fun jv _=>j - (intOf jv).toNat)
    case atStart=>exact ⟨0,rfl,Nat.zero_le _,Qh rfl,aa w3⟩
    case round =>
     obtain ⟨r,rfl,hr,HR,hb4⟩:=hrel;rename World=>w4;have x4:=x3.below hb4 x3.lt;have xL4:=xL3.below hb4 xL3.lt;have bw4:=bw3.trans (hb4.mono bw3.size);have z1:=x4.cell 1;have hl4:wa.heap.size < w4.heap.size:=x4.lt;rcases Nat.lt_or_ge r j with hrl | hrg
     ·have hr1:((r:Int) < (j:Int))=True:=by simp;omega
      have hrn:r < q:=by omega
      obtain ⟨a,ha,hA⟩:=((((HL.out.drivers.dr q1).dr hb2).dr hb3).dr hb4).rowAt hrn;obtain ⟨d0,d1,hn2⟩:=hA;have hgw:g < w4.heap.size:=by have:=hb4.size;have:=hb3.size;have:=hb2.size;have:=q1.size;omega
      clear hn2;have hne1:¬ wa.heap.size=w4.heap.size:=by omega
      have hne2:¬ g=w4.heap.size:=by omega
      have ht4:L.drivers.take (r+1)=L.drivers.take r ++ [a]:=by rw [List.take_add_one,ha];rfl
      by_cases heq:a.body=b.body
      ·have h6:x=6:=HXZ.out 6 (by decide) (by
        show aG n (L.drivers.take j) b=6;unfold aG;rw [HV.out,if_neg (by decide),HT9.out,if_neg (by decide),HV1.out,if_neg (by decide),if_neg HB0.out,if_pos];rw [List.any_eq_true]
        exact ⟨a,List.mem_of_getElem? (i:=r) (by rw [List.getElem?_take,if_pos hrl];exact ha),by simpa using heq⟩)
       have hee:(a.body == b.body)=true:=beq_iff_eq.2 heq;clear heq ha ht4;go_wp2;go_ret;exact ⟨by rw [h6];rfl,bw4.alloc bw4.size _⟩
      ·have HR2:Hid (((L.drivers.take (r+1)).any fun p=>p.body == b.body)=false):=Qh (by
        rw [ht4,List.any_append,HR.out]
        simpa using heq)
       have hee:(a.body == b.body)=false:=beq_eq_false_iff_ne.2 heq;clear heq ha ht4 HR;go_wp2_with fail;go_roundw
       case rel=>exact ⟨r+1,by go_num,by omega,HR2,hb4.alloc hb4.size _⟩
       case measure=>simp [intOf];omega
     have hr1:((r:Int) < (j:Int))=False:=by simp;omega
     obtain rfl:r=j:=by omega
     have h0:aG n (L.drivers.take r) b=0:=by
      unfold aG;rw [HV.out,if_neg (by decide),HT9.out,if_neg (by decide),HV1.out,if_neg (by decide),if_neg HB0.out,HR.out];rfl
     have HX2:Hid (bQ (aG n) (L.drivers.take (r+1)) (L.drivers.drop (r+1))=x):=Qh (by
      rcases HS.out with ⟨_,u⟩ | ⟨u,_⟩
      ·exact u
      exact absurd h0 u)
     clear h0 z1;go_wp2_with fail;go_roundw
     case rel=>exact ⟨r+1,by go_num,by omega,HX2,xL4,bw4⟩
     case measure=>simp [intOf];omega
  have hi1:((i:Int) < (q:Int))=False:=by simp;omega
  have hx0:x=0:=fH HX.out (by rw [HLN.out];exact hge);go_wp2;go_ret;exact ⟨by rw [hx0];rfl,hb⟩
theorem eVp {x:Int}(h:x≠0):ba x=.iface 49 (.int .i64 x):=if_neg h
theorem eV0:ba 0=.nilIface:=if_pos rfl
theorem g7 (w:World) (A:Option Addr) (n c:Nat) (B:Option Addr) (p d:Nat) (C:Option Addr) (q e:Nat) (L:aj) (k:Nat) (h:LkS k w A n c B p d C q e L) (hk:k≤10000000) (hk1:0 < k) (x:Int) (hx:cf L=x) :
 Calls Tryz.prog 42 #[.agg #[af L.name,.slice A n c,.slice B p d,.slice C q e]] w (aE w (ba x)):=by
 have hln:=h.bodies.1;obtain ⟨v,hv⟩:∃ v,bI L.name=v:=⟨_,rfl⟩;have HV:=Qh hv;have HX:=Qh hx;have HL:=Qh hln;have H:=Qh h;clear hv hx hln h;go_in;go_wp2_with fail;(with_reducible refine (iA _ L.name H.out.name v HV.out).mono ?_);rintro e' w1 ⟨rfl,hb1⟩;have q1:=hb1.q1;have x1:Blk w1 w.heap.size 36 #[af L.name,.slice A n c,.slice B p d,.slice C q e]:=(am _ _ _ (by simp)).below hb1 (by simp);clear hb1;cases v
 ·have h5:x=5:=by rw [← HX.out];unfold cf;rw [if_pos HV.out]
  go_wp2;go_ret;exact ⟨by rw [h5];rfl,q1⟩
 have hX1:x=if n=0 then 10 else if 8 < n then 4 else if bQ bj [] L.bodies≠0 then bQ bj [] L.bodies
  else if 16 < L.joints.length then 4 else if bQ (be L) [] L.joints≠0 then bQ (be L) [] L.joints
  else if 2 < L.drivers.length then 4 else bQ (aG n) [] L.drivers:=by
  rw [← HX.out];unfold cf;rw [if_neg (by rw [HV.out];decide),HL.out]
 obtain ⟨y1,hy1⟩:∃ y,bQ bj [] L.bodies=y:=⟨_,rfl⟩;obtain ⟨y2,hy2⟩:∃ y,(if 16 < L.joints.length then (4:Int) else bQ (be L) [] L.joints)=y:=⟨_,rfl⟩;obtain ⟨y3,hy3⟩:∃ y,(if 2 < L.drivers.length then (4:Int) else bQ (aG n) [] L.drivers)=y:=⟨_,rfl⟩
 have hX2:x=if n=0 then 10 else if 8 < n then 4 else if y1≠0 then y1 else if y2≠0 then y2 else y3:=by
  rw [hX1,hy1,← hy2,← hy3];by_cases a:16 < L.joints.length
  ·simp [a]
  simp [a]
 have HX2:=Qh hX2;have HY1:=Qh hy1;have HY2:=Qh hy2;have HY3:=Qh hy3;clear hX1 hX2 hy1 hy2 hy3;have cx1:=x1.cell 1;by_cases h0:n=0
 ·have e0:((n:Int) == 0)=true:=beq_iff_eq.2 (by omega)
  have e00:((n:Int)=0)=True:=eq_true (by omega);have h10:x=10:=by rw [HX2.out,if_pos h0]
  clear h0;go_wp2;go_ret;exact ⟨by rw [h10];rfl,q1⟩
 have e0:((n:Int) == 0)=false:=beq_eq_false_iff_ne.2 (by omega);have e00:((n:Int)=0)=False:=eq_false (by omega);by_cases h8:8 < n
 ·have e8:((8:Int) < (n:Int))=True:=eq_true (by omega)
  have h4:x=4:=by rw [HX2.out,if_neg h0,if_pos h8]
  go_wp2;go_ret;exact ⟨by rw [h4];rfl,q1⟩
 have e8:((8:Int) < (n:Int))=False:=eq_false (by omega);have hX3:x=if y1≠0 then y1 else if y2≠0 then y2 else y3:=by rw [HX2.out,if_neg h0,if_neg h8]
 have HX3:=Qh hX3;clear hX3 h0;go_wp2_with fail;(with_reducible refine (rl _ A n c L.bodies k (H.out.bodies.bd q1) (by omega) (by omega) y1 HY1.out).mono ?_);rintro e' w2 ⟨rfl,hb2⟩;have q2:=q1.trans (hb2.mono q1.size);have x2:=x1.below hb2 x1.lt;clear cx1;by_cases h1:y1=0
 case neg =>
  have hxy:x=y1:=by rw [HX3.out,if_pos h1]
  rw [eVp h1];go_wp2;go_ret;exact ⟨by rw [hxy,eVp h1];rfl,q2⟩
 have hX4:x=if y2≠0 then y2 else y3:=by rw [HX3.out,if_neg (by simp [h1])]
 have HX4:=Qh hX4;clear hX4;subst h1;rw [eV0];have cx0:=x2.cell 0;have cx1:=x2.cell 1;have cx2:=x2.cell 2;have cx3:=x2.cell 3;go_wp2_with fail;(with_reducible refine (rD _ A n c B p d C q e L k (H.out.belw q2) hk hk1 (by omega) y2 HY2.out).mono ?_);rintro e' w3 ⟨rfl,hb3⟩;have q3:=q2.trans (hb3.mono q2.size);have x3:=x2.below hb3 x2.lt;clear cx0 cx1 cx2 cx3;by_cases h2:y2=0
 case neg =>
  have hxy:x=y2:=by rw [HX4.out,if_pos h2]
  rw [eVp h2];go_wp2;go_ret;exact ⟨by rw [hxy,eVp h2];rfl,q3⟩
 have hX5:x=y3:=by rw [HX4.out,if_neg (by simp [h2])]
 subst hX5;subst h2;rw [eV0];have cx0:=x3.cell 0;have cx1:=x3.cell 1;have cx2:=x3.cell 2;have cx3:=x3.cell 3;go_wp2_with fail;(with_reducible refine (pg _ A n c B p d C q e L k (H.out.belw q3) hk hk1 (by omega) x HY3.out).mono ?_);rintro e' w4 ⟨rfl,hb4⟩;have q4:=q3.trans (hb4.mono q3.size);clear cx0 cx1 cx2 cx3;go_wp2;go_ret;exact ⟨rfl,q4⟩
def dJ (l:List (List UInt8)):List Value:=l.map af
theorem vG (l:List UInt8):(⟨l.toArray⟩:ByteArray).data.toList=l:=by simp
theorem lS (w:World) (g cap n:Nat) (L:List (List UInt8)) (hL:L.length=n) (hcells:∀ (j:Nat) x,L[j]?=some x→w.cell? ⟨g,j,none⟩=some (af x)) (hg:g < w.heap.size) (hN:n≤140737488355328) (hcap:n≤cap) (hlen:(fd L).length≤140737488355328) :
 Calls Tryz.prog 62 #[.slice (some ⟨g,0,none⟩) n cap,.string ⟨#[32]⟩] w (aE w (af (fd L))):=by
 subst hL
 have e:(L.map fun x=>(⟨x.toArray⟩:ByteArray)).map (·.data.toList)=L:=by
  rw [List.map_map]
  conv=>rhs;rw [← List.map_id L]
  exact List.map_congr_left fun x _=>vG x
 have h:=Tryz.strings_Join g 0 cap (L.map fun x=>⟨x.toArray⟩) ⟨#[32]⟩ w (fun j x hx=>by
  rw [List.getElem?_map,Option.map_eq_some_iff] at hx;obtain ⟨y,hy,rfl⟩:=hx;rw [Nat.zero_add]
  exact hcells j y hy) hg (by rw [List.length_map];exact hN) (by rw [List.length_map];exact hcap) (by rw [e];show (Lib.join L [32]).length≤_;rw [lD];exact hlen)
 rw [List.length_map,e] at h;refine h.mono fun e' w' ⟨he,hb⟩=>⟨?_,hb⟩
 rw [he];show Ending.returned (.string ⟨(Lib.join L [32]).toArray⟩)=_;rw [lD]
theorem cj.nm {b:aq}(h:cj b):b.name.length≤1000:=by have:=h.1;omega
theorem cj.mks {b:aq}(h:cj b):∀ m∈b.pts,m.name.length≤1000:=fun m hm=>by have:=(h.2.2 m hm).1;omega
theorem cj.np {b:aq}(h:cj b):b.pts.length≤8:=h.2.1
theorem Sees.al {w0 w:World}(h:Below w0.heap.size w0 w) (o:Obj):Sees w0.heap.size w0 (w.alloc o):=Sees.of Qr (h.alloc h.size o)
theorem Blk.strs {w:World}{g t:Nat}{l:List (List UInt8)}(h:Blk w g t (dJ l).toArray) (k:Nat) (x:List UInt8) (hx:l[k]?=some x):w.cell? ⟨g,k,none⟩=some (af x):=by
 rw [h.cell k,List.getElem?_toArray];unfold dJ;rw [List.getElem?_map,hx];rfl
theorem Blk.owns {w:World}{base g t n:Nat}{l:List (List UInt8)}(h:Blk w g t (dJ l).toArray) (hb:base≤g) (hl:l.length=n) (hn:n≤1000):w.ownsRow base t 1 (.slice (some ⟨g,0,none⟩) n n) n (dJ l):=by
 subst hl;exact ⟨by simp [dJ],.inr ⟨g,_,_,rfl,hb,h,Qr,by unfold maxLen;omega,by simp [dJ],by rw [List.take_of_length_le (by simp [dJ])]⟩⟩
theorem ph {w:World}{base t n g cap:Nat}{l:List (List UInt8)}(h:w.ownsRow base t 1 (.slice (some ⟨g,0,none⟩) n cap) n (dJ l)):n≤cap∧∀ (k:Nat) x,l[k]?=some x→w.cell? ⟨g,k,none⟩=some (af x):=by
 rcases h.2 with ⟨h1,_⟩ | ⟨g',cap',cur,h1,_,h3,h4,_,_,h7⟩
 ·cases h1
 injection h1 with h1 _ h1';injection h1 with h1;injection h1 with h1;subst h1 h1';refine ⟨h4,fun k x hx=>?_⟩;rw [cell_of_row w g k cur _ (0,0) h3];have h9:(dJ l)[k]?=some (af x):=by unfold dJ;rw [List.getElem?_map,hx];rfl
 rw [← h7,List.getElem?_take] at h9;split at h9
 ·simpa using h9
 cases h9
abbrev SD (g g1 g2 o2:Nat) (a0 a1 a2 a3:Value) (w:World):Prop:=w.cell? ⟨g,0,none⟩=some a0∧w.cell? ⟨g,1,none⟩=some a1∧w.cell? ⟨g1,1,none⟩=some a2∧w.cell? ⟨g2,o2,none⟩=some a3
theorem SlS.bodyShort {w:World}{A:Option Addr}{n c:Nat}{l:List aq}(h:SlS (du 500) 2 w A n c l) (ho:∀ b∈l,cj b):∀ b∈l,∀ m∈b.pts,eO m:=by
 intro b hb;obtain ⟨i,hi,e⟩:=List.getElem_of_mem hb;obtain ⟨g,o,a,_,_,_,ha,hp⟩:=h.at_ (i:=i) (by rw [← h.1];exact hi);rw [List.getElem?_eq_getElem hi] at ha;injection ha with ha;rw [← ha,e] at hp;obtain ⟨A',n',c',_,_,hM,_⟩:=hp;exact hM.short fun m hm=>by have:=((ho b hb).2.2 m hm).1;omega
theorem SlS.lineLen {w:World}{A:Option Addr}{n c:Nat}{l:List aq}(h:SlS (du 500) 2 w A n c l) (ho:∀ b∈l,cj b):∀ b∈l,(bm b).length≤180000:=fun b hb=>kD (ho b hb).1 (ho b hb).2.1 (h.bodyShort ho b hb)
theorem rE (w:World) (A:Option Addr) (n c:Nat) (B:Option Addr) (p d:Nat) (C:Option Addr) (q e:Nat) (L:aj) (h:LkS 500 w A n c B p d C q e L) (he:cf L≠0):Calls Tryz.prog 29 #[.agg #[af L.name,.slice A n c,.slice B p d,.slice C q e]] w (fun e' w'=>e'=.returned (.tuple #[af [],ba (cf L)])∧Below w.heap.size w w'):=by
 obtain ⟨x,hx⟩:∃ x,cf L=x:=⟨_,rfl⟩;rw [hx] at he ⊢;have HX:=Qh hx;have H:=Qh h;have hev:ba x=.iface 49 (.int .i64 x):=if_neg he;rw [hev];have HE:=Qh hev;clear h hx hev;go_in;go_wp2_with fail;have q0:Below w.heap.size w (w.alloc (.cells #[af L.name,.slice A n c,.slice B p d,.slice C q e] 36)):=(aa w).alloc Qr _;(with_reducible refine (g7 _ A n c B p d C q e L 500 (H.out.belw q0) (by decide) (by decide) x HX.out).mono ?_);rintro e' w1 ⟨rfl,hb1⟩;rw [HE.out];have q1:=q0.trans (hb1.mono q0.size);clear hb1;go_wp2_with fail;go_ret2;exact ⟨rfl,q1⟩
theorem sZ (w:World) (A:Option Addr) (n c:Nat) (B:Option Addr) (p d:Nat) (C:Option Addr) (q e:Nat) (L:aj) (h:LkS 500 w A n c B p d C q e L) (htab:Tab w) (hc:cf L=0):Calls Tryz.prog 29 #[.agg #[af L.name,.slice A n c,.slice B p d,.slice C q e]] w (fun e' w'=>e'=.returned (.tuple #[af (cl L),ba (aJ L)])∧Below w.heap.size w w'):=by
 have hk:=rn hc;have hln:=h.bodies.1;have hlj:=h.joints.1;have hld:=h.drivers.1;have hnb:=hk.nb;have hnj:=hk.nj;have hnd:=hk.nd;have hb0:=hk.b0;have hnc:=h.bodies.2.1;have hpc:=h.joints.2.1;have hqc:=h.drivers.2.1;have hnm:L.name.length≤24:=hk.name;have hsn:=ai L.name;rw [hln] at hnb hb0;rw [hlj] at hnj;rw [hld] at hnd;have hfb:=dW bm 180000 L.bodies (h.bodies.lineLen hk.body);have hfj:=dW (aH L.bodies) 200 L.joints fun j hj=>ff hk.body (hk.joint j hj).1
 have hfd:=dW (aN L.bodies) 60 L.drivers fun d hd=>iE hk.body (hk.driver d hd).1
 rw [hln] at hfb;rw [hlj] at hfj;rw [hld] at hfd;obtain ⟨h1,eh1⟩:∃ t,[108,105,110,107,97,103,101,32] ++ L.name=t:=⟨_,rfl⟩;have ah1:=bB ([108,105,110,107,97,103,101,32]) (L.name);rw [eh1] at ah1;have lh1:h1.length=8+L.name.length:=by rw [← eh1,List.length_append];try simp
 have kh1:(9223372036854775807 < 8+L.name.length)=False:=eq_false (by omega);have zh1:=ai h1;obtain ⟨h2,eh2⟩:∃ t,h1 ++ [59,10]=t:=⟨_,rfl⟩;have ah2:=bB (h1) ([59,10]);rw [eh2] at ah2;have lh2:h2.length=h1.length+2:=by rw [← eh2,List.length_append];try simp
 have kh2:(9223372036854775807 < h1.length+2)=False:=eq_false (by omega);have zh2:=ai h2;have hl2:h2.length≤34:=by omega
 obtain ⟨S1,hS1⟩:∃ S,h2 ++ L.bodies.flatMap bm=S:=⟨_,rfl⟩;obtain ⟨S2,hS2⟩:∃ S,S1 ++ L.joints.flatMap (aH L.bodies)=S:=⟨_,rfl⟩;obtain ⟨S3,hS3⟩:∃ S,S2 ++ L.drivers.flatMap (aN L.bodies)=S:=⟨_,rfl⟩;have hlS1:S1.length≤34+180000 * n:=by rw [← hS1,List.length_append];omega
 have hlS2:S2.length≤34+180000 * n+200 * p:=by rw [← hS2,List.length_append];omega
 have hlS3:S3.length≤34+180000 * n+200 * p+60 * q:=by rw [← hS3,List.length_append];omega
 have hT3:bZ L=S3:=by
  rw [← hS3,← hS2,← hS1,← eh2,← eh1];unfold bZ lJ;simp
 have H:=Qh h;have HK:=Qh hk;have HC:=Qh hc;have HTab:=Qh htab;have HS1:=Qh hS1;have HS2:=Qh hS2;have HS3:=Qh hS3;have HT3:=Qh hT3;have HFB:=Qh hfb;have HFJ:=Qh hfj;have HFD:=Qh hfd;have HLB:=Qh hln;have HLJ:=Qh hlj;have HLD:=Qh hld;have HL1:=Qh hlS1;have HL2:=Qh hlS2;have HL3:=Qh hlS3;clear h hk hc htab hS1 hS2 hS3 hT3 hfb hfj hfd hln hlj hld eh1 eh2 lh1 lh2 hlS1 hlS2 hlS3;go_in;go_wp2_with fail;have q0:Below w.heap.size w (w.alloc (.cells #[af L.name,.slice A n c,.slice B p d,.slice C q e] 36)):=(aa w).alloc Qr _;have x0:Blk (w.alloc (.cells #[af L.name,.slice A n c,.slice B p d,.slice C q e] 36)) w.heap.size 36 #[af L.name,.slice A n c,.slice B p d,.slice C q e]:=am _ _ _ rfl;(with_reducible refine (g7 _ A n c B p d C q e L 500 (H.out.belw q0) (by decide) (by decide) 0 HC.out).mono ?_);rintro e' w1 ⟨rfl,hb1⟩;rw [show ba 0=.nilIface from if_pos rfl];have q1:=q0.trans (hb1.mono q0.size);have x1:=x0.below hb1 x0.lt;have hlw1:w.heap.size < w1.heap.size:=x1.lt;have cx0:=x1.cell 0;clear hb1 q0 x0;go_wp2_with fail;clear cx0;have B1:Bu w1.heap.size w1.heap.size (w1.alloc (.cells #[.pointer none,.slice none 0 0] 70)) []:=Bu.new;have qa:Below w1.heap.size w1 (w1.alloc (.cells #[.pointer none,.slice none 0 0] 70)):=(aa w1).alloc Qr _;have xa:=x1.below qa x1.lt;(with_reducible refine (bU _ _ _ _ h2 B1 (by simp only [List.length_nil];omega)).mono ?_);rintro e' w2 ⟨rfl,B2,q2,_⟩;rw [List.nil_append] at B2;have q2:=qa.trans q2;have x2:=x1.below q2 x1.lt;have bw2:=q1.trans (q2.mono q1.size);have HB2:=Qh B2;have cx1:=x2.cell 1;clear qa xa B1 B2 q1 x1;go_wp2_with fail;clear cx1;go_loopw [26] (fun iv wr=>∃ i:Nat,iv=.int .i64 (i:Nat)∧i≤n∧Hid (Bu w1.heap.size w1.heap.size wr (h2 ++ (L.bodies.take i).flatMap bm))∧Below w1.heap.size w2 wr) (fun iv _=>n - (intOf iv).toNat)
 case atStart=>exact ⟨0,rfl,Nat.zero_le _,by simpa using HB2,Below.refl _ _⟩
 case round =>
  clear HB2;obtain ⟨i,rfl,hi,HB,hb⟩:=hrel;rename World=>wa;have xa:=x2.below hb hlw1;have bwa:=bw2.trans (hb.mono (Nat.le_of_lt hlw1));rcases Nat.lt_or_ge i n with hlt | hge
  ·have hi1:((i:Int) < (n:Int))=True:=by simp;omega
   obtain ⟨g,o,b,e1,hg,_,hbi,hBd⟩:=(H.out.bodies.bd bwa).at_ hlt;subst e1;have hok:=HK.out.body b (List.mem_of_getElem? hbi);have hms:=(H.out.bodies.bd bwa).bodyShort HK.out.body b (List.mem_of_getElem? hbi);obtain ⟨A',n',c',d0,d1,hM,_⟩:=hBd;have hfs:=dF bm hbi;have hfl2:=dG bm L.bodies (i+1);rw [hfs,List.length_append] at hfl2;obtain ⟨T,hT⟩:∃ T,fM b=T:=⟨_,rfl⟩;obtain ⟨T1,hT1⟩:∃ t,T ++ [10]=t:=⟨_,rfl⟩;have hlt1:bm b=T1:=by rw [← hT1,← hT];rfl
   rw [hlt1] at hfs hfl2;have aT1:=bB T [10];rw [hT1] at aT1;have hlT:T1.length=T.length+1:=by rw [← hT1,List.length_append];rfl
   have h9:=HFB.out;have kT1:(9223372036854775807 < T.length+1)=False:=eq_false (by omega);have hsT:=ai T;have hlw:(h2 ++ (L.bodies.take i).flatMap bm).length+T1.length≤140737488355328:=by rw [List.length_append];omega
   have HW:=Qh hlw;have HFS:Hid (h2 ++ (L.bodies.take (i+1)).flatMap bm=h2 ++ (L.bodies.take i).flatMap bm ++ T1):=Qh (by rw [hfs,List.append_assoc]);have HT:=Qh hT;have HM:=Qh hM;have HOK:=Qh hok;have hlen9:=hok.2.1;rw [hM.1] at hlen9;clear hbi hok hms hM hfs hfl2 hT hT1 hlt1 hlT h9 hlw;have hga:g < wa.heap.size:=hg;go_wp2_with fail;have xp:Blk (wa.alloc (.cells #[af b.name,.slice A' n' c'] 62)) wa.heap.size 62 #[af b.name,.slice A' n' c']:=am _ _ _ rfl;have qb:Below wa.heap.size wa (wa.alloc (.cells #[af b.name,.slice A' n' c'] 62)):=(aa wa).alloc Qr _;have HBb:=Qh (HB.out.belw qb);have HTb:=Qh ((HTab.out.belw bwa).belw qb);have HMb:=Qh (HM.out.mk_ qb);have hbB:w1.heap.size < wa.heap.size:=HB.out.lt;clear HB HM d0 d1;generalize (wa.alloc (.cells #[af b.name,.slice A' n' c'] 62))=wb at xp qb HBb HTb HMb ⊢;(with_reducible refine (ut _ A' n' c' b HMb.out HTb.out (by omega) HOK.out.nm HOK.out.mks T HT.out).mono ?_);rintro e' wc ⟨rfl,qc⟩;have qc2:=ag qb qc;go_wp2_with fail;(with_reducible refine (bU _ _ _ _ T1 (HBb.out.belw qc) HW.out).mono ?_);rintro e' wd ⟨rfl,Bd,qd,_⟩;have HBd:Hid (Bu w1.heap.size w1.heap.size wd (h2 ++ (L.bodies.take (i+1)).flatMap bm)):=Qh (by rw [HFS.out];exact Bd);have bd:=(hb.trans (qc2.mono (Nat.le_of_lt hbB))).trans qd;clear Bd HFS;go_wp2_with fail;go_roundw
   case rel=>exact ⟨i+1,by go_num,by omega,HBd,bd⟩
   case measure=>simp [intOf];omega
  have hi1:((i:Int) < (n:Int))=False:=by simp;omega
  have hin:L.bodies.take i=L.bodies:=List.take_of_length_le (by rw [HLB.out];exact hge);rw [hin,HS1.out] at HB;have HB1:=HB;have cx2:=xa.cell 2;clear hin HB;go_wp2_with fail;clear cx2;go_loopw [38] (fun iv wr=>∃ i2:Nat,iv=.int .i64 (i2:Nat)∧i2≤p∧Hid (Bu w1.heap.size w1.heap.size wr (S1 ++ (L.joints.take i2).flatMap (aH L.bodies)))∧Below w1.heap.size w2 wr) (fun iv _=>p - (intOf iv).toNat)
  case atStart=>exact ⟨0,rfl,Nat.zero_le _,by simpa using HB1,hb⟩
  case round =>
   clear HB1 xa bwa hb;obtain ⟨i2,rfl,hi2,HB,hb⟩:=hrel;rename World=>wj;have xa:=x2.below hb hlw1;have bwa:=bw2.trans (hb.mono (Nat.le_of_lt hlw1));rcases Nat.lt_or_ge i2 p with hlt2 | hge2
   ·have hi3:((i2:Int) < (p:Int))=True:=by simp;omega
    obtain ⟨g,o,j,e1,hg,_,hbi,hJt⟩:=(H.out.joints.jt bwa).at_ hlt2;subst e1;have hok:=HK.out.joint j (List.mem_of_getElem? hbi);obtain ⟨hjn,ja,jb,jp,jo,x,y,m1,m2,ea,eb,ep,eo,hx,hy,hm1,hm2,hkd⟩:=hok;obtain ⟨d0,d1,d2,d3,d4,d5,d6,_⟩:=hJt;obtain ⟨F1,hF1⟩:∃ F,x.name ++ 46 :: m1.name=F:=⟨_,rfl⟩;obtain ⟨F2,hF2⟩:∃ F,y.name ++ 46 :: m2.name=F:=⟨_,rfl⟩;have hbx:=HK.out.body x (List.mem_of_getElem? hx);have hby:=HK.out.body y (List.mem_of_getElem? hy);have HJ1:=Qh (And.intro hx (And.intro hm1 (And.intro hbx.nm (And.intro (hbx.mks m1 (List.mem_of_getElem? hm1)) hF1))));have HJ2:=Qh (And.intro hy (And.intro hm2 (And.intro hby.nm (And.intro (hby.mks m2 (List.mem_of_getElem? hm2)) hF2))));have hf1:eC L.bodies j.a j.point=F1:=by rw [ea,ep,kC hx hm1,hF1]
    have hf2:eC L.bodies j.b j.on=F2:=by rw [eb,eo,kC hy hm2,hF2]
    have hfs:=dF (aH L.bodies) hbi;have hfl2:=dG (aH L.bodies) L.joints (i2+1);rw [hfs,List.length_append] at hfl2;have hjl:=ff HK.out.body hjn;rw [ea] at d2;rw [ep] at d3;rw [eb] at d4;rw [eo] at d5;have hsj:=ai j.name;have hga:g < wj.heap.size:=hg;have h9:=HFJ.out;have h8:=HL1.out;have hlw:(S1 ++ (L.joints.take i2).flatMap (aH L.bodies)).length+(aH L.bodies j).length≤140737488355328:=by rw [List.length_append];omega
    have HW:=Qh hlw;have HFS:Hid (S1 ++ (L.joints.take (i2+1)).flatMap (aH L.bodies)=S1 ++ (L.joints.take i2).flatMap (aH L.bodies) ++ aH L.bodies j):=Qh (by rw [hfs,List.append_assoc]);have HBI:=Qh (And.intro hf1 (And.intro hf2 hjl));have HKD:=Qh hkd;have HBY:=Qh (And.intro hy hby);have HEB:=Qh eb;clear hF1 hF2 hx hy hm1 hm2 hbx hby hf1 hf2 hfs hfl2 hjl ea ep eb eo hbi h9 h8 hlw hkd;go_wp2_with fail;have xp:Blk (wj.alloc (.cells #[af j.name,.int .i64 j.kind,.int .i64 (ja:Nat),.int .i64 (jp:Nat),.int .i64 (jb:Nat),.int .i64 (jo:Nat),.int .i64 j.to_] 79)) wj.heap.size 79 #[af j.name,.int .i64 j.kind,.int .i64 (ja:Nat),.int .i64 (jp:Nat),.int .i64 (jb:Nat),.int .i64 (jo:Nat),.int .i64 j.to_]:=am _ _ _ rfl;have qb:Below wj.heap.size wj (wj.alloc (.cells #[af j.name,.int .i64 j.kind,.int .i64 (ja:Nat),.int .i64 (jp:Nat),.int .i64 (jb:Nat),.int .i64 (jo:Nat),.int .i64 j.to_] 79)):=(aa wj).alloc Qr _;have HBb:=Qh (HB.out.belw qb);have HTb:=Qh ((HTab.out.belw bwa).belw qb);have HBod:=Qh ((H.out.bodies.bd bwa).bd qb);have hbB:w1.heap.size < wj.heap.size:=HB.out.lt;have xb:=xa.below qb xa.lt;have bwb:=hb.trans (qb.mono (Nat.le_of_lt hbB));clear HB d0 d1 d2 d3 d4 d5 d6 xa;generalize (wj.alloc (.cells #[af j.name,.int .i64 j.kind,.int .i64 (ja:Nat),.int .i64 (jp:Nat),.int .i64 (jb:Nat),.int .i64 (jo:Nat),.int .i64 j.to_] 79))=wb at xp qb HBb HTb HBod xb bwb ⊢;have hlb:wj.heap.size < wb.heap.size:=xp.lt;have hlb2:w.heap.size < wb.heap.size:=xb.lt;obtain ⟨cp0,cp1,cp2,cp3,cp4,cp5,cp6⟩:=xp.c7;obtain ⟨cb0,cb1,cb2,cb3⟩:=xb.c4
    go_region_held3 (fun w'=>Sees wb.heap.size wb w') (first | with_reducible exact Sees.of Qr (by assumption) | with_reducible exact Sees.of Qr (aa _).drew | with_reducible exact Sees.al (by assumption) _ | exact Sees.of Qr (ae (aa _) 1) | exact Sees.of Qr (ae (by assumption) _))
     (first
      | (go_at_call 61;(with_reducible refine (mM _ _ _ _ _ _ _ _ _ _ _ L.bodies 500 ?_ ja jp x m1 HJ1.out.1 HJ1.out.2.1 HJ1.out.2.2.1 HJ1.out.2.2.2.1 F1 HJ1.out.2.2.2.2).mono ?_);(exact HBod.out.bd (by first | exact qwf2 | exact aa _ | exact (aa wb).drew | exact ae (aa wb) _));rintro e' wf1 ⟨rfl,hwf1⟩;have qwf1:Below wb.heap.size wb wf1:=(by first | exact ag qwf2 hwf1 | exact ag (aa wb) hwf1 | exact ag (ae (aa wb) _) hwf1))
      | (go_at_call 61;(with_reducible refine (mM _ _ _ _ _ _ _ _ _ _ _ L.bodies 500 ?_ jb jo y m2 HJ2.out.1 HJ2.out.2.1 HJ2.out.2.2.1 HJ2.out.2.2.2.1 F2 HJ2.out.2.2.2.2).mono ?_);(exact HBod.out.bd (by first | exact qwf1 | exact aa _ | exact (aa wb).drew | exact ae (aa wb) _));rintro e' wf2 ⟨rfl,hwf2⟩;have qwf2:Below wb.heap.size wb wf2:=(by first | exact ag qwf1 hwf2 | exact ag (aa wb) hwf2 | exact ag (ae (aa wb) _) hwf2)))
    all_goals
     rename_i hHeld;clear hHeld hwf1 hwf2
     first
      | clear qwf1 wf1
      | clear qwf2 wf2
     rename World=>wl;rename Below wb.heap.size wb wl=>ql;have xs:Blk (wl.alloc (.cells #[.string ⟨#[112,105,110]⟩,af j.name,af F1,af F2] 9)) wl.heap.size 9 (dJ [[112,105,110],j.name,F1,F2]).toArray:=am _ _ _ rfl;have qs:Below wb.heap.size wb (wl.alloc (.cells #[.string ⟨#[112,105,110]⟩,af j.name,af F1,af F2] 9)):=ql.alloc ql.size _;have hgl:wb.heap.size≤wl.heap.size:=ql.size;clear cp0 cp1 cp2 cp3 cp4 cp5 cp6 cb0 cb1 cb2 cb3 ql;generalize (wl.alloc (.cells #[.string ⟨#[112,105,110]⟩,af j.name,af F1,af F2] 9))=ws at xs qs ⊢;have hls:wl.heap.size < ws.heap.size:=xs.lt;have xp2:=xp.below qs xp.lt;have xb2:=xb.below qs xb.lt;have bws:=bwb.trans (qs.mono (by omega));have cp1:=xp2.cell 1;rcases HKD.out with ⟨hk0,_⟩ | ⟨hk1,jt,m3,et,hm3⟩
     ·have e10:(j.kind == 1)=false:=by rw [hk0];rfl
      have hw0:cF L.bodies j=[[112,105,110],j.name,F1,F2]:=by
       unfold cF;rw [if_neg (by omega),HBI.out.1,HBI.out.2.1]
      obtain ⟨J,hJ⟩:∃ J,fd [[112,105,110],j.name,F1,F2]=J:=⟨_,rfl⟩;obtain ⟨T,hT⟩:∃ T,J ++ [59,10]=T:=⟨_,rfl⟩;have hTT:aH L.bodies j=T:=by unfold aH;rw [hw0,hJ,hT]
      have aT:=bB J [59,10];rw [hT] at aT;have hlT:T.length=J.length+2:=by rw [← hT,List.length_append];rfl
      have hl200:=HBI.out.2.2;rw [hTT] at hl200;have kT:(9223372036854775807 < J.length+2)=False:=eq_false (by omega);have hsJ:=ai J;have hWT:=HW.out;rw [hTT] at hWT;have HWT:=Qh hWT;have HTT:=Qh hTT;have HJ:=Qh hJ;clear hk0 hw0 hT hTT hWT;go_wp2_with fail;(with_reducible refine (lS ws wl.heap.size 4 4 _ rfl xs.strs hls (by decide) (by decide) (by rw [HJ.out];omega)).mono ?_);rintro e' wt ⟨rfl,qt⟩;rw [HJ.out];go_wp2_with fail;(with_reducible refine (bU _ _ _ _ T ((HBb.out.belw qs).belw qt) HWT.out).mono ?_);rintro e' wu ⟨rfl,Bw,qu,_⟩;have HBu:Hid (Bu w1.heap.size w1.heap.size wu (S1 ++ (L.joints.take (i2+1)).flatMap (aH L.bodies))):=Qh (by rw [HFS.out,HTT.out];exact Bw);have bu:=(bws.trans (qt.mono (by omega))).trans qu;clear Bw;go_wp2_with fail;go_roundw
      case rel=>exact ⟨i2+1,by go_num,by omega,HBu,bu⟩
      case measure=>simp [intOf];omega
     have e10:(j.kind == 1)=true:=by rw [hk1];rfl
     obtain ⟨F3,hF3⟩:∃ F,y.name ++ 46 :: m3.name=F:=⟨_,rfl⟩;have hby:=HBY.out.2;have HJ3:=Qh (And.intro HBY.out.1 (And.intro hm3 (And.intro hby.nm (And.intro (hby.mks m3 (List.mem_of_getElem? hm3)) hF3))))
     have hw0:cF L.bodies j=[[115,108,105,100,101],j.name,F1,F2,F3]:=by
      unfold cF;have hf3:=kC HBY.out.1 hm3;rw [if_pos hk1,HBI.out.1,HBI.out.2.1,HEB.out,et,hf3,hF3]
     have hto:((jt:Nat):Int)=j.to_:=et.symm;obtain ⟨J,hJ⟩:∃ J,fd [[115,108,105,100,101],j.name,F1,F2,F3]=J:=⟨_,rfl⟩;obtain ⟨T,hT⟩:∃ T,J ++ [59,10]=T:=⟨_,rfl⟩;have hTT:aH L.bodies j=T:=by unfold aH;rw [hw0,hJ,hT]
     have aT:=bB J [59,10];rw [hT] at aT;have hlT:T.length=J.length+2:=by rw [← hT,List.length_append];rfl
     have hl200:=HBI.out.2.2;rw [hTT] at hl200;have kT:(9223372036854775807 < J.length+2)=False:=eq_false (by omega);have hsJ:=ai J;have hWT:=HW.out;rw [hTT] at hWT;have HWT:=Qh hWT;have HTT:=Qh hTT;have HJ:=Qh hJ;rw [et] at xp2 xp;obtain ⟨i0,hi0,hz0,hz1,hz2⟩:=info_parts ln;have HI:=Qh (And.intro hi0 (And.intro hz0 (And.intro hz1 hz2)));clear hk1 hi0 hz0 hz1 hz2 et hto hm3 hF3 hby hw0 hT hTT hWT;have xs0:=xs.cell 0;have xf0:=xs.frozen 0;have xs1:=xs.cell 1;have cp4:=xp2.cell 4;have cp6:=xp2.cell 6;obtain ⟨cb0,cb1,cb2,cb3⟩:=xb2.c4;have hne1:¬ w.heap.size=wl.heap.size:=by omega
     have hne2:¬ wj.heap.size=wl.heap.size:=by omega
     have xs5:Blk (ws.setCell ⟨wl.heap.size,0,none⟩ (af [115,108,105,100,101])) wl.heap.size 9 (dJ [[115,108,105,100,101],j.name,F1,F2]).toArray:=xs.set_ 0 _;have qs5:Below wb.heap.size wb (ws.setCell ⟨wl.heap.size,0,none⟩ (af [115,108,105,100,101])):=qs.setCell (p:=⟨wl.heap.size,0,none⟩) hgl _;clear xs;go_wp2_with fail;clear cb0 cb1 cb2 cb3 cp4 cp6 cp1 xs0 xs1 xf0;generalize (ws.setCell ⟨wl.heap.size,0,none⟩ (af [115,108,105,100,101]))=wv at xs5 qs5 ⊢;(with_reducible refine (mM _ _ _ _ _ _ _ _ _ _ _ L.bodies 500 (HBod.out.bd qs5) jb jt y m3 HJ3.out.1 HJ3.out.2.1 HJ3.out.2.2.1 HJ3.out.2.2.2.1 F3 HJ3.out.2.2.2.2).mono ?_);rintro e' wt ⟨rfl,qt⟩;have xs6:=xs5.below qt xs5.lt;have q6:=ag qs5 qt;have HO:=Qh ((xs6.owns (n:=4) hgl rfl (by decide)).alloc (.cells #[af F3] 9));go_wp2_with (at_builtin;refine wpList_append_lies _ rfl _ _ _ rfl wb.heap.size 9 i0 (.string ⟨#[]⟩) 1 16 Tryz.underlying113 HI.out.1 HI.out.2.1 HI.out.2.2.1 HI.out.2.2.2 rfl (by omega) (.slice (some ⟨wl.heap.size,0,none⟩) 4 4) 4 (dJ [[115,108,105,100,101],j.name,F1,F2]) rfl HO.out ⟨wt.heap.size,0,none⟩ 1 1 [_] rfl rfl (World.news_of_block (heap_alloc_new wt _)) (by simp [Value.oneCell']) (by omega) (by unfold maxLen;omega) (by omega) (by have:=q6.size;simp;omega) (wt.heap.size+1) (by simp) ?_;intro gx cap w9 hown1 hgrow hat hlt1);have ho5:=ph (l:=[[115,108,105,100,101],j.name,F1,F2,F3]) hown1;have HO5:=Qh ho5;have b9:Below wb.heap.size wb w9:=(q6.alloc q6.size _).grown hgrow (by have:=q6.size;simp;omega) (fun k hk=>by cases hk;exact hgl);clear ho5 hown1 hgrow hat;(with_reducible refine (lS w9 gx cap 5 _ rfl HO5.out.2 hlt1 (by decide) HO5.out.1 (by rw [HJ.out];omega)).mono ?_);rintro e' wy ⟨rfl,qy⟩;rw [HJ.out];have q9:=ag b9 qy;go_wp2_with fail;(with_reducible refine (bU _ _ _ _ T (HBb.out.belw q9) HWT.out).mono ?_);rintro e' wu ⟨rfl,Bw,qu,_⟩;have HBu:Hid (Bu w1.heap.size w1.heap.size wu (S1 ++ (L.joints.take (i2+1)).flatMap (aH L.bodies))):=Qh (by rw [HFS.out,HTT.out];exact Bw);have bu:=(bwb.trans (q9.mono (by omega))).trans qu;clear Bw;go_wp2_with fail;go_roundw
     case rel=>exact ⟨i2+1,by go_num,by omega,HBu,bu⟩
     case measure=>simp [intOf];omega
   have hi3:((i2:Int) < (p:Int))=False:=by simp;omega
   have hin:L.joints.take i2=L.joints:=List.take_of_length_le (by rw [HLJ.out];exact hge2);rw [hin,HS2.out] at HB;have HB2:=HB;have cx3:=xa.cell 3;clear hin HB;go_wp2_with fail;clear cx3;go_loopw [79] (fun iv wr=>∃ i3:Nat,iv=.int .i64 (i3:Nat)∧i3≤q∧Hid (Bu w1.heap.size w1.heap.size wr (S2 ++ (L.drivers.take i3).flatMap (aN L.bodies)))∧Below w1.heap.size w2 wr) (fun iv _=>q - (intOf iv).toNat)
   case atStart=>exact ⟨0,rfl,Nat.zero_le _,by simpa using HB2,hb⟩
   case round =>
    clear HB2 xa bwa hb;obtain ⟨i3,rfl,hi3',HB,hb⟩:=hrel;rename World=>wk;have xa:=x2.below hb hlw1;have bwa:=bw2.trans (hb.mono (Nat.le_of_lt hlw1));rcases Nat.lt_or_ge i3 q with hlt3 | hge3
    ·have hi4:((i3:Int) < (q:Int))=True:=by simp;omega
     obtain ⟨g,o,dv,e1,hg,_,hbi,hDr⟩:=(H.out.drivers.dr bwa).at_ hlt3;subst e1;obtain ⟨hdn,di,y,ei,hy⟩:=HK.out.driver dv (List.mem_of_getElem? hbi);have hil:di < n:=by rw [← HLB.out];exact (List.getElem?_eq_some_iff.1 hy).1
     obtain ⟨gb,ob,y',e1,hgb,_,hy',hBy⟩:=H.out.bodies.at_ hil;rw [hy] at hy';injection hy' with hy';subst hy' e1;obtain ⟨A',n',c',k0,k1,hM,_⟩:=hBy;have hby:=HK.out.body y (List.mem_of_getElem? hy);have hyn:=hby.nm;obtain ⟨d0,d1,_⟩:=hDr;rw [ei] at d1;have hsd:=ai dv.name;have hsy:=ai y.name;obtain ⟨g1,eg1⟩:∃ t,[100,114,105,118,101,114,32] ++ dv.name=t:=⟨_,rfl⟩;have ag1:=bB ([100,114,105,118,101,114,32]) (dv.name);rw [eg1] at ag1;have lg1:g1.length=7+dv.name.length:=by rw [← eg1,List.length_append];try simp
     have kg1:(9223372036854775807 < 7+dv.name.length)=False:=eq_false (by omega);have zg1:=ai g1;obtain ⟨g2,eg2⟩:∃ t,g1 ++ [32]=t:=⟨_,rfl⟩;have ag2:=bB (g1) ([32]);rw [eg2] at ag2;have lg2:g2.length=g1.length+1:=by rw [← eg2,List.length_append];try simp
     have kg2:(9223372036854775807 < g1.length+1)=False:=eq_false (by omega);have zg2:=ai g2;obtain ⟨g3,eg3⟩:∃ t,g2 ++ y.name=t:=⟨_,rfl⟩;have ag3:=bB (g2) (y.name);rw [eg3] at ag3;have lg3:g3.length=g2.length+y.name.length:=by rw [← eg3,List.length_append];try simp
     have kg3:(9223372036854775807 < g2.length+y.name.length)=False:=eq_false (by omega);have zg3:=ai g3;obtain ⟨g4,eg4⟩:∃ t,g3 ++ [59,10]=t:=⟨_,rfl⟩;have ag4:=bB (g3) ([59,10]);rw [eg4] at ag4;have lg4:g4.length=g3.length+2:=by rw [← eg4,List.length_append];try simp
     have kg4:(9223372036854775807 < g3.length+2)=False:=eq_false (by omega);have zg4:=ai g4
     have hdt:aN L.bodies dv=g4:=by
      rw [← eg4,← eg3,← eg2,← eg1];unfold aN;rw [ei,sO hy]
     have hfs:=dF (aN L.bodies) hbi;have hfl2:=dG (aN L.bodies) L.drivers (i3+1);rw [hfs,List.length_append,hdt] at hfl2;rw [hdt] at hfs;have h9:=HFD.out;have h8:=HL2.out;have hlw:(S2 ++ (L.drivers.take i3).flatMap (aN L.bodies)).length+g4.length≤140737488355328:=by rw [List.length_append];omega
     have HW:=Qh hlw;have HFS:Hid (S2 ++ (L.drivers.take (i3+1)).flatMap (aN L.bodies)=S2 ++ (L.drivers.take i3).flatMap (aN L.bodies) ++ g4):=Qh (by rw [hfs,List.append_assoc]);have k0:=az k0 bwa;have hga:g < wk.heap.size:=hg;clear hM k1 hby hy ei hdt hfs hfl2 h9 h8 hlw hbi lg1 lg2 lg3 lg4 eg1 eg2 eg3 eg4;go_wp2_with fail;have xp:Blk (wk.alloc (.cells #[af dv.name,.int .i64 (di:Nat)] 81)) wk.heap.size 81 #[af dv.name,.int .i64 (di:Nat)]:=am _ _ _ rfl;have qb:Below wk.heap.size wk (wk.alloc (.cells #[af dv.name,.int .i64 (di:Nat)] 81)):=(aa wk).alloc Qr _;have HBb:=Qh (HB.out.belw qb);have hbB:w1.heap.size < wk.heap.size:=HB.out.lt;have xb:=xa.below qb xa.lt;have bwb:=hb.trans (qb.mono (Nat.le_of_lt hbB));have k0:=az k0 qb;clear HB d0 d1 xa;generalize (wk.alloc (.cells #[af dv.name,.int .i64 (di:Nat)] 81))=wb at xp qb HBb xb bwb k0 ⊢;have hlb:wk.heap.size < wb.heap.size:=xp.lt;have hlb2:w.heap.size < wb.heap.size:=xb.lt;obtain ⟨cp0,cp1⟩:=xp.c2;have cb1:=xb.cell 1;have f1:((di:Int) < (n:Int)):=by omega
     have hSb:SD wk.heap.size w.heap.size gb (ob+di * 2) (af dv.name) (.int .i64 (di:Nat)) (.slice (some ⟨gb,ob,none⟩) n c) (af y.name) wb:=⟨cp0,cp1,cb1,k0⟩
     go_region_held3 (SD wk.heap.size w.heap.size gb (ob+di * 2) (af dv.name) (.int .i64 (di:Nat)) (.slice (some ⟨gb,ob,none⟩) n c) (af y.name)) (first | assumption | exact hSb)
      (first
       | (go_at_call 27;(with_reducible refine (bU _ _ _ _ g4 (HBb.out.belw (by first | exact (aa wb).drew | exact ae (aa wb) _)) HW.out).mono ?_);rintro e' wu ⟨rfl,Bw,qu,ou⟩;have xu:=ou wk.heap.size 81 _ (by omega) (by decide) xp;have qu:Below w1.heap.size wb wu:=(by first | exact (Below.refl _ wb).drew.trans qu | exact (ae (Below.refl _ wb) _).trans qu);have hSu:SD wk.heap.size w.heap.size gb (ob+di * 2) (af dv.name) (.int .i64 (di:Nat)) (.slice (some ⟨gb,ob,none⟩) n c) (af y.name) wu:=⟨xu.cell 0,xu.cell 1,(xb.below qu hlw1).cell 1,(qu.cell (p:=⟨gb,ob+di * 2,none⟩) (Nat.lt_trans hgb hlw1)).trans k0⟩))
     have HBu:Hid (Bu w1.heap.size w1.heap.size wu (S2 ++ (L.drivers.take (i3+1)).flatMap (aN L.bodies))):=Qh (by rw [HFS.out];exact Bw);have bu:=bwb.trans qu;clear Bw cp0 cp1 cb1 k0 hSb hSu;go_wp2_with fail;go_roundw
     case rel=>exact ⟨i3+1,by go_num,by omega,HBu,bu⟩
     case measure=>simp [intOf];omega
    have hi4:((i3:Int) < (q:Int))=False:=by simp;omega
    have hin:L.drivers.take i3=L.drivers:=List.take_of_length_le (by rw [HLD.out];exact hge3);rw [hin,HS3.out] at HB;clear hin;go_wp2_with fail;(with_reducible refine (rk _ _ _ S3 HB.out).mono ?_);rintro e' w9 ⟨rfl,rfl⟩;by_cases h65:65536 < S3.length
    ·have f65:((65536:Int) < (S3.length:Int))=True:=eq_true (by omega)
     have hoE:aJ L=4:=by unfold aJ;rw [if_neg (by rw [HC.out];decide),if_pos (Or.inr (by rw [HT3.out];exact h65))]
     have hoT:cl L=[]:=by unfold cl;rw [if_neg (by rw [hoE];decide)]
     have HOE:=Qh (And.intro hoE hoT);clear hoE hoT;go_wp2_with fail;go_ret2;exact ⟨by rw [HOE.out.1,HOE.out.2];rfl,bwa⟩
    have f65:((65536:Int) < (S3.length:Int))=False:=eq_false (by omega);have H65:=Qh h65;obtain ⟨v,hv⟩:∃ v,iB L.bodies=v:=⟨_,rfl⟩;have HV:=Qh hv;obtain ⟨cb0,cb1,cb2,cb3⟩:=xa.c4;clear h65 hv;go_wp2_with fail;(with_reducible refine (uu _ A n c B p d C q e L.name L.bodies (H.out.bodies.bd bwa) (HTab.out.belw bwa) (by omega) (fun b hb=>by have:=(HK.out.body b hb).np;omega) v HV.out).mono ?_);rintro e' wz ⟨rfl,qz⟩;have bz:=bwa.trans (qz.mono bwa.size);clear cb0 cb1 cb2 cb3;cases v
    ·have hoE:aJ L=0:=by
      unfold aJ;rw [if_neg (by rw [HC.out];decide),if_neg (by rw [HT3.out,HV.out];intro hh;rcases hh with hh | hh;exact absurd hh (by decide);exact H65.out hh)]
     have hoT:cl L=S3:=by unfold cl;rw [if_pos hoE,HT3.out]
     have HOE:=Qh (And.intro hoE hoT);have HBz:=Qh (HB.out.belw qz);clear hoE hoT;go_wp2_with fail;(with_reducible refine (mL _ _ _ _ HBz.out).mono ?_);rintro e' wy ⟨rfl,qy⟩;have by_:=bz.trans (qy.mono (Nat.le_of_lt hlw1));go_wp2_with fail;go_ret2;exact ⟨by rw [HOE.out.1,HOE.out.2];rfl,by_⟩
    have hoE:aJ L=4:=by unfold aJ;rw [if_neg (by rw [HC.out];decide),if_pos (Or.inl HV.out)]
    have hoT:cl L=[]:=by unfold cl;rw [if_neg (by rw [hoE];decide)]
    have HOE:=Qh (And.intro hoE hoT);clear hoE hoT;go_wp2_with fail;go_ret2;exact ⟨by rw [HOE.out.1,HOE.out.2];rfl,bz⟩
theorem wrap_i64 {u:Int}(h1:-9223372036854775808≤u) (h2:u≤9223372036854775807):IntKind.i64.wrap u=u:=by rw [IntKind.wrap_i64];omega
theorem cz.words {k:Nat}{w:World}{g o:Nat}{r:RD}(h:cz w g o r k):RdW r:=by
 obtain ⟨b,A,n,c,D,m,e,_,_,_,hQ⟩:=h;exact ⟨hQ.2.1.1,hQ.2.2.1.1⟩
theorem SlS.markW {k:Nat}{w:World}{A:Option Addr}{n c:Nat}{l:List aA}(h:SlS (de k) 7 w A n c l):∀ m∈l,MkW m:=by
 intro m hm;obtain ⟨i,hi,e⟩:=List.getElem_of_mem hm;obtain ⟨g,o,a,_,_,_,ha,hp⟩:=h.at_ (i:=i) (by rw [← h.1];exact hi);rw [List.getElem?_eq_getElem hi] at ha;injection ha with ha;rw [← ha,e] at hp;exact ⟨hp.2.1.words,hp.2.2.1.words⟩
theorem LkS.words {k:Nat}{w:World}{A B C:Option Addr}{n c p d q e:Nat}{L:aj}(h:LkS k w A n c B p d C q e L):LkW L:=by
 intro b hb;obtain ⟨i,hi,e1⟩:=List.getElem_of_mem hb;obtain ⟨g,o,a,_,_,_,ha,hp⟩:=h.bodies.at_ (i:=i) (by rw [← h.bodies.1];exact hi);rw [List.getElem?_eq_getElem hi] at ha;injection ha with ha;rw [← ha,e1] at hp;obtain ⟨A',n',c',_,_,hM,_⟩:=hp;exact hM.markW
theorem cz.small {K k:Nat}{w:World}{g o:Nat}{r:RD}(h:cz w g o r K) (h1:r.num.length≤k) (h2:r.den.length≤k):cz w g o r k:=by
 obtain ⟨b,A,n,c,D,m,e,c1,c2,c3,hQ⟩:=h;refine ⟨b,A,n,c,D,m,e,c1,c2,c3,hQ.1,hQ.2.1,hQ.2.2.1,?_,?_⟩
 ·rw [hQ.2.1.2.1];exact h1
 rw [hQ.2.2.1.2.1];exact h2
theorem SlS.mono_ {α:Type}{P P':World→Nat→Nat→α→Prop}{s:Nat}{w:World}{A:Option Addr}{n c:Nat}{l:List α}(h:SlS P s w A n c l) (hP:∀ g o a,a∈l→P w g o a→P' w g o a):SlS P' s w A n c l:=by
 refine ⟨h.1,h.2.1,fun hn=>?_⟩;obtain ⟨g,o,e,hg,h3⟩:=h.2.2 hn;exact ⟨g,o,e,hg,fun i a ha=>hP _ _ _ (List.mem_of_getElem? ha) (h3 i a ha)⟩
section
variable {P:Program}{ops:Array Oper}{Q:Exit→Act→World→Prop}{fr:(Nat→Value)→Act}{R:Nat→Value→World→Prop}{id:Nat}{w:World}{x0:Nat→Value}
theorem lU {L:Array Bool}{i:Nat}{o:Oper}(hlt:i < L.size) (ho:ops[i]?=some o) (hall:∀ e∈o.after,Region.binds .any e=true→L.getD e.on false=true)
 (hcl:∀ i o,ops[i]?=some o→L.getD i false=true→∀ e∈o.after,Region.binds .any e=true→L.getD e.on false=true) :
 ∀ i' o',ops[i']?=some o'→(L.setIfInBounds i true).getD i' false=true→∀ e∈o'.after,Region.binds .any e=true→(L.setIfInBounds i true).getD e.on false=true:=by
 intro i' o' ho' hl e he hbd;rw [dC hlt] at hl ⊢;by_cases h:i'=i
 ·subst h;rw [ho] at ho';injection ho' with ho';subst ho'
  rw [hall e he hbd];simp
 have:L.getD i' false=true:=by simpa [h] using hl
 rw [hcl i' o' ho' this e he hbd];simp
def rF (l:List Oper) (n:Nat):Bool:=(List.range n).all fun j=>(List.range (n+1)).any fun k=>decide (j < k) && match l[k]? with | some o=>o.after.any (fun e=>Region.binds .any e && e.on == j) | none=>false
theorem fR {l:List Oper}{n j:Nat}(h:rF l n=true) (hj:j < n):∃ k o,j < k∧k≤n∧(l.toArray)[k]?=some o∧∃ e∈o.after,Region.binds .any e=true∧e.on=j:=by
 unfold rF at h;rw [List.all_eq_true] at h;have h1:=h j (List.mem_range.2 hj);rw [List.any_eq_true] at h1;obtain ⟨k,hk,h2⟩:=h1;rw [Bool.and_eq_true,decide_eq_true_eq] at h2;obtain ⟨hjk,h2⟩:=h2
 cases hl:l[k]? with
 | none=>rw [hl] at h2;cases h2
 | some o =>
  rw [hl] at h2;obtain ⟨e,he,h3⟩:=Array.any_eq_true'.1 h2;rw [Bool.and_eq_true] at h3;exact ⟨k,o,hjk,by have:=List.mem_range.1 hk;omega,by simpa using hl,e,he,h3.1,by simpa using h3.2⟩
end
def cP (w:World) (g0:Nat):Prop:=∀ o v,w.cell? ⟨g0,o,none⟩=some v→v=af []∨v=.slice none 0 0∨v=.bool false
def Off (g0:Nat) (w w':World):Prop:=(∀ g,g≠g0→w'.heap[g]?=w.heap[g]?)∧w'.heap.size=w.heap.size
theorem Off.refl (g0:Nat) (w:World):Off g0 w w:=⟨fun _ _=>rfl,rfl⟩
theorem Off.set {g0:Nat}{w w':World}(h:Off g0 w w') (i:Nat) (u:Value):Off g0 w (w'.setCell ⟨g0,i,none⟩ u) :=
 ⟨fun g hg=>(Below.heap_setCell w' ⟨g0,i,none⟩ u g hg).trans (h.1 g hg),by simp [World.setCell,h.2]⟩
section
variable {g0:Nat}{w w':World}
theorem cP.str {g o:Nat}{s:List UInt8}(z:cP w g0) (h:w.cell? ⟨g,o,none⟩=some (af s)) (hs:s≠[]):g≠g0:=by
 rintro rfl;rcases z o _ h with e | e | e
 ·injection e with e
  injection e with e;injection e with e;exact hs e
 ·cases e
 cases e
theorem bf {g o:Nat}(hg:g≠g0) (h:Off g0 w w'):w'.cell? ⟨g,o,none⟩=w.cell? ⟨g,o,none⟩:=by
 unfold World.cell?;rw [h.1 g hg]
theorem Wd.off {A:Option Addr}{n c:Nat}{l:List Nat}(x:Wd w A n c l) (z:cP w g0) (h:Off g0 w w'):Wd w' A n c l:=by
 refine ⟨x.1,x.2.1,x.2.2.1,fun hn=>?_⟩;obtain ⟨g,o,cur,fr,e,hr,hc⟩:=x.2.2.2 hn
 have hne:g≠g0:=by
  rintro rfl;have h0:=hc 0 hn;rw [← hr.cell] at h0;rcases z _ _ h0 with e | e | e <;> cases e
 exact ⟨g,o,cur,fr,e,hr.same (h.1 g hne),hc⟩
theorem QD.off {b:Bool}{A D:Option Addr}{n c m e k:Nat}{r:RD}(x:QD w b A n c D m e r k) (z:cP w g0) (h:Off g0 w w'):QD w' b A n c D m e r k:=⟨x.1,x.2.1.off z h,x.2.2.1.off z h,x.2.2.2⟩
theorem cz.off {g o k:Nat}{r:RD}(hg:g≠g0) (x:cz w g o r k) (z:cP w g0) (h:Off g0 w w'):cz w' g o r k:=by
 obtain ⟨b,A,n,c,D,m,e,h1,h2,h3,h4⟩:=x;exact ⟨b,A,n,c,D,m,e,(bf hg h).trans h1,(bf hg h).trans h2,(bf hg h).trans h3,h4.off z h⟩
theorem de.off {g o k:Nat}{m:aA}(hm:m.name≠[]) (x:de k w g o m) (z:cP w g0) (h:Off g0 w w'):de k w' g o m:=by
 have hg:=z.str x.1 hm;exact ⟨(bf hg h).trans x.1,x.2.1.off hg z h,x.2.2.1.off hg z h,x.2.2.2⟩
theorem SlS.off {α:Type}{P:World→Nat→Nat→α→Prop}{s:Nat}{A:Option Addr}{n c:Nat}{l:List α}(x:SlS P s w A n c l) (hP:∀ g o a,a∈l→P w g o a→P w' g o a) (h:Off g0 w w'):SlS P s w' A n c l:=by
 refine ⟨x.1,x.2.1,fun hn=>?_⟩;obtain ⟨g,o,e,hg,h3⟩:=x.2.2 hn;exact ⟨g,o,e,by rw [h.2];exact hg,fun i a ha=>hP _ _ _ (List.mem_of_getElem? ha) (h3 i a ha)⟩
theorem SlS.offM {k:Nat}{A:Option Addr}{n c:Nat}{l:List aA}(hm:∀ m∈l,m.name≠[]) (x:SlS (de k) 7 w A n c l) (z:cP w g0) (h:Off g0 w w'):SlS (de k) 7 w' A n c l:=x.off (fun _ _ a ha y=>y.off (hm a ha) z h) h
theorem du.off {g o k:Nat}{b:aq}(hb:b.name≠[]) (hm:∀ m∈b.pts,m.name≠[]) (x:du k w g o b) (z:cP w g0) (h:Off g0 w w'):du k w' g o b:=by
 obtain ⟨A,n,c,h1,h2,h3,h4⟩:=x;have hg:=z.str h1 hb;exact ⟨A,n,c,(bf hg h).trans h1,(bf hg h).trans h2,h3.offM hm z h,h4⟩
theorem gQ.off {g o:Nat}{j:aQ}(hj:j.name≠[]) (x:gQ w g o j) (z:cP w g0) (h:Off g0 w w'):gQ w' g o j:=by
 have hg:=z.str x.1 hj;exact ⟨(bf hg h).trans x.1,(bf hg h).trans x.2.1,(bf hg h).trans x.2.2.1,(bf hg h).trans x.2.2.2.1,(bf hg h).trans x.2.2.2.2.1,(bf hg h).trans x.2.2.2.2.2.1,(bf hg h).trans x.2.2.2.2.2.2.1,x.2.2.2.2.2.2.2⟩
theorem gR.off {g o:Nat}{d:aU}(hd:d.name≠[]) (x:gR w g o d) (z:cP w g0) (h:Off g0 w w'):gR w' g o d:=by
 have hg:=z.str x.1 hd;exact ⟨(bf hg h).trans x.1,(bf hg h).trans x.2.1,x.2.2⟩
structure vH (L:aj):Prop where
  bodies:∀ b∈L.bodies,b.name≠[]∧∀ m∈b.pts,m.name≠[]
  joints:∀ j∈L.joints,j.name≠[]
  drivers:∀ d∈L.drivers,d.name≠[]
theorem LkS.off {k:Nat}{A B C:Option Addr}{n c p d q e:Nat}{L:aj}(hL:vH L) (x:LkS k w A n c B p d C q e L) (z:cP w g0) (h:Off g0 w w'):LkS k w' A n c B p d C q e L :=
 ⟨x.name,x.bodies.off (fun _ _ a ha y=>y.off (hL.bodies a ha).1 (hL.bodies a ha).2 z h) h,x.joints.off (fun _ _ a ha y=>y.off (hL.joints a ha) z h) h,x.drivers.off (fun _ _ a ha y=>y.off (hL.drivers a ha) z h) h⟩
theorem Blk.zero {g t:Nat}{cs:Array Value}(x:Blk w g t cs) (h:cs.toList.all (fun v=>match v with | .string s=>s.data.isEmpty | .slice none 0 0=>true | .bool false=>true | _=>false)=true):cP w g:=by
 intro o v hv;rw [x.cell] at hv;have hm:v∈cs.toList:=by rw [Array.mem_toList_iff];exact Array.mem_of_getElem? hv
 have:=List.all_eq_true.1 h v hm;split at this
 ·rename_i s
  left;obtain ⟨d⟩:=s;have e:d=#[]:=by simpa using this
  subst e;rfl
 ·exact .inr (.inl rfl)
 ·exact .inr (.inr rfl)
 cases this
end
theorem LkS.upto {k k':Nat}{w:World}{A B C:Option Addr}{n c p d q e:Nat}{L:aj}(h:LkS k w A n c B p d C q e L) (hk:k≤k'):LkS k' w A n c B p d C q e L:=by
 have hr:∀ g o r,cz w g o r k→cz w g o r k':=fun g o r ⟨b,A,n,c,D,m,e,h1,h2,h3,h4⟩=>⟨b,A,n,c,D,m,e,h1,h2,h3,h4.1,h4.2.1,h4.2.2.1,Nat.le_trans h4.2.2.2.1 hk,Nat.le_trans h4.2.2.2.2 hk⟩
 refine ⟨h.name,h.bodies.mono_ fun g o b _ hp=>?_,h.joints,h.drivers⟩;obtain ⟨A',n',c',c0,c1,hM,hn⟩:=hp;exact ⟨A',n',c',c0,c1,hM.mono_ fun g o m _ hm=>⟨hm.1,hr _ _ _ hm.2.1,hr _ _ _ hm.2.2.1,hm.2.2.2⟩,hn⟩
theorem tL (w:World) (A:Option Addr) (n c:Nat) (B:Option Addr) (p d:Nat) (C:Option Addr) (q e:Nat) (L:aj) (h:LkS 500 w A n c B p d C q e L) (htab:Tab w):Calls Tryz.prog 29 #[.agg #[af L.name,.slice A n c,.slice B p d,.slice C q e]] w (fun e' w'=>e'=.returned (.tuple #[af (cl L),ba (aJ L)])∧Below w.heap.size w w'):=by
 by_cases hc:cf L=0
 ·exact sZ w A n c B p d C q e L h htab hc
 have h1:aJ L=cf L:=if_pos hc;have h2:cl L=[]:=if_neg (by rw [h1];exact hc);rw [h1,h2];exact rE w A n c B p d C q e L h hc
def fo (k:Nat) (w:World) (g o:Nat) (L:aj):Prop:=∃ A n c B p d C q e,w.cell? ⟨g,o,none⟩=some (af L.name)∧w.cell? ⟨g,o+1,none⟩=some (.slice A n c)∧w.cell? ⟨g,o+2,none⟩=some (.slice B p d)∧w.cell? ⟨g,o+3,none⟩=some (.slice C q e)∧LkS k w A n c B p d C q e L
theorem fo.belw {k:Nat}{w w':World}{g o:Nat}{L:aj}(h:fo k w g o L) (hb:Below w.heap.size w w'):fo k w' g o L:=by
 obtain ⟨A,n,c,B,p,d,C,q,e,h0,h1,h2,h3,h4⟩:=h;exact ⟨A,n,c,B,p,d,C,q,e,az h0 hb,az h1 hb,az h2 hb,az h3 hb,h4.belw hb⟩
theorem SlS.lk {k:Nat}{w w':World}{A:Option Addr}{n c:Nat}{l:List aj}(h:SlS (fo k) 4 w A n c l) (hb:Below w.heap.size w w'):SlS (fo k) 4 w' A n c l:=h.belw (fun _ _ _ h=>h.belw hb) hb
theorem SlS.lkup {k k':Nat}{w:World}{A:Option Addr}{n c:Nat}{l:List aj}(h:SlS (fo k) 4 w A n c l) (hk:k≤k'):SlS (fo k') 4 w A n c l:=h.mono_ fun _ _ _ _ ⟨A,n,c,B,p,d,C,q,e,h0,h1,h2,h3,h4⟩=>⟨A,n,c,B,p,d,C,q,e,h0,h1,h2,h3,h4.upto hk⟩
theorem nI:∀ (Ls:List aj),ct Ls=0→(Ls.flatMap pkL).length≤65600 * Ls.length
 | [],_=>by simp
 | L :: r,h=>by
  unfold ct at h;split at h
  ·rename_i h0
   have h1:=nI r h;have h2:(pkL L).length≤65600:=pd (iK h0);simp only [List.flatMap_cons,List.length_append,List.length_cons];omega
  rename_i h0;exact absurd h h0
theorem s9 {Ls:List aj}{i:Nat}(h:ct (Ls.take i)=0) (hi:i≤16):((Ls.take i).flatMap pkL).length≤1049600:=by
 have h1:=nI _ h;have h2:(Ls.take i).length≤i:=by rw [List.length_take];omega
 have:=Nat.mul_le_mul_left 65600 h2;omega
theorem nJ (w:World) (A:Option Addr) (n c:Nat) (Ls:List aj) (h:SlS (fo 500) 4 w A n c Ls) (htab:Tab w) (ht6:T64 w) (hn:n≤1000000):Calls Tryz.prog 11 #[.slice A n c] w (fun e' w'=>e'=.returned (.tuple #[af (eE Ls),ba (cR Ls)])∧Below w.heap.size w w'):=by
 have hln:=h.1;have hnc:=h.2.1;have H:=Qh h;have HTab:=Qh htab;have HT6:=Qh ht6;clear h htab ht6;by_cases h16:16 < n
 ·have f16:((16:Int) < (n:Int))=True:=eq_true (by omega)
  have hp:=lP (Ls:=Ls) (by omega);rw [hp.1,hp.2];clear hp;go_in;go_wp2_with fail;go_ret2;exact ⟨rfl,aa w⟩
 have f16:((16:Int) < (n:Int))=False:=eq_false (by omega);obtain ⟨I,hI⟩:∃ I,Lib.itoa (n:Int)=I:=⟨_,rfl⟩;have hlI:I.length≤11:=by rw [← hI];exact fQ (n:=n) (k:=0) (by omega)
 have hsI:=ai I;obtain ⟨h1,eh1⟩:∃ t,[108,105,110,107,119,111,114,107,32,49,32] ++ I=t:=⟨_,rfl⟩;have ah1:=bB ([108,105,110,107,119,111,114,107,32,49,32]) (I);rw [eh1] at ah1;have lh1:h1.length=11+I.length:=by rw [← eh1,List.length_append];try simp
 have kh1:(9223372036854775807 < 11+I.length)=False:=eq_false (by omega);have zh1:=ai h1;obtain ⟨h2,eh2⟩:∃ t,h1 ++ [10]=t:=⟨_,rfl⟩;have ah2:=bB (h1) ([10]);rw [eh2] at ah2;have lh2:h2.length=h1.length+1:=by rw [← eh2,List.length_append];try simp
 have kh2:(9223372036854775807 < h1.length+1)=False:=eq_false (by omega);have zh2:=ai h2;have hh2:dw n=h2:=by unfold dw;rw [hI,eh1,eh2]
 have HH:=Qh hh2;have HI:=Qh hI;have HLN:=Qh hln;have hl2:h2.length≤23:=by omega
 clear eh1 eh2 hI hh2 hln lh1 lh2 hlI;go_in;go_wp2_with fail;have B0:Bu w.heap.size w.heap.size (w.alloc (.cells #[.pointer none,.slice none 0 0] 70)) []:=Bu.new;have q0:Below w.heap.size w (w.alloc (.cells #[.pointer none,.slice none 0 0] 70)):=(aa w).alloc Qr _;generalize (w.alloc (.cells #[.pointer none,.slice none 0 0] 70))=w1 at B0 q0 ⊢;(with_reducible refine (ip w1 (n:Int) (by omega) (by omega) (HTab.out.belw q0)).mono ?_);rintro e' w2 ⟨rfl,hb2⟩;rw [HI.out];have B2:=B0.belw hb2;have q2:=q0.trans (hb2.mono q0.size);clear B0 hb2 q0;go_wp2_with fail;(with_reducible refine (bU _ _ _ _ h2 B2 (by simp only [List.length_nil];omega)).mono ?_);rintro e' w3 ⟨rfl,B3,q3,_⟩;rw [List.nil_append] at B3;have q3:=q2.trans q3;have HB3:=Qh B3;clear B2 B3 q2;go_wp2_with fail;go_loopw [21] (fun iv wr=>∃ i:Nat,iv=.int .i64 (i:Nat)∧i≤n∧Hid (ct (Ls.take i)=0)∧Hid (Bu w.heap.size w.heap.size wr (h2 ++ (Ls.take i).flatMap pkL))∧Below w.heap.size w wr) (fun iv _=>n - (intOf iv).toNat)
 case atStart=>exact ⟨0,rfl,Nat.zero_le _,Qh rfl,by simpa using HB3,q3⟩
 case round =>
  clear HB3;obtain ⟨i,rfl,hi,HE,HB,hb⟩:=hrel;rename World=>wa;rcases Nat.lt_or_ge i n with hlt | hge
  ·have hi1:((i:Int) < (n:Int))=True:=by simp;omega
   obtain ⟨g,o,L,e1,hg,_,hbi,hLk⟩:=(H.out.lk hb).at_ hlt;subst e1;obtain ⟨A1,n1,c1,B1,p1,d1,C1,q1,e1,c00,c01,c02,c03,hK⟩:=hLk;have hga:g < wa.heap.size:=hg;have HK:=Qh hK;have HBI:=Qh hbi;have hBl:w.heap.size < wa.heap.size:=HB.out.lt;clear hK hbi;go_wp2_with fail;have xp:Blk (wa.alloc (.cells #[af L.name,.slice A1 n1 c1,.slice B1 p1 d1,.slice C1 q1 e1] 36)) wa.heap.size 36 #[af L.name,.slice A1 n1 c1,.slice B1 p1 d1,.slice C1 q1 e1]:=am _ _ _ rfl;have qb:Below wa.heap.size wa (wa.alloc (.cells #[af L.name,.slice A1 n1 c1,.slice B1 p1 d1,.slice C1 q1 e1] 36)):=(aa wa).alloc Qr _;have HBb:=Qh (HB.out.belw qb);have HTb:=Qh ((HTab.out.belw hb).belw qb);have HSb:=Qh ((HT6.out.belw hb).belw qb);have HKb:=Qh (HK.out.belw qb);clear HB HK c00 c01 c02 c03;generalize (wa.alloc (.cells #[af L.name,.slice A1 n1 c1,.slice B1 p1 d1,.slice C1 q1 e1] 36))=wb at xp qb HBb HTb HSb HKb ⊢;(with_reducible refine (tL wb A1 n1 c1 B1 p1 d1 C1 q1 e1 L HKb.out HTb.out).mono ?_);rintro e' wc ⟨rfl,qc⟩;have qbc:=ag qb qc;by_cases hE:aJ L=0
   ·have hT0:cl L=bZ L:=if_pos hE
    have hlT:=iK hE;have hst:=dF pkL HBI.out;have HE1:Hid (ct (Ls.take (i+1))=0):=Qh (by rw [jT HBI.out HE.out];exact hE);rw [hT0,hE];obtain ⟨T,hT⟩:∃ T,bZ L=T:=⟨_,rfl⟩;rw [hT] at hlT ⊢;obtain ⟨J,hJ⟩:∃ J,Lib.itoa (T.length:Int)=J:=⟨_,rfl⟩;have hlJ:J.length≤11:=by rw [← hJ];exact fQ (n:=T.length) (k:=0) (by omega)
    have hsJ:=ai J;have hsT:=ai T;obtain ⟨X,hX⟩:∃ X,ji (fP T)=X:=⟨_,rfl⟩;have hlX:X.length=8:=by rw [← hX];exact lK _
    have hsX:=ai X;obtain ⟨s1,es1⟩:∃ t,J ++ [32]=t:=⟨_,rfl⟩;have as1:=bB (J) ([32]);rw [es1] at as1;have ls1:s1.length=J.length+1:=by rw [← es1,List.length_append];try simp
    have ks1:(9223372036854775807 < J.length+1)=False:=eq_false (by omega);have zs1:=ai s1;obtain ⟨s2,es2⟩:∃ t,s1 ++ X=t:=⟨_,rfl⟩;have as2:=bB (s1) (X);rw [es2] at as2;have ls2:s2.length=s1.length+X.length:=by rw [← es2,List.length_append];try simp
    have ks2:(9223372036854775807 < s1.length+X.length)=False:=eq_false (by omega);have zs2:=ai s2;obtain ⟨s3,es3⟩:∃ t,s2 ++ [10]=t:=⟨_,rfl⟩;have as3:=bB (s2) ([10]);rw [es3] at as3;have ls3:s3.length=s2.length+1:=by rw [← es3,List.length_append];try simp
    have ks3:(9223372036854775807 < s2.length+1)=False:=eq_false (by omega);have zs3:=ai s3;obtain ⟨s4,es4⟩:∃ t,s3 ++ T=t:=⟨_,rfl⟩;have as4:=bB (s3) (T);rw [es4] at as4;have ls4:s4.length=s3.length+T.length:=by rw [← es4,List.length_append];try simp
    have ks4:(9223372036854775807 < s3.length+T.length)=False:=eq_false (by omega);have zs4:=ai s4;have hpk:pkL L=s4:=by unfold pkL jS;rw [hT,hJ,hX,es1,es2,es3,es4]
    rw [hpk] at hst;have HFS:Hid (h2 ++ (Ls.take (i+1)).flatMap pkL=h2 ++ (Ls.take i).flatMap pkL ++ s4):=Qh (by rw [hst,List.append_assoc])
    have hlw:(h2 ++ (Ls.take i).flatMap pkL).length+s4.length≤140737488355328:=by
     have:=s9 HE.out (by omega);rw [List.length_append];omega
    have HW:=Qh hlw;have HJ:=Qh hJ;have HX:=Qh hX;have hev:ba 0=.nilIface:=if_pos rfl;rw [hev];clear hev hT0 hE hst hT hJ hX hlX es1 es2 es3 es4 hpk hlw ls1 ls2 ls3 ls4;go_wp2_with fail;(with_reducible refine (ip wc (T.length:Int) (by omega) (by omega) (HTb.out.belw qc)).mono ?_);rintro e' wd ⟨rfl,qd⟩;rw [HJ.out];have qcd:=ag qbc qd;have qbd:=ag qc qd;go_wp2_with fail;(with_reducible refine (ry wd T (by omega)).mono ?_);rintro e' we ⟨rfl,qe⟩;have qce:=ag qcd qe;have qbe:=ag qbd qe;go_wp2_with fail;(with_reducible refine (tJ we (fP T) (nH T) (HSb.out.belw qbe)).mono ?_);rintro e' wf ⟨rfl,qf⟩;rw [HX.out];have qcf:=ag qce qf;have qbf:=ag qbe qf;go_wp2_with fail;(with_reducible refine (bU _ _ _ _ s4 (HBb.out.belw qbf) HW.out).mono ?_);rintro e' wg ⟨rfl,Bg,qg,_⟩;have HBg:Hid (Bu w.heap.size w.heap.size wg (h2 ++ (Ls.take (i+1)).flatMap pkL)):=Qh (by rw [HFS.out];exact Bg);have bg:=(hb.trans (qcf.mono (Nat.le_of_lt hBl))).trans qg;clear Bg HFS;go_wp2_with fail;go_roundw
    case rel=>exact ⟨i+1,by go_num,by omega,HE1,HBg,bg⟩
    case measure=>simp [intOf];omega
   have hp:=lQ (Ls:=Ls) (by rw [HLN.out];exact h16) (by rw [lO HBI.out HE.out hE];exact hE);rw [lO HBI.out HE.out hE] at hp;rw [eVp hE];have HP:=Qh (And.intro hp (eVp hE));clear hp;go_wp2_with fail;go_ret2;exact ⟨by rw [HP.out.1.1,HP.out.1.2,HP.out.2];rfl,hb.trans (qbc.mono hb.size)⟩
  have hi1:((i:Int) < (n:Int))=False:=by simp;omega
  have hin:Ls.take i=Ls:=List.take_of_length_le (by rw [HLN.out];exact hge);rw [hin] at HB HE;have hbd:h2 ++ Ls.flatMap pkL=dx Ls:=by unfold dx;rw [HLN.out,HH.out]
  rw [hbd] at HB;have HP:Hid (¬ 16 < Ls.length):=Qh (by rw [HLN.out];exact h16);obtain ⟨S,hS⟩:∃ S,dx Ls=S:=⟨_,rfl⟩;rw [hS] at HB;have HS:=Qh hS;clear hin hbd hS;go_wp2_with fail;(with_reducible refine (rk _ _ _ _ HB.out).mono ?_);rintro e' wl ⟨rfl,rfl⟩;by_cases h65:65536 < S.length
  ·have f65:((65536:Int) < (S.length:Int))=True:=eq_true (by omega)
   have hp:=mS HP.out HE.out (by rw [HS.out];exact h65);have HQ:=Qh hp;clear hp;go_wp2_with fail;go_ret2;exact ⟨by rw [HQ.out.1,HQ.out.2];rfl,hb⟩
  have f65:((65536:Int) < (S.length:Int))=False:=eq_false (by omega);have hp:=lR HP.out HE.out (by rw [HS.out];exact h65);rw [HS.out] at hp;have HQ:=Qh hp;clear hp;go_wp2_with fail;(with_reducible refine (mL _ _ _ _ HB.out).mono ?_);rintro e' wm ⟨rfl,qm⟩;go_wp2_with fail;go_ret2;exact ⟨by rw [HQ.out.1,HQ.out.2];rfl,hb.trans qm⟩
theorem uA (w:World) (A:Option Addr) (n c:Nat) (Ls:List aj) (h:SlS (fo 40) 4 w A n c Ls) (htab:Tab w) (ht6:T64 w) (hn:n≤1000000):Calls Tryz.prog 11 #[.slice A n c] w (fun e' w'=>e'=.returned (.tuple #[af (eE Ls),ba (cR Ls)])∧Below w.heap.size w w') :=
 nJ w A n c Ls (h.lkup (by decide)) htab ht6 hn
theorem vI:fP [97]=3826002220:=by decide +kernel
theorem gI (w:World) (htab:Tab w) (ht:T64 w):Calls Tryz.prog 9 #[] w (aE w (.bool true)):=by
 have hnil:SlS (fo 40) 4 w none 0 0 []:=⟨rfl,Qr,fun h=>absurd h (by omega)⟩;have hE:cR []=0:=by decide +kernel
 have hT:eE []=[108,105,110,107,119,111,114,107,32,49,32,48,10]:=by decide +kernel
 have HTab:=Qh htab;have HT:=Qh ht;clear htab ht;go_in;go_wp2_with fail;(with_reducible refine (uA w none 0 0 [] hnil HTab.out HT.out (by omega)).mono ?_);rintro e' w1 ⟨rfl,hb1⟩;rw [hE,hT,show ba 0=.nilIface from if_pos rfl];clear hE hT;go_wp2_with fail;(with_reducible refine (ry w1 [97] (by decide)).mono ?_);rintro e' w2 ⟨rfl,hb2⟩;rw [vI];have hb:=ag hb1 hb2;go_wp2;go_ret;exact ⟨rfl,hb⟩
def isD (D:List UInt8):Prop:=D≠[]∧D.all aF=true
def sg (m:Bool) (D:List UInt8):List UInt8:=if m then 45 :: D else D
def sgI (m:Bool) (n:Int):Int:=if m then -n else n
inductive tb (s:List UInt8):Prop
  | whole (m:Bool) (D:List UInt8) (hD:isD D) (hs:s=sg m D)
  | quo (m:Bool) (D E:List UInt8) (hD:isD D) (hE:isD E) (hs:s=sg m (D ++ 47 :: E))
  | dot (m:Bool) (D E:List UInt8) (hD:isD D) (hE:isD E) (hs:s=sg m (D ++ 46 :: E))
theorem tc {p:UInt8→Bool}:∀ {l:List UInt8},(l.takeWhile p).length=l.length→l.all p=true:=by
 intro l h;have e:l.takeWhile p=l:=(List.takeWhile_sublist p).eq_of_length h;rw [← e];exact fj l
theorem kG {r:List UInt8}{k:Nat}(h:bR r=k) (hk:0 < k):∃ D d,r=D ++ d∧D.length=k∧isD D:=by
 obtain ⟨d,hd,_⟩:=eu aF r;refine ⟨r.takeWhile aF,d,hd,h,?_,fj r⟩;intro e;unfold bR at h;rw [e] at h;simp at h;omega
theorem num_full {s:List UInt8}(h:bp s=s.length) (h0:0 < s.length):tb s:=by
 obtain ⟨m,k,hm,hk,hc⟩:=gz (s:=s) (i:=0) (v:=s.length) h;simp only [Nat.zero_add] at hk hc
 obtain ⟨b,hb⟩:∃ b:Bool,s=sg b (s.drop m):=by
  rcases hm with ⟨rfl,ha⟩ | ⟨rfl,_⟩
  ·refine ⟨true,?_⟩
   have:=aR h0;rw [ha] at this;exact this
  exact ⟨false,rfl⟩
 rcases hc with ⟨_,hv⟩ | ⟨hkp,d,hd,hc⟩
 ·omega
 obtain ⟨D,r,hr,hDl,hD⟩:=kG hk hkp;have hml:m+k≤s.length:=cD hk hkp
 have hrl:r.length=s.length - (m+k):=by
  have:=congrArg List.length hr;rw [List.length_drop,List.length_append] at this;omega
 rcases hc with ⟨_,_,hv⟩ | ⟨hdd,t,ht,hc⟩
 ·have:r=[]:=List.eq_nil_of_length_eq_zero (by omega)
  subst this;rw [List.append_nil] at hr;exact .whole b D hD (by rw [← hr];exact hb)
 have hin:m+k < s.length:=by rcases hdd with e | e <;> exact ky hd (by rw [e];decide)
 rcases hc with ⟨_,hv⟩ | ⟨htp,hv⟩
 ·omega
 have e1:s.drop (m+k)=r:=by rw [← List.drop_drop,hr,← hDl,List.drop_left]
 have e2:=aR hin;rw [e1,hd] at e2
 have hE:isD (s.drop (m+k+1)):=by
  refine ⟨fun e=>?_,tc (p:=aF) ?_⟩
  ·rw [e] at ht;simp [bR] at ht;omega
  show bR (s.drop (m+k+1))=_;rw [ht,List.length_drop];omega
 rw [e2] at hr;rw [hr] at hb;rcases hdd with rfl | rfl
 ·exact .dot b D _ hD hE hb
 exact .quo b D _ hD hE hb
theorem rG {D:List UInt8}(h:isD D):∃ c t,D=c :: t∧aF c=true:=by
 obtain ⟨h1,h2⟩:=h
 cases D with
 | nil=>exact absurd rfl h1
 | cons c t=>rw [List.all_cons,Bool.and_eq_true] at h2;exact ⟨c,t,rfl,h2.1⟩
theorem fp {D:List UInt8}(h:isD D) {c:UInt8}(hc:aF c=false):c ∉ D:=fun hm=>by
 have:=List.all_eq_true.1 h.2 c hm;rw [hc] at this;cases this
theorem fS {m:Bool}{D r:List UInt8}(h:isD D):bS (sg m (D ++ r))=m∧bF (sg m (D ++ r))=D ++ r:=by
 obtain ⟨c,t,rfl,hc⟩:=rG h;have h45:c≠45:=by rintro rfl;exact absurd hc (by decide)
 cases m
 ·show bS (c :: (t ++ r))=false∧bF (c :: (t ++ r))=_
  refine ⟨?_,?_⟩
  ·unfold bS;split
   ·rename_i h1;injection h1 with h2;exact absurd h2 h45
   rfl
  unfold bF;split
  ·rename_i h1;injection h1 with h2;exact absurd h2 h45
  rfl
 exact ⟨rfl,rfl⟩
def cd (D:List UInt8):List UInt8:=if D.dropWhile (· == 48)=[] then [48] else D.dropWhile (· == 48)
theorem lV (t:List UInt8):ah (48 :: t)=ah t:=by
 have:=dP [48] t;rw [show ah [48]=0 from rfl,Nat.zero_mul,Nat.zero_add] at this;exact this
theorem rH:∀ {D:List UInt8},D.all aF=true→okZ (cd D)=true∧dQ (cd D)=(ah D:Int)∧(cd D).length≤max 1 D.length:=by
 intro D
 induction D with
 | nil=>intro _;exact ⟨by decide,by decide,by decide⟩
 | cons c t ih =>
  intro h;rw [List.all_cons,Bool.and_eq_true] at h;by_cases hc:c=48
  ·subst hc
   have e:cd (48 :: t)=cd t:=by unfold cd;simp
   rw [e,lV];obtain ⟨h1,h2,h3⟩:=ih h.2;refine ⟨h1,h2,?_⟩;rw [List.length_cons];omega
  have e:cd (c :: t)=c :: t:=by unfold cd;simp [hc]
  have h45:c≠45:=by rintro rfl;exact absurd h.1 (by decide)
  have eh:bS (c :: t)=false:=by
   unfold bS;split
   ·rename_i h1;injection h1 with h2;exact absurd h2 h45
   rfl
  have et:bF (c :: t)=c :: t:=by
   unfold bF;split
   ·rename_i h1;injection h1 with h2;exact absurd h2 h45
   rfl
  rw [e];refine ⟨?_,?_,by omega⟩
  ·unfold okZ
   rw [eh,et];simp [h.1,hc];simpa using h.2
  unfold dQ;rw [eh,et];rfl
inductive kH (s:List UInt8) (x:Int) (q:Rat):Prop
  | large (h:60 < s.length) (hx:x=4) (hq:q=0)
  | bad (h:s.length≤60) (hb:s.length=0∨bp s≠s.length) (hx:x=2) (hq:q=0)
  | whole (m:Bool) (D:List UInt8) (h:s.length≤60) (hn:bp s=s.length) (hD:isD D) (hs:s=sg m D) (hx:x=0) (hq:q=((sgI m (ah D):Int):Rat))
  | quo0 (m:Bool) (D E:List UInt8) (h:s.length≤60) (hn:bp s=s.length) (hD:isD D) (hE:isD E) (hs:s=sg m (D ++ 47 :: E)) (h0:ah E=0) (hx:x=8) (hq:q=0)
  | quo (m:Bool) (D E:List UInt8) (h:s.length≤60) (hn:bp s=s.length) (hD:isD D) (hE:isD E) (hs:s=sg m (D ++ 47 :: E)) (h0:ah E≠0) (hx:x=0) (hq:q=Rat.divInt (sgI m (ah D)) (ah E))
  | dot (m:Bool) (D E:List UInt8) (h:s.length≤60) (hn:bp s=s.length) (hD:isD D) (hE:isD E) (hs:s=sg m (D ++ 46 :: E)) (hx:x=0) (hq:q=Rat.divInt (sgI m (ah (D ++ E))) ((10 ^ E.length:Nat):Int))
theorem mV (s:List UInt8):∃ x q,kH s x q:=by
 by_cases h:60 < s.length
 ·exact ⟨4,0,.large h rfl rfl⟩
 by_cases hb:s.length=0∨bp s≠s.length
 ·exact ⟨2,0,.bad (by omega) hb rfl rfl⟩
 ·have hb1:bp s=s.length:=by
   by_cases e:bp s=s.length
   ·exact e
   exact absurd (.inr e) hb
  have hb2:0 < s.length:=by
   rcases Nat.eq_zero_or_pos s.length with e | e
   ·exact absurd (.inl e) hb
   exact e
  rcases num_full hb1 hb2 with ⟨m,D,hD,hs⟩ | ⟨m,D,E,hD,hE,hs⟩ | ⟨m,D,E,hD,hE,hs⟩
  ·exact ⟨0,_,.whole m D (by omega) hb1 hD hs rfl rfl⟩
  ·by_cases h0:ah E=0
   ·exact ⟨8,_,.quo0 m D E (by omega) hb1 hD hE hs h0 rfl rfl⟩
   exact ⟨0,_,.quo m D E (by omega) hb1 hD hE hs h0 rfl rfl⟩
  exact ⟨0,_,.dot m D E (by omega) hb1 hD hE hs rfl rfl⟩
theorem lW (n:Nat):cd (49 :: List.replicate n 48)=49 :: List.replicate n 48∧ah (49 :: List.replicate n 48)=10 ^ n∧(49 :: List.replicate n 48).all aF=true:=by
 refine ⟨by unfold cd;simp,?_,?_⟩
 ·induction n with
  | zero=>rfl
  | succ n ih =>
   rw [List.replicate_succ',← List.cons_append,ek,ih,show gq 48=0 from rfl,Nat.pow_succ];omega
 rw [List.all_cons,Bool.and_eq_true];refine ⟨by decide,?_⟩;rw [List.all_eq_true];intro c hc;rw [List.eq_of_mem_replicate hc];decide
theorem fU {D:List UInt8}(h:D.all aF=true) (hl:D.length≤60):ah D < 4294967296 ^ 60:=by
 have h1:=cU h;have h2:(10:Nat) ^ D.length≤10 ^ 60:=Nat.pow_le_pow_right (by decide) hl;have h3:(10:Nat) ^ 60 < 4294967296 ^ 60:=by decide
 omega
theorem td (m:Bool) (n:Nat):(sgI m (n:Int)).natAbs=n:=by cases m <;> simp [sgI]
noncomputable def valX (s:List UInt8):Int:=(mV s).choose
noncomputable def valQ (s:List UInt8):Rat:=(mV s).choose_spec.choose
theorem tf (s:List UInt8):kH s (valX s) (valQ s):=(mV s).choose_spec.choose_spec
structure PS where
  toks:List Tkn
  L:aj
  x:Int
def PS.fail (s:PS) (e:Int):PS:=if s.x=0 then { s with x:=e } else s
def PS.next (s:PS) (k:Nat):Option (List UInt8) × PS :=
  if s.x≠0 then (none,s) else match s.toks with
    | []=>(none,{ s with x:=18 })
    | t :: _=>if t.kind=k then (some t.text,s) else (none,{ s with x:=2 })
def PS.drop1 (s:PS):PS:={ s with toks:=s.toks.drop 1 }
def PS.word (s:PS):List UInt8 × PS:=match s.next 0 with
  | (some t,s')=>(t,s'.drop1)
  | (none,s')=>([],s')
def PS.expect (s:PS) (k:Nat) (text:List UInt8):PS:=match s.next k with
  | (some t,s')=>if t=text then s'.drop1 else s'.fail 2
  | (none,s')=>s'
noncomputable def PS.number (s:PS):Rat × PS:=match s.next 1 with
  | (some t,s')=>if valX t≠0 then (0,s'.fail (valX t)) else (valQ t,s'.drop1)
  | (none,s')=>(0,s')
noncomputable def PS.mark (s:PS):aA × PS :=
  (⟨s.word.1,rd s.word.2.number.1,rd s.word.2.number.2.number.1⟩,s.word.2.number.2.number.2.expect 2 [59])
def PS.signHead (s:PS):Bool:=match s.toks with | t :: _=>t.kind == 2 | []=>false
noncomputable def PS.marks:Nat→PS→List aA→List aA × PS
  | 0,s,l=>(l,s)
  | f+1,s,l=>if s.x≠0 then (l,s) else if s.signHead then (l,s.expect 2 [125]) else PS.marks f s.mark.2 (l ++ [s.mark.1])
noncomputable def PS.body (s:PS):aq × PS :=
  let r:=PS.marks (s.toks.length+1) (s.word.2.expect 2 [123]) []
  (⟨s.word.1,r.1⟩,r.2)
def lX (l:List aq) (nm:List UInt8):Option Nat:=l.findIdx? fun b=>b.name == nm
def rI (l:List aA) (nm:List UInt8):Option Nat:=l.findIdx? fun m=>m.name == nm
def PS.named (s:PS) (only:Int):Int × PS :=
  let s':=s.word.2
  if s'.x≠0 then (0,s') else match lX s'.L.bodies s.word.1 with
    | some i=>((i:Int),if 0≤only∧(i:Int)≠only then s'.fail 7 else s')
    | none=>(0,s'.fail 5)
def PS.full (s:PS) (only:Int):Int × Int × PS :=
  let b:=(s.named only).1
  let s1:=(s.named only).2.expect 2 [46]
  let s2:=s1.word.2
  if s2.x≠0 then (0,0,s2) else match rI (cK s2.L b) s1.word.1 with
    | some i=>(b,(i:Int),s2)
    | none=>(0,0,s2.fail 5)
def PS.addB (s:PS) (b:aq):PS:={ s with L:={ s.L with bodies:=s.L.bodies ++ [b] } }
def PS.addJ (s:PS) (j:aQ):PS:={ s with L:={ s.L with joints:=s.L.joints ++ [j] } }
def PS.addD (s:PS) (d:aU):PS:={ s with L:={ s.L with drivers:=s.L.drivers ++ [d] } }
def PS.joint (s:PS) (slide:Bool):PS :=
  let a:=s.word.2.full (-1)
  let b:=a.2.2.full (-1)
  let t:Int × Int × PS:=if slide then b.2.2.full b.1 else (0,0,b.2.2)
  (t.2.2.expect 2 [59]).addJ ⟨s.word.1,if slide then 1 else 0,a.1,a.2.1,b.1,b.2.1,t.2.1⟩
def PS.driver (s:PS):PS :=
  let d:=s.word.2.named (-1)
  (d.2.expect 2 [59]).addD ⟨s.word.1,d.1⟩
def nK:List UInt8:=[98,111,100,121]
def tg:List UInt8:=[112,105,110]
def kI:List UInt8:=[115,108,105,100,101]
def g9:List UInt8:=[100,114,105,118,101,114]
def fV:List UInt8:=[108,105,110,107,97,103,101]
noncomputable def PS.item (s:PS):PS :=
  let s':=s.word.2
  if s.word.1=nK then s'.body.2.addB s'.body.1
  else if s.word.1=tg then s'.joint false
  else if s.word.1=kI then s'.joint true
  else if s.word.1=g9 then s'.driver
  else s'.fail 2
noncomputable def PS.items:Nat→PS→PS
  | 0,s=>s
  | f+1,s=>if s.x=0∧s.toks≠[] then PS.items f s.item else s
def L0:aj:=⟨[],[],[],[]⟩
noncomputable def cA (l:List Tkn):PS :=
  let s1:=(⟨l,L0,0⟩:PS).expect 0 fV
  let s2:=s1.word.2
  let s3:PS:={ s2 with L:={ s2.L with name:=s1.word.1 } }
  PS.items (l.length+1) (s3.expect 2 [59])
inductive cG (s:List UInt8) (x:Int) (L:aj):Prop
  | split (l:List Tkn) (hs:aW s x l) (hx:x≠0) (hL:L=L0)
  | read (l:List Tkn) (hs:aW s 0 l) (hr:(cA l).x=x) (hx:x≠0) (hL:L=L0)
  | check (l:List Tkn) (hs:aW s 0 l) (hr:(cA l).x=0) (hc:cf (cA l).L=x) (hx:x≠0) (hL:L=L0)
  | ok (l:List Tkn) (hs:aW s 0 l) (hr:(cA l).x=0) (hc:cf (cA l).L=0) (hx:x=0) (hL:L=(cA l).L)
theorem th (s:List UInt8):∃ x L,cG s x L:=by
 obtain ⟨x,l,h⟩:=q8 s;by_cases hx:x=0
 ·subst hx
  by_cases hr:(cA l).x=0
  ·by_cases hc:cf (cA l).L=0
   ·exact ⟨_,_,.ok l h hr hc rfl rfl⟩
   exact ⟨_,_,.check l h hr rfl hc rfl⟩
  exact ⟨_,_,.read l h rfl hr rfl⟩
 exact ⟨_,_,.split l h hx rfl⟩
theorem cG.uniq {s:List UInt8}{x y:Int}{L M:aj}(h:cG s x L) (h':cG s y M):x=y∧L=M:=by
 cases h with
 | split l hs hx hL =>
  cases h' with
  | split l' hs' hx' hL'=>exact ⟨(hs.uniq hs').1,by rw [hL,hL']⟩
  | read l' hs' _ _ _=>exact absurd (hs.uniq hs').1 hx
  | check l' hs' _ _ _ _=>exact absurd (hs.uniq hs').1 hx
  | ok l' hs' _ _ _ _=>exact absurd (hs.uniq hs').1 hx
 | read l hs hr hx hL =>
  cases h' with
  | split l' hs' hx' hL'=>exact absurd (hs.uniq hs').1.symm hx'
  | read l' hs' hr' hx' hL' =>
   obtain ⟨_,rfl⟩:=hs.uniq hs';exact ⟨hr.symm.trans hr',by rw [hL,hL']⟩
  | check l' hs' hr' _ _ _ =>
   obtain ⟨_,rfl⟩:=hs.uniq hs';exact absurd (hr.symm.trans hr') hx
  | ok l' hs' hr' _ _ _ =>
   obtain ⟨_,rfl⟩:=hs.uniq hs';exact absurd (hr.symm.trans hr') hx
 | check l hs hr hc hx hL =>
  cases h' with
  | split l' hs' hx' hL'=>exact absurd (hs.uniq hs').1.symm hx'
  | read l' hs' hr' hx' hL' =>
   obtain ⟨_,rfl⟩:=hs.uniq hs';exact absurd (hr'.symm.trans hr) hx'
  | check l' hs' hr' hc' hx' hL' =>
   obtain ⟨_,rfl⟩:=hs.uniq hs';exact ⟨hc.symm.trans hc',by rw [hL,hL']⟩
  | ok l' hs' hr' hc' _ _ =>
   obtain ⟨_,rfl⟩:=hs.uniq hs';exact absurd (hc.symm.trans hc') hx
 | ok l hs hr hc hx hL =>
  cases h' with
  | split l' hs' hx' hL'=>exact absurd (hs.uniq hs').1.symm hx'
  | read l' hs' hr' hx' hL' =>
   obtain ⟨_,rfl⟩:=hs.uniq hs';exact absurd (hr'.symm.trans hr) hx'
  | check l' hs' hr' hc' hx' hL' =>
   obtain ⟨_,rfl⟩:=hs.uniq hs';exact absurd (hc'.symm.trans hc) hx'
  | ok l' hs' hr' hc' hx' hL' =>
   obtain ⟨_,rfl⟩:=hs.uniq hs';exact ⟨by rw [hx,hx'],by rw [hL,hL']⟩
end Go.Proofs.YtfilnhompchciaaGreatDoor
