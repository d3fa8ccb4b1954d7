/- Part CQ4: lemmas and walks that the claim rests on. No claim is made here. -/
import Derived.Deep.AppendLies
import Derived.BigQuiet
import Derived.Deep.RegionHeld3
import Derived.Deep.DrawnRows
import Derived.Shelf.Strings.Builder1
import Derived.Deep.DeepCutAuto
import Derived.Test.YtndhgcfajlalhaaGreatDoorCQ3
set_option linter.unusedVariables false
set_option maxHeartbeats 8000000
set_option maxRecDepth 100000
/- Walks: tokens: Split. -/
namespace Go.Proofs.YtndhgcfajlalhaaGreatDoor
open Go Go.RowKit Bn
attribute [local go_sem ↓] Go.wp_at_zero Go.wp_at_succ
def rI (t:Tkn):List Value:=[.int .i64 (t.kind:Nat),aa t.text,.int .i64 (t.line:Nat),.int .i64 (t.col:Nat)]
def cJ (l:List Tkn):List Value:=l.flatMap rI
theorem tq (l:List Tkn) (t:Tkn):cJ (l++[t])=cJ l++rI t:=by simp [cJ]
theorem vV (l:List Tkn):(cJ l).length=l.length*4:=by
 induction l with
 | nil=>rfl
 | cons t l ih =>
  have:cJ (t::l)=rI t++cJ l:=rfl;rw [this,List.length_append,ih,List.length_cons];show 4+_=_;omega
def TkS (w:World) (A:Option Addr) (n c:Nat) (l:List Tkn):Prop:=l.length=n/\((n=0/\A=none/\c=0)\/∃ g,A=some ⟨g,0,none⟩/\n<=c/\∀ i v,(cJ l)[i]?=some v->w.cell? ⟨g,i,none⟩=some v)
theorem TkS.belw {w b:World}{A:Option Addr}{n c:Nat}{l:List Tkn}(h:TkS w A n c l) (hb:Below w.heap.size w b):TkS b A n c l:=by
 refine ⟨h.1,?_⟩;rcases h.2 with h | ⟨g,e,d,h⟩
 ·exact .inl h
 exact .inr ⟨g,e,d,fun i v a=>(hb.cell (p:=⟨g,i,none⟩) (World.block_lt_of_cell? w _ (h i v a))).trans (h i v a)⟩
theorem TkS.nil (w:World):TkS w none 0 0 []:=⟨rfl,.inl ⟨rfl,rfl,rfl⟩⟩
theorem TkS.of_own {w:World}{base:Nat}{e:TypeId}{v:Value}{l:List Tkn}(h:w.ownsRow base e 4 v l.length (cJ l)):∃ A c,v=.slice A l.length c/\TkS w A l.length c l:=by
 rcases h.2 with ⟨rfl,b⟩ | ⟨g,cap,cur,rfl,hb,f,j,m,k,d⟩
 ·exact ⟨none,0,by rw [b],rfl,.inl ⟨b,rfl,rfl⟩⟩
 refine ⟨_,_,rfl,rfl,.inr ⟨g,rfl,j,fun i v a=>?_⟩⟩;rw [cell_of_row w g i cur e (0,0) f];rw [<- d,List.getElem?_take] at a;split at a
 ·simpa using a
 cases a
theorem vW {w b:World}{base:Nat}{e:TypeId}{size:Nat}{v:Value}{n:Nat}{c:List Value}(h:w.ownsRow base e size v n c) (hb:Below w.heap.size w b):b.ownsRow base e size v n c:=by
 refine ⟨h.1,?_⟩;rcases h.2 with h | ⟨g,cap,cur,f,a,d,rest⟩
 ·exact .inl h
 exact .inr ⟨g,cap,cur,f,a,(hb.block g (lt_of_block d)).trans d,rest⟩
def pre (d:List Tkn):jV->jV
  | .ok l=>.ok (d++l)
  | .err x=>.err x
theorem BJ (x:jV):pre [] x=x:=by cases x <;> rfl
theorem yZ (d:List Tkn) (t:Tkn) (x:jV):pre d (jV.push t x)=pre (d++[t]) x:=by cases x <;> simp [pre,jV.push]
inductive bh (s:List UInt8) (x:Int) (l:List Tkn):Prop
  | big (h:65536<s.length) (hx:x=4) (hl:l=[])
  | ok (h:s.length<=65536) (ht:cS s=.ok l) (hx:x=0)
  | err (n:Nat) (h:s.length<=65536) (ht:cS s=.err n) (hx:x=(n:Int)) (hl:l=[])
theorem rJ (s:List UInt8):∃ x l,bh s x l:=by
 by_cases h:65536<s.length
 ·exact ⟨4,[],.big h rfl rfl⟩
 cases ht:cS s with
 | ok l=>exact ⟨0,l,.ok (by omega) ht rfl⟩
 | err n=>exact ⟨n,[],.err n (by omega) ht rfl rfl⟩
theorem bh.uniq {s:List UInt8}{x y:Int}{l m:List Tkn}(h:bh s x l) (i:bh s y m):x=y/\l=m:=by
 rcases h with ⟨a,b,c⟩ | ⟨a,b,c⟩ | ⟨n,a,b,c,d⟩ <;> rcases i with ⟨a',f,g⟩ | ⟨a',f,g⟩ | ⟨k,a',f,g,j⟩ <;> first
  | omega
  | exact ⟨by rw [b,f],by rw [c,g]⟩
  | (rw [b] at f;injection f with e;exact ⟨by rw [c,g],e⟩)
  | (rw [b] at f;cases f;done)
  | (rw [b] at f;injection f with e;exact ⟨by rw [c,g,e],by rw [d,j]⟩)
def zc (w:World) (ev:Value) (l:List Tkn) (e:Ending) (w':World):Prop:=∃ A n c,e=.returned (.tuple #[.slice A n c,ev])/\TkS w' A n c l/\Below w.heap.size w w'
def EU (ev:Int->Value) (w:World) (s:List UInt8) (e:Ending) (w':World):Prop:=∃ x l,bh s x l/\zc w (ev x) l e w'
theorem ze:(Tryz.prog.info? 126).map (fun i=>(i.zero,i.size,i.bytes))=some (some (.agg #[.int .i64 0,.string ⟨#[]⟩,.int .i64 0,.int .i64 0]),4,40):=by kernel_rfl
theorem vX {s:List UInt8}{j:Nat}(a:j<s.length) (h:atB s j≠10):eB (s.drop j)=1+eB (s.drop (j+1)):=by
 rw [bM a];unfold eB;rw [List.takeWhile_cons,if_pos (by simpa using h),List.length_cons];omega
theorem oO {s:List UInt8}{j:Nat}(h:s.length<=j\/atB s j=10):eB (s.drop j)=0:=by
 rcases Nat.lt_or_ge j s.length with a | a
 ·rw [bM a]
  unfold eB;rcases h with h | h
  ·omega
  rw [List.takeWhile_cons,if_neg (by simp [h])];rfl
 rw [List.drop_eq_nil_of_le a];rfl
theorem vY {s:List UInt8}{i:Nat}(a:i<s.length) (h:atB s i=37) (line col:Nat):0<eB (s.drop i)/\tk (s.drop i) line col=tk (s.drop (i+eB (s.drop i))) line (col+eB (s.drop i)):=by
 have e:=bM a;rw [h] at e;refine ⟨by rw [e];exact jX,?_⟩
 conv=>lhs;rw [e]
 rw [yP,<- e,List.drop_drop]
theorem tr {s:List UInt8}{i:Nat}(a:i<s.length) (h:atB s i=10) (line col:Nat):tk (s.drop i) line col=tk (s.drop (i+1)) (line+1) 1:=by rw [bM a,h,lO]
theorem rK {s:List UInt8}{i:Nat}(a:i<s.length) (h:dt (atB s i)=true) (line col:Nat):tk (s.drop i) line col=tk (s.drop (i+1)) line (col+1):=by rw [bM a,hH h]
theorem vZ {s:List UInt8}{i k n:Nat}(a:i<s.length) (h:aU (s.drop i)=.ok k n) (line col:Nat):tk (s.drop i) line col=(tk (s.drop (i+n)) line (col+n)).push ⟨k,(s.drop i).take n,line,col⟩:=by
 have e:=bM a;rw [e] at h ⊢;rw [pJ h,<- e,List.drop_drop]
theorem we {s:List UInt8}{i x:Nat}(a:i<s.length) (h:aU (s.drop i)=.err x) (c:atB s i≠10) (b:dt (atB s i)=false) (d:atB s i≠37) (line col:Nat):tk (s.drop i) line col=.err x:=by
 rw [bM a] at h ⊢;exact tg h c b d line col
theorem tt (w:World) (s:List UInt8) (a:0<s.length) (c:s.length<4611686018427387904) (k n:Nat) (b:aU s=.ok k n):Calls Tryz.prog 103 #[aa s] w (ax w (.tuple #[.int .i64 (k:Nat),.int .i64 (n:Nat),.nilIface])):=uw w s a c _ b
theorem rL (w:World) (s:List UInt8) (a:0<s.length) (c:s.length<4611686018427387904) (x:Nat) (b:aU s=.err x):Calls Tryz.prog 103 #[aa s] w (ax w (.tuple #[.int .i64 0,.int .i64 0,.iface 58 (.int .i64 (x:Nat))])):=uw w s a c _ b
theorem rM {r:List UInt8}{x:Nat}(h:aU r=.err x):0<x:=by
 unfold aU at h;split at h
 ·injection h with h;omega
 split at h
 ·cases h
 split at h
 ·split at h
  ·injection h with h;omega
  cases h
 split at h
 ·injection h with h;omega
 split at h
 ·injection h with h;omega
 split at h
 ·injection h with h;omega
 cases h
theorem isBlk_3 {c:UInt8}(h:dt c=true):c=32\/c=9\/c=13:=by
 unfold dt at h;simpa [or_assoc] using h
theorem BK (w:World) (s:List UInt8):Calls Tryz.prog 68 #[aa s] w (EU (fun x=>bo x) w s):=by
 have ao:=aJ s;obtain ⟨i0,B,I,M,L⟩:=info_parts ze;rcases Nat.lt_or_ge 65536 s.length with T | P
 ·have N:((65536:Int)<(s.length:Int))=True:=by simp;omega
  clear B I M L;go_in;go_wp2_with fail;refine bodyPost_ret (v:=.tuple #[.slice none 0 0,.iface 58 (.int .i64 4)]) (by simp [results,Tryz.results68,go_sem, *] <;> trivial) rfl ?_;exact ⟨4,[],.big T rfl rfl,none,0,0,rfl,TkS.nil _,ae w⟩
 have N:((65536:Int)<(s.length:Int))=False:=by simp;omega
 have hs:s.length<4611686018427387904:=by omega
 have W:=Qh (And.intro B (And.intro I (And.intro M L)));clear B I M L;go_in;go_wp2_with fail;go_loopw [4,5,6,7] (fun ov lv sv iv wr=>∃ (done:List Tkn) (i line st:Nat),lv=.int .i64 (line:Nat)/\sv=.int .i64 (st:Nat)/\iv=.int .i64 (i:Nat)/\i<=s.length/\st<=i/\line<=i+1/\done.length<=i/\Hid (cS s=pre done (tk (s.drop i) line (i-st+1)))/\wr.ownsRow w.heap.size 126 4 ov done.length (cJ done)/\Below w.heap.size w wr) (fun _ _ _ iv _=>s.length-(intOf iv).toNat)
 case atStart=>exact ⟨[],0,1,0,rfl,rfl,rfl,Nat.zero_le _,Qr,by omega,Qr,Qh (by rw [BJ];rfl),⟨rfl,.inl ⟨rfl,rfl⟩⟩,ae w⟩
 case round =>
  obtain ⟨done,i,line,st,rfl,rfl,rfl,hi,bb,a6,a7,z,G,a⟩:=hrel;have E:=Qh G;clear G;rcases Nat.lt_or_ge i s.length with F | F
  ·have ac:((i:Int)<(s.length:Int))=True:=by simp;omega
   have a2:i<s.length:=F;obtain ⟨c,D⟩:∃ c,atB s i=c:=⟨_,rfl⟩;have C:∀ h,(⟨s.toArray⟩:ByteArray)[i]' h=c:=fun h=>by rw [<- D];exact (dy F).symm
   by_cases m:c=10
   ·have U:(((c.toNat:Nat):Int)==10)=true:=(aI c 10).trans (by simp [m])
    have b:=tr F (by rw [D];exact m) line (i-st+1);have aS:c≠37:=by rw [m];decide
    go_wp2_with fail;go_roundw
    case rel=>exact ⟨done,i+1,line+1,i+1,by go_num,by go_num,by go_num,by omega,by omega,by omega,by omega,Qh (by rw [z.out,b];congr 2;omega),E.out,a⟩
    case measure=>simp [intOf];omega
   have U:(((c.toNat:Nat):Int)==10)=false:=(aI c 10).trans (by simp [m]);by_cases l:dt c=true
   ·have b:=rK F (by rw [D];exact l) line (i-st+1)
    rcases isBlk_3 l with q | q | q
    ·have y:(((c.toNat:Nat):Int)==32)=true:=(aI c 32).trans (by simp [q])
     clear q;go_wp2_with fail;go_roundw
     case rel=>exact ⟨done,i+1,line,st,rfl,rfl,by go_num,by omega,by omega,by omega,by omega,Qh (by rw [z.out,b];congr 2;omega),E.out,a⟩
     case measure=>simp [intOf];omega
    ·have y:(((c.toNat:Nat):Int)==32)=false:=(aI c 32).trans (by simp [q])
     have Z:(((c.toNat:Nat):Int)==9)=true:=(aI c 9).trans (by simp [q]);clear q;go_wp2_with fail;go_roundw
     case rel=>exact ⟨done,i+1,line,st,rfl,rfl,by go_num,by omega,by omega,by omega,by omega,Qh (by rw [z.out,b];congr 2;omega),E.out,a⟩
     case measure=>simp [intOf];omega
    have y:(((c.toNat:Nat):Int)==32)=false:=(aI c 32).trans (by simp [q]);have Z:(((c.toNat:Nat):Int)==9)=false:=(aI c 9).trans (by simp [q]);have R:(((c.toNat:Nat):Int)==13)=true:=(aI c 13).trans (by simp [q]);clear q;go_wp2_with fail;go_roundw
    case rel=>exact ⟨done,i+1,line,st,rfl,rfl,by go_num,by omega,by omega,by omega,by omega,Qh (by rw [z.out,b];congr 2;omega),E.out,a⟩
    case measure=>simp [intOf];omega
   have l:dt c=false:=by simpa using l
   have y:(((c.toNat:Nat):Int)==32)=false:=(aI c 32).trans (beq_eq_false_iff_ne.2 (by rintro rfl;exact absurd l (by decide)));have Z:(((c.toNat:Nat):Int)==9)=false:=(aI c 9).trans (beq_eq_false_iff_ne.2 (by rintro rfl;exact absurd l (by decide)));have R:(((c.toNat:Nat):Int)==13)=false:=(aI c 13).trans (beq_eq_false_iff_ne.2 (by rintro rfl;exact absurd l (by decide)));by_cases u:c=37
   ·have V:(((c.toNat:Nat):Int)==37)=true:=(aI c 37).trans (by simp [u])
    obtain ⟨a3,b⟩:=vY F (by rw [D];exact u) line (i-st+1);go_wp2_with fail;clear U y Z R V C m l u D;go_loopw [7] (fun jv w2=>∃ (j:Nat),jv=.int .i64 (j:Nat)/\i<=j/\j<=s.length/\Hid (j+eB (s.drop j)=i+eB (s.drop i))/\wr=w2) (fun jv _=>s.length-(intOf jv).toNat)
    case atStart=>exact ⟨i,rfl,Qr,hi,Qh rfl,by first | rfl | trivial⟩
    case round =>
     obtain ⟨j,rfl,a9,hj,o,ab⟩:=hrel;subst ab;rcases Nat.lt_or_ge j s.length with p | p
     ·have bf:j<s.length:=p
      have ad:((j:Int)<(s.length:Int))=True:=by simp;omega
      obtain ⟨d,hd⟩:∃ d,atB s j=d:=⟨_,rfl⟩;have C:∀ h,(⟨s.toArray⟩:ByteArray)[j]' h=d:=fun h=>by rw [<- hd];exact (dy p).symm
      by_cases f:d=10
      ·have al:(((d.toNat:Nat):Int)==10)=true:=(aI d 10).trans (by simp [f])
       have O:=oO (s:=s) (j:=j) (.inr (by rw [hd];exact f));have H:i+eB (s.drop i)=j:=by have:=o.out;omega
       clear hd f;go_wp2_with fail;go_roundw
       case rel=>exact ⟨done,j,line,st,rfl,rfl,rfl,hj,by omega,by omega,by omega,Qh (by rw [z.out,b,H,show i-st+1+eB (s.drop i)=j-st+1 by have:=o.out;omega]),E.out,a⟩
       case measure=>simp [intOf];omega
      have al:(((d.toNat:Nat):Int)==10)=false:=(aI d 10).trans (by simp [f]);have Q:=vX p (by rw [hd];exact f);clear hd f;go_wp2_with fail;go_roundw
      case rel=>exact ⟨j+1,by go_num,by omega,by omega,Qh (by have h9:=o.out;rw [Q] at h9;omega),by first | rfl | trivial⟩
      case measure=>simp [intOf];omega
     have ad:((j:Int)<(s.length:Int))=False:=by simp;omega
     have O:=oO (s:=s) (j:=j) (.inl p);have H:i+eB (s.drop i)=j:=by have:=o.out;omega
     go_wp2_with fail;go_roundw
     case rel=>exact ⟨done,j,line,st,rfl,rfl,rfl,hj,by omega,by omega,by omega,Qh (by rw [z.out,b,H,show i-st+1+eB (s.drop i)=j-st+1 by have:=o.out;omega]),E.out,a⟩
     case measure=>simp [intOf];omega
   have V:(((c.toNat:Nat):Int)==37)=false:=(aI c 37).trans (by simp [u]);obtain ⟨r,Y⟩:∃ r,s.drop i=r:=⟨_,rfl⟩;have bd:r.length=s.length-i:=by rw [<- Y,List.length_drop]
   have e2:(⟨s.toArray⟩:ByteArray).extract i s.length=⟨r.toArray⟩:=by
    rw [oH,Y,List.take_of_length_le (by omega)]
   have B:(0:Int)<=(i:Int):=by omega
   have bl:(i:Int)<=(s.length:Int):=by omega
   cases hf:aU (s.drop i) with
   | err x =>
    have b:=we F hf (by rw [D];exact m) (by rw [D];exact l) (by rw [D];exact u) line (i-st+1);have a8:=rM hf;have bn:((x:Int)==0)=false:=by simp;omega
    go_wp2_with fail;refine (rL _ r (by omega) (by omega) x (Y ▸ hf)).mono ?_;rintro e X ⟨rfl,t⟩;go_wp2_with fail;refine bodyPost_ret (v:=.tuple #[.slice none 0 0,.iface 58 (.int .i64 (x:Nat))]) (by simp [results,Tryz.results68,go_sem, *] <;> trivial) rfl ?_;refine ⟨(x:Int),[],.err x P (by rw [z.out,b];rfl) rfl rfl,none,0,0,by show _=Ending.returned (.tuple #[_,bo (x:Int)]);rw [show bo (x:Int)=_ from if_neg (by omega)],TkS.nil _,a.trans (t.mono a.size)⟩
   | ok k n =>
    have an:=eI hf;rw [List.length_drop] at an;have b:=vZ F hf line (i-st+1);obtain ⟨x,hx⟩:∃ x,(s.drop i).take n=x:=⟨_,rfl⟩;rw [hx] at b;have a1:IntKind.i64.wrap ((i:Int)+(n:Int))=(i:Int)+(n:Int):=IntWalk.i64_in _ ⟨by omega,by omega⟩;have a5:((i:Int)+(n:Int)).toNat=i+n:=by omega
    have e3:(⟨s.toArray⟩:ByteArray).extract i (i+n)=⟨x.toArray⟩:=by
     rw [oH,<- hx,show i+n-i=n by omega]
    have bg:(0:Int)<=(i:Int)+(n:Int):=by omega
    have a4:(i:Int)+(n:Int)<=(s.length:Int):=by omega
    have br:(i:Int)<=(i:Int)+(n:Int):=by omega
    have a0:IntKind.i64.wrap ((i:Int)-(st:Int))=(i:Int)-(st:Int):=IntWalk.i64_in _ ⟨by omega,by omega⟩;have aT:IntKind.i64.wrap ((i:Int)-(st:Int)+1)=(i:Int)-(st:Int)+1:=IntWalk.i64_in _ ⟨by omega,by omega⟩;go_wp2_with fail;refine (tt _ r (by omega) (by omega) k n (Y ▸ hf)).mono ?_;rintro e X ⟨rfl,t⟩;have S:=Qh (vW E.out t);have g:=a.trans (t.mono a.size);clear t;go_wp2_with (at_builtin;refine wpList_append_lies _ rfl _ _ _ rfl w.heap.size 126 i0 (.agg #[.int .i64 0,.string ⟨#[]⟩,.int .i64 0,.int .i64 0]) 4 40 Tryz.underlying113 W.out.1 W.out.2.1 W.out.2.2.1 W.out.2.2.2 rfl (by omega) _ done.length (cJ done) rfl (S.out.alloc _) ⟨X.heap.size,0,none⟩ 1 1 [_,_,_,_] rfl rfl (World.news_of_block (heap_alloc_new X _)) (by simp [Value.oneCell']) (by omega) (by unfold maxLen;omega) (by omega) (by have:=g.size;simp;omega) (X.heap.size+1) (by simp) ?_;intro gx cap w9 J K bk aC);go_roundw
    case rel =>
     refine ⟨done++[⟨k,x,line,(i-st+1)⟩],i+n,line,st,rfl,rfl,by go_num,by omega,by omega,by omega,by rw [List.length_append,List.length_singleton];omega,Qh ?_,?_,(g.alloc g.size _).grown K (by have:=g.size;simp;omega) (dd S.out)⟩
     ·rw [z.out,b,yZ];congr 2;omega
     rw [tq,List.length_append,List.length_singleton];have e:([.int .i64 (k:Nat),aa x,.int .i64 (line:Nat),.int .i64 ((i:Int)-(st:Int)+1)]:List Value)=rI ⟨k,x,line,(i-st+1)⟩:=by unfold rI;simp;try omega
     rw [<- e];exact J
    case measure=>simp [intOf];omega
  have ac:((i:Int)<(s.length:Int))=False:=by simp;omega
  obtain rfl:i=s.length:=by omega
  obtain ⟨A,cc,hv,hS⟩:=TkS.of_own E.out;subst hv;go_wp2_with fail;refine bodyPost_ret (v:=.tuple #[.slice A done.length cc,.nilIface]) (by simp [results,Tryz.results68,go_sem, *] <;> trivial) rfl ?_;exact ⟨0,done,.ok P (by rw [z.out,List.drop_length,yO];simp [pre]) rfl,A,done.length,cc,rfl,hS,a⟩
theorem zf {l:List Tkn}{i:Nat}(h:i<l.length):(cJ l)[i*4]?=some (.int .i64 (l[i].kind:Nat))/\(cJ l)[i*4+1]?=some (aa l[i].text)/\(cJ l)[i*4+2]?=some (.int .i64 (l[i].line:Nat))/\(cJ l)[i*4+3]?=some (.int .i64 (l[i].col:Nat)):=by
 induction l generalizing i with
 | nil=>simp at h
 | cons t l ih =>
  have e:cJ (t::l)=[.int .i64 (t.kind:Nat),aa t.text,.int .i64 (t.line:Nat),.int .i64 (t.col:Nat)]++cJ l:=rfl;rw [e]
  cases i with
  | zero=>simp
  | succ i =>
   have a:=ih (i:=i) (by simpa using h);have s:(i+1)*4=i*4+4:=by omega
   rw [s];simp only [List.getElem_cons_succ];refine ⟨?_,?_,?_,?_⟩
   ·rw [List.getElem?_append_right (by simp)];exact a.1
   ·rw [List.getElem?_append_right (by simp)];exact a.2.1
   ·rw [List.getElem?_append_right (by simp)];exact a.2.2.1
   rw [List.getElem?_append_right (by simp)];exact a.2.2.2
theorem TkS.cells {w:World}{A:Option Addr}{n c:Nat}{l:List Tkn}(h:TkS w A n c l) {i:Nat}(j:i<n):∃ g t,A=some ⟨g,0,none⟩/\n<=c/\l[i]?=some t/\w.cell? ⟨g,i*4,none⟩=some (.int .i64 (t.kind:Nat))/\w.cell? ⟨g,i*4+1,none⟩=some (aa t.text)/\w.cell? ⟨g,i*4+2,none⟩=some (.int .i64 (t.line:Nat))/\w.cell? ⟨g,i*4+3,none⟩=some (.int .i64 (t.col:Nat)):=by
 have f:=h.1;rcases h.2 with ⟨k,_⟩ | ⟨g,e,d,a⟩
 ·omega
 have b:=zf (l:=l) (i:=i) (by omega);exact ⟨g,_,e,d,List.getElem?_eq_getElem (by omega),a _ _ b.1,a _ _ b.2.1,a _ _ b.2.2.1,a _ _ b.2.2.2⟩
def aQ (s:List UInt8):Bool:=decide (0<be s)&&decide (be s=s.length)&&decide (be s<=24)
def gH:List (List UInt8)->List UInt8
  | []=>[]
  | [x]=>x
  | x::y::r=>x++32::gH (y::r)
theorem rN (a:List (List UInt8)):Lib.join a [32]=gH a:=by
 induction a with
 | nil=>rfl
 | cons x r ih =>
  cases r with
  | nil=>rw [Lib.join_one];rfl
  | cons y r =>
   rw [gH,<- ih];rw [Lib.join_cons,Lib.join_cons];simp [Lib.joinTail]
theorem cR (a b:List UInt8):(⟨a.toArray⟩:ByteArray)++(⟨b.toArray⟩:ByteArray)=⟨(a++b).toArray⟩:=by
 apply ByteArray.ext;simp
theorem mP (w:World) (s:List UInt8) (g:s.length<4611686018427387904) (v:Bool) (c:aQ s=v):Calls Tryz.prog 54 #[aa s] w (ax w (.bool v)):=by
 have l:=aJ s;obtain ⟨n,b⟩:∃ n,be s=n:=⟨_,rfl⟩;have m:n<=s.length:=by rw [<- b];exact jW s
 unfold aQ at c;rw [b] at c;rcases (show n=0\/(0<n/\n≠s.length)\/(0<n/\n=s.length/\24<n)\/(0<n/\n=s.length/\n<=24) by omega) with j | ⟨j,f⟩ | ⟨j,f,o⟩ | ⟨j,f,o⟩
 ·have i:((0:Int)<(n:Int))=False:=eq_false (by omega)
  obtain rfl:v=false:=by rw [<- c];simp;omega
  have q:(n==0)=true:=by simp;omega
  clear c;go_in;go_wp2_with fail;refine (dh _ (s) g n b).mono ?_;rintro e h ⟨rfl,q1⟩;have a:=(ae w).trans (q1.mono (ae w).size);have d:=q1.size;clear q1;go_wp2;go_ret;exact bW rfl a
 ·have i:((0:Int)<(n:Int))=True:=eq_true (by omega)
  have k:((n:Int)==(s.length:Int))=false:=by simp;omega
  obtain rfl:v=false:=by rw [<- c];simp;omega
  clear c f;go_in;go_wp2_with fail;refine (dh _ (s) g n b).mono ?_;rintro e h ⟨rfl,q1⟩;have a:=(ae w).trans (q1.mono (ae w).size);have d:=q1.size;clear q1;go_wp2;go_ret;exact bW rfl a
 ·have i:((0:Int)<(n:Int))=True:=eq_true (by omega)
  have k:((n:Int)==(s.length:Int))=true:=by simp;omega
  have p:((n:Int)<=24)=False:=eq_false (by omega);obtain rfl:v=false:=by rw [<- c];simp;omega
  clear c f;go_in;go_wp2_with fail;refine (dh _ (s) g n b).mono ?_;rintro e h ⟨rfl,q1⟩;have a:=(ae w).trans (q1.mono (ae w).size);have d:=q1.size;clear q1;go_wp2;go_ret;exact bW rfl a
 have i:((0:Int)<(n:Int))=True:=eq_true (by omega);have k:((n:Int)==(s.length:Int))=true:=by simp;omega
 have p:((n:Int)<=24)=True:=eq_true (by omega);obtain rfl:v=true:=by rw [<- c,decide_eq_true (show 0<n by omega),decide_eq_true (show n=s.length by omega),decide_eq_true (show n<=24 by omega)];rfl
 clear c f;go_in;go_wp2_with fail;refine (dh _ (s) g n b).mono ?_;rintro e h ⟨rfl,q1⟩;have a:=(ae w).trans (q1.mono (ae w).size);have d:=q1.size;clear q1;go_wp2;go_ret;exact bW rfl a
theorem mQ (w:World) (s:List UInt8) (i:s.length<4611686018427387904) (v:Bool) (a:aQ s=v):Calls Tryz.prog 27 #[aa s] w (ax w (.bool v)):=by
 have j:=aJ s;obtain ⟨n,b⟩:∃ n,be s=n:=⟨_,rfl⟩;have l:n<=s.length:=by rw [<- b];exact jW s
 unfold aQ at a;rw [b] at a;rcases (show s.length=0\/24<s.length\/(0<s.length/\s.length<=24/\n≠s.length)\/(0<s.length/\s.length<=24/\n=s.length) by omega) with f | f | ⟨f,m,o⟩ | ⟨f,m,o⟩
 ·have d:((0:Int)<(s.length:Int))=False:=eq_false (by omega)
  obtain rfl:v=false:=by rw [<- a];simp;omega
  clear a;go_in;go_wp2;go_ret;exact bW (by first | rfl | (simp;omega)) (ae w)
 ·have d:((0:Int)<(s.length:Int))=True:=eq_true (by omega)
  have h:((s.length:Int)<=24)=False:=eq_false (by omega);obtain rfl:v=false:=by rw [<- a];simp;omega
  clear a;go_in;go_wp2;go_ret;exact bW (by first | rfl | (simp;omega)) (ae w)
 ·have d:((0:Int)<(s.length:Int))=True:=eq_true (by omega)
  have h:((s.length:Int)<=24)=True:=eq_true (by omega);have p:((n:Int)==(s.length:Int))=false:=by simp;omega
  obtain rfl:v=false:=by rw [<- a];simp;omega
  clear a;go_in;go_wp2_with fail;refine (lz _ (s) (0) 0 rfl (Nat.zero_le _) i (n:Nat) (by rw [List.drop_zero,b,Nat.zero_add])).mono ?_;rintro e k ⟨rfl,q1⟩;have c:=(ae w).trans (q1.mono (ae w).size);have g:=q1.size;clear q1;go_wp2;go_ret;exact bW (by first | rfl | (simp;omega)) c
 have d:((0:Int)<(s.length:Int))=True:=eq_true (by omega);have h:((s.length:Int)<=24)=True:=eq_true (by omega);have p:((n:Int)==(s.length:Int))=true:=by simp;omega
 obtain rfl:v=true:=by rw [<- a,decide_eq_true (show 0<n by omega),decide_eq_true (show n=s.length by omega),decide_eq_true (show n<=24 by omega)];rfl
 clear a;go_in;go_wp2_with fail;refine (lz _ (s) (0) 0 rfl (Nat.zero_le _) i (n:Nat) (by rw [List.drop_zero,b,Nat.zero_add])).mono ?_;rintro e k ⟨rfl,q1⟩;have c:=(ae w).trans (q1.mono (ae w).size);have g:=q1.size;clear q1;go_wp2;go_ret;exact bW (by first | rfl | (simp;omega)) c
structure MarkL where
  name:List UInt8
  x:RD
  y:RD
structure BodyL where
  name:List UInt8
  pts:List MarkL
structure aD where
  name:List UInt8
  kind:Int
  a:Int
  point:Int
  b:Int
  on:Int
  to_:Int
structure aE where
  name:List UInt8
  body:Int
structure ag where
  name:List UInt8
  bodies:List BodyL
  joints:List aD
  drivers:List aE
def bt {α:Type}(f:List α->α->Int):List α->List α->Int
  | _,[]=>0
  | prev,a::r=>if f prev a=0 then bt f (prev++[a]) r else f prev a
theorem cX {α:Type}{f:List α->α->Int}{l:List α}{i:Nat}{x:Int}(h:bt f (l.take i) (l.drop i)=x) {a:α}(c:l[i]?=some a) :
 (f (l.take i) a=0/\bt f (l.take (i+1)) (l.drop (i+1))=x)\/(f (l.take i) a≠0/\f (l.take i) a=x):=by
 obtain ⟨d,j⟩:=List.getElem?_eq_some_iff.1 c;have hd:l.drop i=a::l.drop (i+1):=by rw [List.drop_eq_getElem_cons d,j]
 have g:l.take (i+1)=l.take i++[a]:=by rw [List.take_add_one,c];rfl
 rw [hd] at h;unfold bt at h;rw [g];split at h
 ·left;rename_i b;exact ⟨b,h⟩
 right;rename_i b;exact ⟨b,h⟩
theorem dT {α:Type}{f:List α->α->Int}{l:List α}{i:Nat}{x:Int}(h:bt f (l.take i) (l.drop i)=x) (a:l.length<=i):x=0:=by
 rw [List.drop_eq_nil_of_le a] at h;exact h.symm
theorem cK {α:Type}{f:List α->α->Int}{l:List α}{x:Int}(h:bt f [] l=x):bt f (l.take 0) (l.drop 0)=x:=h
def twN (l:List (List UInt8)) (n:List UInt8):Bool:=l.any fun m=>m==n
theorem dU {α:Type}{f:α->List UInt8}{l:List α}{j:Nat}{a:α}{nm:List UInt8}(c:l[j]?=some a) (h:twN ((l.take j).map f) nm=false) (b:f a≠nm):twN ((l.take (j+1)).map f) nm=false:=by
 have d:l.take (j+1)=l.take j++[a]:=by rw [List.take_add_one,c];rfl
 unfold twN at h ⊢;rw [d,List.map_append,List.any_append,h];simpa using b
theorem dH {α:Type}{f:α->List UInt8}{l:List α}{j i:Nat}{a:α}{nm:List UInt8}(d:l[j]?=some a) (b:j<i) (c:f a=nm):twN ((l.take i).map f) nm=true:=by
 unfold twN;rw [List.any_eq_true];refine ⟨f a,?_,by simpa using c⟩;have g:(l.take i)[j]?=some a:=by rw [List.getElem?_take,if_pos b];exact d
 exact List.mem_map_of_mem (List.mem_of_getElem? g)
def inI (i:Int) (n:Nat):Bool:=decide (0<=i)&&decide (i<(n:Int))
def bc (prev:List MarkL) (m:MarkL):Int :=
  if aQ m.name=false then 5 else if twN (prev.map MarkL.name) m.name=true then 6 else if m.x.ok=false then 3 else if m.y.ok=false then 3 else 0
def aL (prev:List BodyL) (b:BodyL):Int :=
  if aQ b.name=false then 5 else if twN (prev.map BodyL.name) b.name=true then 6 else if 8<b.pts.length then 4 else bt bc [] b.pts
def ci (L:ag) (i:Int):List MarkL:=match L.bodies[i.toNat]? with | some b=>b.pts | none=>[]
def eC (l:List MarkL) (i j:Int):Bool:=match l[i.toNat]?,l[j.toNat]? with | some p,some q=>decide (p.x.q=q.x.q)&&decide (p.y.q=q.y.q) | _,_=>false
def bj (L:ag) (j:aD):Int :=
  if j.kind≠0/\j.kind≠1 then 7 else if inI j.a L.bodies.length=false then 9 else if inI j.b L.bodies.length=false then 9 else if j.a=j.b then 13
  else if inI j.point (ci L j.a).length=false then 9 else if inI j.on (ci L j.b).length=false then 9
  else if j.kind=0 then (if j.to_=0 then 0 else 2) else if inI j.to_ (ci L j.b).length=false then 9 else if eC (ci L j.b) j.on j.to_=true then 8 else 0
def aK (L:ag) (prev:List aD) (j:aD):Int :=
  if aQ j.name=false then 5 else if twN (prev.map aD.name) j.name=true then 6 else bj L j
def aA (n:Nat) (prev:List aE) (d:aE):Int :=
  if aQ d.name=false then 5 else if twN (prev.map aE.name) d.name=true then 6 else if inI d.body n=false then 9 else if d.body=0 then 7
  else if (prev.any fun p=>p.body==d.body)=true then 6 else 0
def aG (L:ag):Int :=
  if aQ L.name=false then 5 else if L.bodies.length=0 then 10 else if 8<L.bodies.length then 4 else if bt aL [] L.bodies≠0 then bt aL [] L.bodies
  else if 16<L.joints.length then 4 else if bt (aK L) [] L.joints≠0 then bt (aK L) [] L.joints
  else if 2<L.drivers.length then 4 else bt (aA L.bodies.length) [] L.drivers
theorem lR {z:Int}{k K:Nat}(h:z.natAbs<4294967296^k) (a:k<=K) (b:0<K):(Lib.itoa z).length<=10*K+1:=by
 have c:Lib.nDigits z.natAbs<=10*K:=gV a b h;rw [jR,List.length_append,Lib.decDigits_length];split <;> simp <;> omega
theorem wg (X Y:List UInt8):((⟨X.toArray⟩:ByteArray)++⟨#[47]⟩)++⟨Y.toArray⟩=⟨(X++47::Y).toArray⟩:=by
 rw [show (⟨#[47]⟩:ByteArray)=⟨[47].toArray⟩ from rfl,rm,rm,List.append_assoc];rfl
theorem kX {q:Rat}(h:q.den=1):am q=Lib.itoa q.num:=if_pos h
theorem kY {q:Rat}(h:q.den≠1):am q=Lib.itoa q.num++47::Lib.itoa (q.den:Int):=if_neg h
theorem BL {x y:Int}(h:x≠y):da x y≠0:=by
 unfold da;(repeat' split) <;> omega
theorem zg:da 1 1=0:=by decide
theorem zh (w:World) (b A n c D m e q k) (h:QZ w b A n c D m e q k) (h0:0<k) (hk:k<=40000000) (v:Tab w) (hd:q.den=1) :
 Calls Tryz.prog 47 #[.agg #[.bool b,.slice A n c,.slice D m e]] w (ax w (aa (am q))):=by
 rw [kX hd];have Y:=Qh (show da (q.den:Int) 1=0 by rw [hd];exact zg);clear hd;go_in;go_wp2_with fail;refine (iJ _ b A n c D m e (q) (k) ?_ ?_ ?_).mono ?_;(exact (h.belw ((Below.refl _ _).alloc Qr _)));(omega);(omega);rintro e B ⟨C,E,G,c1,a,f,g,d,rfl,F,i,I⟩;have q1:=I.q1;replace h:=h.belw q1;have l:Blk B w.heap.size 54 #[.bool b,.slice A n c,.slice D m e]:=(ak _ _ _ (by simp)).below I (by simp);have J:=(ae w).trans (q1.mono (ae w).size);have Z:=I.l1;clear q1;go_wp2_with fail;have p2:=(((Kp.refl B).alloc (.cells #[.bool C,.slice E G c1] 134)).alloc (.cells #[.bool a,.slice f g d] 134));have H:=((J.alloc (by first | omega | (simp <;> omega)) (.cells #[.bool C,.slice E G c1] 134)).alloc (by first | omega | (simp <;> omega)) (.cells #[.bool a,.slice f g d] 134));have j:Blk ((B.alloc (.cells #[.bool C,.slice E G c1] 134)).alloc (.cells #[.bool a,.slice f g d] 134)) B.heap.size 134 #[.bool C,.slice E G c1]:=((ak _ _ _ (by simp)).alloc (.cells #[.bool a,.slice f g d] 134));have t:Blk ((B.alloc (.cells #[.bool C,.slice E G c1] 134)).alloc (.cells #[.bool a,.slice f g d] 134)) (B.heap.size+1) 134 #[.bool a,.slice f g d]:=(ak _ _ _ (by simp));replace l:=((l.alloc (.cells #[.bool C,.slice E G c1] 134)).alloc (.cells #[.bool a,.slice f g d] 134));have S:B.heap.size+2<=((B.alloc (.cells #[.bool C,.slice E G c1] 134)).alloc (.cells #[.bool a,.slice f g d] 134)).heap.size:=by simp
 generalize R:((B.alloc (.cells #[.bool C,.slice E G c1] 134)).alloc (.cells #[.bool a,.slice f g d] 134))=w2 at p2 H S j t l ⊢;clear R;replace h:=h.keep p2;replace F:=F.keep p2;replace i:=i.keep p2;clear J;have O:=jh l.lt;obtain ⟨o,p,s,u⟩:=jh j.lt;have P:=t.c2;have L:=sM t.lt
 go_region_held3 (fun U=>Sees w2.heap.size w2 U) (first | with_reducible exact Sees.of Qr (by assumption) | with_reducible exact Sees.of Qr (ae _).drew | exact Sees.of Qr (af (ae _) 1) | exact Sees.of Qr (af (by assumption) _))
  (first
   | (go_at_call 84;(with_reducible refine (ug _).mono ?_);rintro e V ⟨X,A3,W,c3,rfl,N,x⟩;replace x:=aj (af (ae _) 1) x;have q3:Below w2.heap.size w2 V:=aj (ae w2) x;replace h:=h.belw x;replace F:=F.belw x;replace i:=i.belw x)
   | (go_at_call 83;(with_reducible refine (uv _ a f g d (((q).den:Int)) ((k)) ?_ X A3 W c3 (1) (1) ?_ 0 Y.out ?_).mono ?_);(exact i.iz);(exact N.iz);(omega);rintro e T ⟨rfl,y⟩;have M:Below w2.heap.size w2 T:=aj q3 y;replace h:=h.belw y;replace F:=F.belw y;replace i:=i.belw y;replace N:=N.belw y))
 have r:=H.trans (M.mono H.size);clear O o p s u P L;replace l:=l.b M;replace j:=j.b M;replace t:=t.b M;have ab:=M.size;have K:=j.c2;obtain ⟨o,p,s,u⟩:=jh j.lt;go_wp2_with fail;refine (mO _ C E G c1 ((q).num) ((k)) ?_ (Lib.itoa q.num) ?_ ?_ ?_).mono ?_;(exact F.iz);(omega);(first | exact v.belw r | exact (v.belw r).belw (af (ae _) 1) | exact (v.belw r).belw (ae _).drew | exact (v.belw r).belw (by assumption) | fail);(exact rfl);rintro e w5 ⟨rfl,z⟩;clear K o p s u;replace h:=h.belw z;replace F:=F.belw z;replace i:=i.belw z;replace N:=N.belw z;replace l:=l.b z;replace j:=j.b z;replace t:=t.b z;have Q:=r.trans (z.mono r.size);have ac:=z.size;clear z r;go_wp2;go_ret;exact ⟨rfl,Q⟩
theorem zi (w:World) (b A n c D m e q k) (h:QZ w b A n c D m e q k) (h0:0<k) (hk:k<=40000000) (a:Tab w) (hd:q.den≠1) :
 Calls Tryz.prog 47 #[.agg #[.bool b,.slice A n c,.slice D m e]] w (ax w (aa (am q))):=by
 rw [kY hd];obtain ⟨u,hu⟩:∃ u,da (q.den:Int) 1=u:=⟨_,rfl⟩;have an:u≠0:=by rw [<- hu];exact BL (by omega)
 have e0:((u:Int)==0)=false:=by simp;exact an
 have HC:=Qh hu;obtain ⟨X,hX⟩:∃ X,Lib.itoa q.num=X:=⟨_,rfl⟩;obtain ⟨Y,hY⟩:∃ Y,Lib.itoa (q.den:Int)=Y:=⟨_,rfl⟩;have hs:=h.sz h0;have aS:(⟨X.toArray⟩:ByteArray).size<=1000000000:=by show X.length<=_;rw [<- hX];have:=lR hs.1 hk (by omega);omega
 have ao:(⟨Y.toArray⟩:ByteArray).size<=1000000000:=by show Y.length<=_;rw [<- hY];have:=lR (z:=(q.den:Int)) (by simpa using hs.2) hk (by omega);omega
 obtain ⟨N,hN⟩:∃ N,(⟨X.toArray⟩:ByteArray).size=N:=⟨_,rfl⟩;obtain ⟨M,hM⟩:∃ M,(⟨Y.toArray⟩:ByteArray).size=M:=⟨_,rfl⟩;rw [hN] at aS;rw [hM] at ao;have a6:(9223372036854775807<N+1)=False:=by simp;omega
 have a4:(9223372036854775807<=N)=False:=by simp;omega
 have a5:(9223372036854775807<N+1+M)=False:=by simp;omega
 rw [hX,hY];have HX:=Qh hX;have HY:=Qh hY;clear hd hu an hX hY hs;go_in;go_wp2_with fail;refine (iJ _ b A n c D m e (q) (k) ?_ ?_ ?_).mono ?_;(exact (h.belw ((Below.refl _ _).alloc Qr _)));(omega);(omega);rintro e U ⟨V,T,W,c1,f,g,i,j,rfl,R,d,ac⟩;have q1:=ac.q1;replace h:=h.belw q1;have p:Blk U w.heap.size 54 #[.bool b,.slice A n c,.slice D m e]:=(ak _ _ _ (by simp)).below ac (by simp);have ad:=(ae w).trans (q1.mono (ae w).size);have a2:=ac.l1;clear q1;go_wp2_with fail;have p2:=(((Kp.refl U).alloc (.cells #[.bool V,.slice T W c1] 134)).alloc (.cells #[.bool f,.slice g i j] 134));have ab:=((ad.alloc (by first | omega | (simp <;> omega)) (.cells #[.bool V,.slice T W c1] 134)).alloc (by first | omega | (simp <;> omega)) (.cells #[.bool f,.slice g i j] 134));have r:Blk ((U.alloc (.cells #[.bool V,.slice T W c1] 134)).alloc (.cells #[.bool f,.slice g i j] 134)) U.heap.size 134 #[.bool V,.slice T W c1]:=((ak _ _ _ (by simp)).alloc (.cells #[.bool f,.slice g i j] 134));have o:Blk ((U.alloc (.cells #[.bool V,.slice T W c1] 134)).alloc (.cells #[.bool f,.slice g i j] 134)) (U.heap.size+1) 134 #[.bool f,.slice g i j]:=(ak _ _ _ (by simp));replace p:=((p.alloc (.cells #[.bool V,.slice T W c1] 134)).alloc (.cells #[.bool f,.slice g i j] 134));have a0:U.heap.size+2<=((U.alloc (.cells #[.bool V,.slice T W c1] 134)).alloc (.cells #[.bool f,.slice g i j] 134)).heap.size:=by simp
 generalize aT:((U.alloc (.cells #[.bool V,.slice T W c1] 134)).alloc (.cells #[.bool f,.slice g i j] 134))=w2 at p2 ab a0 r o p ⊢;clear aT;replace h:=h.keep p2;replace R:=R.keep p2;replace d:=d.keep p2;clear ad;obtain ⟨E,O,C,J⟩:=jh p.lt;obtain ⟨s,G,K,L⟩:=jh r.lt;obtain ⟨I,t⟩:=o.c2;obtain ⟨v,F,y,B⟩:=sM o.lt
 go_region_held3 (fun w'=>Sees w2.heap.size w2 w') (first | with_reducible exact Sees.of Qr (by assumption) | with_reducible exact Sees.of Qr (ae _).drew | exact Sees.of Qr (af (ae _) 1) | exact Sees.of Qr (af (by assumption) _))
  (first
   | (go_at_call 84;(with_reducible refine (ug _).mono ?_);rintro e w3 ⟨b3,A3,n3,c3,rfl,h3,P⟩;replace P:=aj (af (ae _) 1) P;have q3:Below w2.heap.size w2 w3:=aj (ae w2) P;replace h:=h.belw P;replace R:=R.belw P;replace d:=d.belw P)
   | (go_at_call 83;(with_reducible refine (uv _ f g i j (((q).den:Int)) ((k)) ?_ b3 A3 n3 c3 (1) (1) ?_ u HC.out ?_).mono ?_);(exact d.iz);(exact h3.iz);(omega);rintro e Z ⟨rfl,S⟩;have q4:Below w2.heap.size w2 Z:=aj q3 S;replace h:=h.belw S;replace R:=R.belw S;replace d:=d.belw S;replace h3:=h3.belw S))
 have l:=ab.trans (q4.mono ab.size);clear E O C J s G K L I t v F y B;replace p:=p.b q4;replace r:=r.b q4;replace o:=o.b q4;have a3:=q4.size;obtain ⟨E,O,C,J⟩:=jh p.lt;have al:=r.c2;obtain ⟨s,G,K,L⟩:=jh r.lt;obtain ⟨I,t⟩:=o.c2;obtain ⟨v,F,y,B⟩:=sM o.lt;go_wp2_with fail
 go_region_held3 (fun w'=>Sees Z.heap.size Z w') (first | with_reducible exact Sees.of Qr (by assumption) | with_reducible exact Sees.of Qr (ae _).drew | exact Sees.of Qr (af (ae _) 1) | exact Sees.of Qr (af (by assumption) _))
  (first
   | (go_at_call 85;(with_reducible refine (mO _ V T W c1 ((q).num) ((k)) ?_ X ?_ ?_ ?_).mono ?_);(exact R.iz);(omega);(first | exact a.belw l | exact (a.belw l).belw (af (ae _) 1) | exact (a.belw l).belw (ae _).drew | exact (a.belw l).belw (by assumption) | fail);(exact HX.out);rintro e w5 ⟨rfl,H⟩;replace H:=aj (af (ae _) 1) H;have q5:Below Z.heap.size Z w5:=aj (ae Z) H;replace h:=h.belw H;replace R:=R.belw H;replace d:=d.belw H;replace h3:=h3.belw H)
   | (go_at_call 85;(with_reducible refine (mO _ f g i j (((q).den:Int)) ((k)) ?_ Y ?_ ?_ ?_).mono ?_);(exact d.iz);(omega);(first | exact a.belw l | exact (a.belw l).belw (af (ae _) 1) | exact (a.belw l).belw (ae _).drew | exact (a.belw l).belw (by assumption) | fail);(exact HY.out);rintro e w6 ⟨rfl,Q⟩;have q6:Below Z.heap.size Z w6:=aj q5 Q;replace h:=h.belw Q;replace R:=R.belw Q;replace d:=d.belw Q;replace h3:=h3.belw Q))
 have aC:=l.trans (q6.mono l.size);clear E O C J al s G K L I t v F y B;replace p:=p.b q6;replace r:=r.b q6;replace o:=o.b q6;have a1:=q6.size;go_wp2;go_ret;refine ⟨?_,aC⟩;exact congrArg (fun x=>Ending.returned (.string x)) (wg X Y)
theorem Dw (w:World) (b A n c D m e q k) (h:QZ w b A n c D m e q k) (f:0<k) (d:k<=40000000) (a:Tab w) (T:List UInt8) (g:am q=T):Calls Tryz.prog 47 #[.agg #[.bool b,.slice A n c,.slice D m e]] w (ax w (aa T)):=by
 subst g;by_cases hd:q.den=1
 ·exact zh w b A n c D m e q k h f d a hd
 exact zi w b A n c D m e q k h f d a hd
def bB (m:MarkL):List UInt8:=32::(m.name++32::(am m.x.q++32::(am m.y.q++[59])))
def bK (b:BodyL):List UInt8:=[98,111,100,121,32]++b.name++[32,123]++b.pts.flatMap bB++[32,125]
theorem dA {q:Rat}{k:Nat}(b:Sz q k) (a:k<=500):(am q).length<=10100:=by
 have d:=lR (z:=q.num) (k:=k) (K:=500) b.1 a (by decide);have c:=lR (z:=(q.den:Int)) (k:=k) (K:=500) (by simpa using b.2) a (by decide);by_cases h:q.den=1
 ·rw [kX h];omega
 rw [kY h,List.length_append,List.length_cons];omega
def iP (m:MarkL):Prop:=m.name.length<=1000/\Sz m.x.q 500/\Sz m.y.q 500
theorem pO {m:MarkL}(h:iP m):(bB m).length<=22000:=by
 have b:=dA h.2.1 Qr;have a:=dA h.2.2 Qr;have c:=h.1;unfold bB;simp only [List.length_cons,List.length_append,List.length_nil];omega
theorem kZ:∀ {l:List MarkL},(∀ m∈l,iP m)->(l.flatMap bB).length<=22000*l.length
 | [],_=>by simp
 | m::l,h=>by
  have b:=pO (h m (by simp));have c:=kZ (l:=l) (fun x a=>h x (by simp [a]));simp only [List.flatMap_cons,List.length_append,List.length_cons];omega
theorem iQ {α:Type}(f:α->List UInt8) {l:List α}{i:Nat}{a:α}(h:l[i]?=some a):(l.take (i+1)).flatMap f=(l.take i).flatMap f++f a:=by
 rw [List.take_add_one,h];simp
theorem fT {α:Type}(f:α->List UInt8):∀ (l:List α) (i:Nat),((l.take i).flatMap f).length<=(l.flatMap f).length
 | [],i=>by simp
 | a::l,0=>by simp
 | a::l,i+1=>by
  have:=fT f l i;simp only [List.take_succ_cons,List.flatMap_cons,List.length_append];omega
abbrev NmL (s:List UInt8):Prop:=s.length<4611686018427387904
def cY (w:World) (g o:Nat) (r:RD) (k:Nat):Prop:=∃ b A n c D m e,w.cell? ⟨g,o,none⟩=some (.bool b)/\w.cell? ⟨g,o+1,none⟩=some (.slice A n c)/\w.cell? ⟨g,o+2,none⟩=some (.slice D m e)/\QD w b A n c D m e r k
def cT (k:Nat) (w:World) (g o:Nat) (m:MarkL):Prop:=w.cell? ⟨g,o,none⟩=some (aa m.name)/\cY w g (o+1) m.x k/\cY w g (o+4) m.y k/\NmL m.name
def SlS {α:Type}(P:World->Nat->Nat->α->Prop) (s:Nat) (w:World) (A:Option Addr) (n c:Nat) (l:List α):Prop :=
  l.length=n/\n<=c/\(0<n->∃ g o,A=some ⟨g,o,none⟩/\g<w.heap.size/\∀ i a,l[i]?=some a->P w g (o+i*s) a)
def dV (k:Nat) (w:World) (g o:Nat) (b:BodyL):Prop:=∃ A n c,w.cell? ⟨g,o,none⟩=some (aa b.name)/\w.cell? ⟨g,o+1,none⟩=some (.slice A n c)/\SlS (cT k) 7 w A n c b.pts/\NmL b.name
def ic (w:World) (g o:Nat) (j:aD):Prop:=w.cell? ⟨g,o,none⟩=some (aa j.name)/\w.cell? ⟨g,o+1,none⟩=some (.int .i64 j.kind)/\w.cell? ⟨g,o+2,none⟩=some (.int .i64 j.a)/\w.cell? ⟨g,o+3,none⟩=some (.int .i64 j.point)/\w.cell? ⟨g,o+4,none⟩=some (.int .i64 j.b)/\w.cell? ⟨g,o+5,none⟩=some (.int .i64 j.on)/\w.cell? ⟨g,o+6,none⟩=some (.int .i64 j.to_)/\NmL j.name
def ig (w:World) (g o:Nat) (d:aE):Prop:=w.cell? ⟨g,o,none⟩=some (aa d.name)/\w.cell? ⟨g,o+1,none⟩=some (.int .i64 d.body)/\NmL d.name
structure LkS (k:Nat) (w:World) (A:Option Addr) (n c:Nat) (B:Option Addr) (p d:Nat) (C:Option Addr) (q e:Nat) (L:ag):Prop where
  name:NmL L.name
  bodies:SlS (dV k) 2 w A n c L.bodies
  joints:SlS ic 7 w B p d L.joints
  drivers:SlS ig 2 w C q e L.drivers
theorem ai {w a:World}{g o:Nat}{v:Value}(h:w.cell? ⟨g,o,none⟩=some v) (hb:Below w.heap.size w a):a.cell? ⟨g,o,none⟩=some v:=(hb.cell (p:=⟨g,o,none⟩) (World.block_lt_of_cell? w _ h)).trans h
theorem cY.belw {w a:World}{g o:Nat}{r:RD}{k:Nat}(h:cY w g o r k) (hb:Below w.heap.size w a):cY a g o r k:=by
 obtain ⟨b,A,n,c,D,m,e,i,d,j,f⟩:=h;exact ⟨b,A,n,c,D,m,e,ai i hb,ai d hb,ai j hb,f.belw hb⟩
theorem cT.belw {w a:World}{g o:Nat}{m:MarkL}{k:Nat}(h:cT k w g o m) (hb:Below w.heap.size w a):cT k a g o m:=⟨ai h.1 hb,h.2.1.belw hb,h.2.2.1.belw hb,h.2.2.2⟩
theorem SlS.belw {α:Type}{P:World->Nat->Nat->α->Prop}{s:Nat}{w b:World}{A:Option Addr}{n c:Nat}{l:List α}(m:∀ g o a,P w g o a->P b g o a) (h:SlS P s w A n c l) (hb:Below w.heap.size w b):SlS P s b A n c l:=by
 refine ⟨h.1,h.2.1,fun j=>?_⟩;obtain ⟨g,o,e,d,f⟩:=h.2.2 j;exact ⟨g,o,e,Nat.lt_of_lt_of_le d hb.size,fun i a k=>m _ _ _ (f i a k)⟩
theorem dV.belw {w a:World}{g o:Nat}{b:BodyL}{k:Nat}(h:dV k w g o b) (hb:Below w.heap.size w a):dV k a g o b:=by
 obtain ⟨A,n,c,i,d,j,f⟩:=h;exact ⟨A,n,c,ai i hb,ai d hb,j.belw (fun _ _ _ h=>h.belw hb) hb,f⟩
theorem ic.belw {w a:World}{g o:Nat}{j:aD}(h:ic w g o j) (hb:Below w.heap.size w a):ic a g o j :=
 ⟨ai h.1 hb,ai h.2.1 hb,ai h.2.2.1 hb,ai h.2.2.2.1 hb,ai h.2.2.2.2.1 hb,ai h.2.2.2.2.2.1 hb,ai h.2.2.2.2.2.2.1 hb,h.2.2.2.2.2.2.2⟩
theorem ig.belw {w a:World}{g o:Nat}{d:aE}(h:ig w g o d) (hb:Below w.heap.size w a):ig a g o d:=⟨ai h.1 hb,ai h.2.1 hb,h.2.2⟩
theorem LkS.belw {k:Nat}{w a:World}{A B C:Option Addr}{n c p d q e:Nat}{L:ag}(h:LkS k w A n c B p d C q e L) (hb:Below w.heap.size w a):LkS k a A n c B p d C q e L :=
 ⟨h.name,h.bodies.belw (fun _ _ _ h=>h.belw hb) hb,h.joints.belw (fun _ _ _ h=>h.belw hb) hb,h.drivers.belw (fun _ _ _ h=>h.belw hb) hb⟩
theorem SlS.bd {k:Nat}{w a:World}{A:Option Addr}{n c:Nat}{l:List BodyL}(h:SlS (dV k) 2 w A n c l) (hb:Below w.heap.size w a):SlS (dV k) 2 a A n c l:=h.belw (fun _ _ _ h=>h.belw hb) hb
theorem SlS.mk_ {k:Nat}{w a:World}{A:Option Addr}{n c:Nat}{l:List MarkL}(h:SlS (cT k) 7 w A n c l) (hb:Below w.heap.size w a):SlS (cT k) 7 a A n c l:=h.belw (fun _ _ _ h=>h.belw hb) hb
theorem SlS.jt {w a:World}{A:Option Addr}{n c:Nat}{l:List aD}(h:SlS ic 7 w A n c l) (hb:Below w.heap.size w a):SlS ic 7 a A n c l:=h.belw (fun _ _ _ h=>h.belw hb) hb
theorem SlS.dr {w a:World}{A:Option Addr}{n c:Nat}{l:List aE}(h:SlS ig 2 w A n c l) (hb:Below w.heap.size w a):SlS ig 2 a A n c l:=h.belw (fun _ _ _ h=>h.belw hb) hb
theorem SlS.at_ {α:Type}{P:World->Nat->Nat->α->Prop}{s:Nat}{w:World}{A:Option Addr}{n c:Nat}{l:List α}(h:SlS P s w A n c l) {i:Nat}(j:i<n):∃ g o a,A=some ⟨g,o,none⟩/\g<w.heap.size/\n<=c/\l[i]?=some a/\P w g (o+i*s) a:=by
 obtain ⟨g,o,e,f,d⟩:=h.2.2 (by omega);have b:i<l.length:=by rw [h.1];exact j
 exact ⟨g,o,l[i],e,f,h.2.1,List.getElem?_eq_getElem b,d i _ (List.getElem?_eq_getElem b)⟩
theorem SlS.rowAt {α:Type}{P:World->Nat->Nat->α->Prop}{s:Nat}{w:World}{g o n c:Nat}{l:List α}(h:SlS P s w (some ⟨g,o,none⟩) n c l) {j:Nat}(f:j<n):∃ a,l[j]?=some a/\P w g (o+j*s) a:=by
 obtain ⟨k,i,a,e,_,_,d,b⟩:=h.at_ f;injection e with e;injection e with e1 e2 _;subst e1 e2;exact ⟨a,d,b⟩
theorem zj (b:Nat) (w:World) (d:w.cell? ⟨b,0,none⟩=some (.pointer (some ⟨b,0,none⟩))) :
 Calls Tryz.prog 101 #[.pointer (some ⟨b,0,none⟩)] w fun e c=>e=.returned (.tuple #[])/\c=w:=by
 obtain ⟨j,a,_⟩:=Option.map_eq_some_iff.1 (show (Tryz.prog.info? 104).map TypeInfo.size=some 2 by kernel_rfl);go_in;go_wp2;rw [Lib.run_neq_ptr_same w _ Tryz.underlying101 a];go_wp2;go_end0;exact ⟨rfl,rfl⟩
theorem wm (b:Nat) (w:World) (h:w.cell? ⟨b,0,none⟩=some (.pointer none)) (a:w.shape? b=some (104,2)) (g:w.frozen? ⟨b,0,none⟩=false) :
 Calls Tryz.prog 101 #[.pointer (some ⟨b,0,none⟩)] w fun e f=>e=.returned (.tuple #[])/\f=w.setCell ⟨b,0,none⟩ (.pointer (some ⟨b,0,none⟩)):=by
 obtain ⟨j,d,c⟩:=Option.map_eq_some_iff.1 (show (Tryz.prog.info? 104).map TypeInfo.size=some 2 by kernel_rfl);go_in;go_wp2;rw [Lib.run_to_unsafe w ⟨b,0,none⟩ Tryz.underlying101 Tryz.underlying187 d (by rw [c];decide) a (Nat.zero_lt_succ 1)];simp only [Result.andThen];rw [Oper.upon_value];go_wp2;rw [run_callFunc_extern Tryz.func144 (by kernel_rfl) (by kernel_rfl) (by kernel_rfl) (e:=Extern.AbiNoEscape.same) (by kernel_rfl)];rw [Lib.run_noEscape];simp only [Result.andThen];rw [Oper.upon_value];go_wp2;rw [Lib.run_from_unsafe w ⟨b,0,none⟩ Tryz.underlying187 Tryz.underlying101 d a (by kernel_rfl)];simp only [Result.andThen];rw [Oper.upon_value];go_wp2;go_end0;exact ⟨rfl,rfl⟩
def Oth (b:Nat) (w w':World):Prop:=∀ g T cs,g≠b->T≠5->Blk w g T cs->Blk w' g T cs
theorem Oth.refl (b:Nat) (w:World):Oth b w w:=fun _ _ _ _ _ h=>h
theorem Oth.set {b:Nat}{w a:World}(h:Oth b w a) (i:Nat) (u:Value):Oth b w (a.setCell ⟨b,i,none⟩ u):=fun g T cs c d hb=>(h g T cs c d hb).far c u
theorem ww (B b:Nat) (c:List Value) (w:World) (h:Lib.IsBuilder 104 5 B b c w) :
 Calls Tryz.prog 101 #[.pointer (some ⟨b,0,none⟩)] w fun e a=>e=.returned (.tuple #[])/\(Lib.BuilderAt 104 5 B b (.pointer (some ⟨b,0,none⟩)) c a/\Below B w a/\Oth b w a):=by
 rcases h with h | h
 ·refine (wm b w h.cell0 h.shape h.frozen0).mono ?_
  rintro e a ⟨rfl,rfl⟩;exact ⟨rfl,h.used _,(Below.refl B w).setCell (p:=⟨b,0,none⟩) h.1 _,(Oth.refl b w).set 0 _⟩
 refine (zj b w h.cell0).mono ?_;rintro e a ⟨rfl,rfl⟩;exact ⟨rfl,h,Below.refl B _,Oth.refl b _⟩
theorem wA (B b:Nat) (o:List Value) (s:ByteArray) (w:World) (h:Lib.IsBuilder 104 5 B b o w) (J:o.length+s.size<=140737488355328) (O:B<=w.heap.size) :
 Calls Tryz.prog 61 #[.pointer (some ⟨b,0,none⟩),.string s] w fun e u=>e=.returned (.tuple #[.int .i64 s.size,.nilIface])/\(Lib.BuilderAt 104 5 B b (.pointer (some ⟨b,0,none⟩)) (o++Lib.strCells s) u/\Below B w u/\Oth b w u):=by
 obtain ⟨N,P,y,C,D⟩:=info_parts (show (Tryz.prog.info? 5).map (fun i=>(i.zero,i.size,i.bytes))=some (some (.int .u8 0),1,1) by kernel_rfl);go_in;go_wp2_with (go_at_call 101;refine (ww B b o _ h).mono ?_);rintro e q ⟨rfl,M,n,E⟩;obtain ⟨hB,v,j,d,x⟩:=M;have c0:q.cell? ⟨b,0,none⟩=some (.pointer (some ⟨b,0,none⟩)):=by rw [Lib.cell_of_heap j];rfl
 have c1:q.cell? ⟨b,1,none⟩=some v:=by rw [Lib.cell_of_heap j];rfl
 go_wp2_with (at_builtin;refine Lib.wpList_append_own_string _ rfl _ _ 102 9 rfl B 5 N Tryz.underlying102 Tryz.underlying9 P y C D _ _ _ rfl d s rfl ?c3 ?c4 ?c5 ?_)
 case c3=>unfold maxLen;omega
 case c4=>omega
 case c5=>have:=n.size;omega
 intro K r f a _
 have t:b<q.heap.size:=by
  rcases Nat.lt_or_ge b q.heap.size with A | A
  ·exact A
  simp [Array.getElem?_eq_none A] at j
 have l:r.heap[b]?=some (.cells #[.pointer (some ⟨b,0,none⟩),v] 104 (0,0)):=by
  rw [a.block b t (fun e=>x e.symm)];exact j
 have d0:r.cell? ⟨b,0,none⟩=some (.pointer (some ⟨b,0,none⟩)):=by rw [Lib.cell_of_heap l];rfl
 have d1:r.cell? ⟨b,1,none⟩=some v:=by rw [Lib.cell_of_heap l];rfl
 have f1:r.frozen? ⟨b,1,none⟩=false:=Lib.frozen_of_heap l 1
 obtain ⟨H,G,cap,rfl⟩:∃ H G cap,K=.slice H G cap:=by
  rcases f.2 with ⟨m,_⟩ | ⟨g,cap,cur,m,_⟩
  ·exact ⟨_,_,_,m⟩
  exact ⟨_,_,_,m⟩
 go_wp2;go_ret2;refine ⟨rfl,?_,?_,Oth.set (fun g T cs L I hb=>?_) 1 _⟩
 ·exact Lib.BuilderAt.put (T:=104) (e:=5) hB l (bs':=o++Lib.strCells s) (by simpa [Lib.strCells_length] using f) (by decide)
 ·exact (n.grown a (by have:=n.size;omega) (fun k z=>(d.lt k z).1)).setCell (p:=⟨b,1,none⟩) hB _
 have F:=E g T cs L I hb;refine (a.block g F.lt (fun c=>?_)).trans F;rcases d.2 with ⟨m,_⟩ | ⟨Q,cap,cur,m,_,z,_⟩
 ·rw [m] at c;cases c
 rw [m] at c;injection c with c;subst c;have:=F.symm.trans z;simp only [Option.some.injEq,Obj.cells.injEq] at this;exact I this.2.1
theorem fU (w:World) (b:Bool) (A:Option Addr) (n c:Nat) (D:Option Addr) (m e:Nat) (r:RD) (k:Nat) (h:QD w b A n c D m e r k) (i:0<k) (j:k<=40000000) (a:Tab w) (T:List UInt8) (g:am r.q=T) :
 Calls Tryz.prog 19 #[.agg #[.bool b,.slice A n c,.slice D m e]] w (ax w (aa T)):=by
 have H:=Qh h;have l:=Qh g;clear h g;go_in;go_wp2_with fail;have d:Below w.heap.size w (w.alloc (.cells #[.bool b,.slice A n c,.slice D m e] 54)):=(Below.refl _ _).alloc Qr _;refine (Dw _ b A n c D m e r.q k (H.out.belw d).qz i j (a.belw d) T l.out).mono ?_;rintro p o ⟨rfl,f⟩;have q1:=d.trans (f.mono d.size);go_wp2;go_ret;exact ⟨rfl,q1⟩
def Bu (B b:Nat) (w:World) (l:List UInt8):Prop:=Lib.IsBuilder 104 5 B b (Lib.byteCells l) w/\B<=w.heap.size
theorem BuilderAt.belw {T e:TypeId}{B b:Nat}{p:Value}{j:List Value}{w i:World}(h:Lib.BuilderAt T e B b p j w) (hb:Below w.heap.size w i):Lib.BuilderAt T e B b p j i:=by
 have c:=h.lt;obtain ⟨hB,v,m,a,d⟩:=h;refine ⟨hB,v,(hb.block b c).trans m,⟨a.1,?_⟩,d⟩;rcases a.2 with f | ⟨g,cap,cur,f,l,k,n⟩
 ·exact Or.inl f
 refine Or.inr ⟨g,cap,cur,f,l,(hb.block g ?_).trans k,n⟩;exact lt_of_block k
theorem Bu.belw {B b:Nat}{w a:World}{l:List UInt8}(h:Bu B b w l) (hb:Below w.heap.size w a):Bu B b a l :=
 ⟨h.1.imp (fun x=>BuilderAt.belw x hb) (fun x=>BuilderAt.belw x hb),Nat.le_trans h.2 hb.size⟩
theorem Bu.lt {B b:Nat}{w:World}{l:List UInt8}(h:Bu B b w l):b<w.heap.size:=h.1.elim (fun x=>x.lt) (fun x=>x.lt)
theorem Bu.new {w:World}:Bu w.heap.size w.heap.size (w.alloc (.cells #[.pointer none,.slice none 0 0] 104)) [] :=
 ⟨Lib.fresh_isBuilder _ _ w,by simp⟩
theorem nT (a:List UInt8) (b:List UInt8):Lib.byteCells a++Lib.strCells ⟨b.toArray⟩=Lib.byteCells (a++b):=by
 simp [Lib.strCells,Lib.byteCells]
theorem dW (B b:Nat) (w:World) (l s:List UInt8) (h:Bu B b w l) (a:l.length+s.length<=140737488355328) :
 Calls Tryz.prog 61 #[.pointer (some ⟨b,0,none⟩),aa s] w fun e c=>e=.returned (.tuple #[.int .i64 (s.length:Nat),.nilIface])/\Bu B b c (l++s)/\Below B w c/\Oth b w c:=by
 have g:(⟨s.toArray⟩:ByteArray).size=s.length:=aJ s;refine (wA B b (Lib.byteCells l) ⟨s.toArray⟩ w h.1 (by rw [g];simpa [Lib.byteCells] using a) h.2).mono ?_;rintro e c ⟨rfl,f,d,i⟩;rw [nT] at f;exact ⟨by rw [g],⟨Or.inr f,Nat.le_trans h.2 d.size⟩,d,i⟩
theorem Dz (B b:Nat) (w:World) (l:List UInt8) (h:Bu B b w l) :
 Calls Tryz.prog 65 #[.pointer (some ⟨b,0,none⟩)] w fun e a=>e=.returned (.int .i64 (l.length:Nat))/\a=w:=by
 refine (Tryz.Builder_Len B b _ w h.1).mono ?_;rintro e a ⟨rfl,rfl⟩;exact ⟨by simp [Lib.byteCells],rfl⟩
theorem zk (B b:Nat) (w:World) (l:List UInt8) (h:Bu B b w l) :
 Calls Tryz.prog 67 #[.pointer (some ⟨b,0,none⟩)] w fun e a=>e=.returned (aa l)/\Below B w a:=Tryz.Builder_String_any B b l w h.1 h.2
theorem Blk.c7 {w:World}{g t:Nat}{b c d f a i j:Value}(h:Blk w g t #[b,c,d,f,a,i,j]):w.cell? ⟨g,0,none⟩=some b/\w.cell? ⟨g,1,none⟩=some c/\w.cell? ⟨g,2,none⟩=some d/\w.cell? ⟨g,3,none⟩=some f/\w.cell? ⟨g,4,none⟩=some a/\w.cell? ⟨g,5,none⟩=some i/\w.cell? ⟨g,6,none⟩=some j:=⟨h.cell 0,h.cell 1,h.cell 2,h.cell 3,h.cell 4,h.cell 5,h.cell 6⟩
abbrev S7 (g:Nat) (a0 a1 a2 a3 a4 a5 a6:Value) (w:World):Prop:=w.cell? ⟨g,0,none⟩=some a0/\w.cell? ⟨g,1,none⟩=some a1/\w.cell? ⟨g,2,none⟩=some a2/\w.cell? ⟨g,3,none⟩=some a3/\w.cell? ⟨g,4,none⟩=some a4/\w.cell? ⟨g,5,none⟩=some a5/\w.cell? ⟨g,6,none⟩=some a6
theorem cT.short {w:World}{g o:Nat}{m:MarkL}(h:cT 500 w g o m) (f:m.name.length<=1000):iP m:=by
 obtain ⟨_,⟨b,A,n,c,D,p,e,_,_,_,i⟩,⟨l,s,j,k,q,d,r,_,_,_,a⟩,_⟩:=h;exact ⟨f,i.sz (by decide),a.sz (by decide)⟩
theorem SlS.short {w:World}{A:Option Addr}{n c:Nat}{l:List MarkL}(h:SlS (cT 500) 7 w A n c l) (d:∀ m∈l,m.name.length<=1000):∀ m∈l,iP m:=by
 intro m j;obtain ⟨i,k,e⟩:=List.getElem_of_mem j;obtain ⟨g,o,a,_,_,_,b,f⟩:=h.at_ (i:=i) (by rw [<- h.1];exact k);rw [List.getElem?_eq_getElem k] at b;injection b with b;rw [<- b,e] at f;exact f.short (d m j)
theorem DA (w:World) (A:Option Addr) (n c:Nat) (b:BodyL) (h:SlS (cT 500) 7 w A n c b.pts) (D:Tab w) (hn:n<=1000) (c9:b.name.length<=1000) (ad:∀ m∈b.pts,m.name.length<=1000) (T:List UInt8) (hT:bK b=T) :
 Calls Tryz.prog 62 #[.agg #[aa b.name,.slice A n c]] w (ax w (aa T)):=by
 have HM:=Qh (h.short ad);have HF:=Qh (kZ (h.short ad));have F:=h.1;have ed:=h.2.1;have dn:=aJ b.name;obtain ⟨h1,B⟩:∃ t,[98,111,100,121,32]++b.name=t:=⟨_,rfl⟩;have cx:=cR ([98,111,100,121,32]) (b.name);rw [B] at cx;have cz:h1.length=5+b.name.length:=by rw [<- B,List.length_append];try simp
 have ee:(9223372036854775807<5+b.name.length)=False:=eq_false (by omega);have ec:=aJ h1;obtain ⟨L,l⟩:∃ t,h1++[32,123]=t:=⟨_,rfl⟩;have cu:=cR (h1) ([32,123]);rw [l] at cu;have bf:L.length=h1.length+2:=by rw [<- l,List.length_append];try simp
 have ek:(9223372036854775807<h1.length+2)=False:=eq_false (by omega);have c0:=aJ L;have HE:Hid (b.pts.flatMap bB++[32,125]++[]=b.pts.flatMap bB++[32,125]/\T=L++b.pts.flatMap bB++[32,125]):=Qh ⟨by simp,by rw [<- hT,<- l,<- B];rfl⟩;have ab:=Qh F;have a0:=Qh D;have H:=Qh h;have d9:L.length<=1007:=by omega
 clear h ad hT D F B l cz bf;go_in;go_wp2_with fail
 have B0:Bu (w.heap.size+1) (w.heap.size+1) ((w.alloc (.cells #[aa b.name,.slice A n c] 51)).alloc (.cells #[.pointer none,.slice none 0 0] 104)) []:=by
  have:=Bu.new (w:=w.alloc (.cells #[aa b.name,.slice A n c] 51));simpa using this
 have q0:Below w.heap.size w ((w.alloc (.cells #[aa b.name,.slice A n c] 51)).alloc (.cells #[.pointer none,.slice none 0 0] 104)):=((ae w).alloc Qr _).alloc (by simp) _;have xa:Blk ((w.alloc (.cells #[aa b.name,.slice A n c] 51)).alloc (.cells #[.pointer none,.slice none 0 0] 104)) w.heap.size 51 #[aa b.name,.slice A n c]:=(ak _ _ _ rfl).alloc _;refine (dW _ _ _ _ L B0 (by simp;omega)).mono ?_;rintro e' w1 ⟨rfl,B1,q1,_⟩;have q1:Below w.heap.size w w1:=q0.trans (q1.mono (by omega));have xa:=xa.below ‹Below (w.heap.size+1) _ w1› (by omega);rw [List.nil_append] at B1;clear B0 q0;obtain ⟨a8,ck⟩:=xa.c2;have Q:=Qh B1;clear B1;go_wp2_with fail;clear a8 ck;go_loopw [14] (fun iv wr=>∃ i:Nat,iv=.int .i64 (i:Nat)/\i<=n/\Hid (Bu (w.heap.size+1) (w.heap.size+1) wr (L++(b.pts.take i).flatMap bB))/\Below w.heap.size w wr) (fun iv _=>n-(intOf iv).toNat)
 case atStart=>exact ⟨0,rfl,Nat.zero_le _,by simpa using Q,q1⟩
 case round =>
  clear Q q1;obtain ⟨i,rfl,hi,Q,hb⟩:=hrel;rename World=>wa;have aT:=fT bB b.pts i;rcases Nat.lt_or_ge i n with bs | cv
  ·have br:((i:Int)<(n:Int))=True:=by simp;omega
   obtain ⟨g,o,m,j,hg,_,U,hM⟩:=(H.out.mk_ hb).at_ bs;subst j;have cL:=HM.out m (List.mem_of_getElem? U);obtain ⟨cy,aS,a4⟩:=cL;have r:=iQ bB U;have aC:=fT bB b.pts (i+1);obtain ⟨d0,⟨Z,E,J,c1,G,O,j,d1,d2,d3,a3⟩,⟨C,S,K,c2,M,P,N,d4,d5,d6,al⟩,dO⟩:=hM;have d2:wa.cell? ⟨g,o+i*7+2,none⟩=some (.slice E J c1):=d2;have d3:wa.cell? ⟨g,o+i*7+3,none⟩=some (.slice G O j):=d3;have d5:wa.cell? ⟨g,o+i*7+5,none⟩=some (.slice S K c2):=d5;have d6:wa.cell? ⟨g,o+i*7+6,none⟩=some (.slice M P N):=d6;have c5:=aJ m.name;obtain ⟨X,hX⟩:∃ X,am m.x.q=X:=⟨_,rfl⟩;obtain ⟨Y,hY⟩:∃ Y,am m.y.q=Y:=⟨_,rfl⟩;have dv:=aJ X;have c3:=aJ Y;have dq:X.length<=10100:=by rw [<- hX];exact dA aS Qr
   have dr:Y.length<=10100:=by rw [<- hY];exact dA a4 Qr
   obtain ⟨s1,k⟩:∃ t,[32]++m.name=t:=⟨_,rfl⟩;have bx:=cR ([32]) (m.name);rw [k] at bx;have b6:s1.length=1+m.name.length:=by rw [<- k,List.length_append];try simp
   have d7:(9223372036854775807<1+m.name.length)=False:=eq_false (by omega);have db:=aJ s1;obtain ⟨s2,p⟩:∃ t,s1++[32]=t:=⟨_,rfl⟩;have cm:=cR (s1) ([32]);rw [p] at cm;have bu:s2.length=s1.length+1:=by rw [<- p,List.length_append];try simp
   have c8:(9223372036854775807<s1.length+1)=False:=eq_false (by omega);have ei:=aJ s2;obtain ⟨s3,u⟩:∃ t,s2++X=t:=⟨_,rfl⟩;have cp:=cR (s2) (X);rw [u] at cp;have bw:s3.length=s2.length+X.length:=by rw [<- u,List.length_append];try simp
   have c4:(9223372036854775807<s2.length+X.length)=False:=eq_false (by omega);have eh:=aJ s3;obtain ⟨s4,v⟩:∃ t,s3++[32]=t:=⟨_,rfl⟩;have ca:=cR (s3) ([32]);rw [v] at ca;have bk:s4.length=s3.length+1:=by rw [<- v,List.length_append];try simp
   have c6:(9223372036854775807<s3.length+1)=False:=eq_false (by omega);have eb:=aJ s4;obtain ⟨s5,s⟩:∃ t,s4++Y=t:=⟨_,rfl⟩;have a9:=cR (s4) (Y);rw [s] at a9;have bn:s5.length=s4.length+Y.length:=by rw [<- s,List.length_append];try simp
   have ea:(9223372036854775807<s4.length+Y.length)=False:=eq_false (by omega);have di:=aJ s5;obtain ⟨s6,z⟩:∃ t,s5++[59]=t:=⟨_,rfl⟩;have bd:=cR (s5) ([59]);rw [z] at bd;have bl:s6.length=s5.length+1:=by rw [<- z,List.length_append];try simp
   have eg:(9223372036854775807<s5.length+1)=False:=eq_false (by omega);have ej:=aJ s6
   have a1:bB m=s6:=by
    rw [<- z,<- s,<- v,<- u,<- p,<- k,<- hX,<- hY];unfold bB;simp
   rw [a1] at r
   have a2:((b.pts.take i).flatMap bB).length+s6.length<=22000*n:=by
    have:=congrArg List.length r;rw [List.length_append] at this;have h9:=HF.out;have h8:=ab.out;rw [h8] at h9;omega
   have HX:=Qh hX;have HY:=Qh hY;have a5:=Qh r;have an:=Qh a3;have a7:=Qh al;have cb:=Qh a2;have ds:g<wa.heap.size:=hg;clear hX hY r a3 al a2 a1 aT aC U cy aS a4 k p u v s z b6 bu bw bk bn bl;go_wp2_with fail;have xp:Blk (wa.alloc (.cells #[aa m.name,.bool Z,.slice E J c1,.slice G O j,.bool C,.slice S K c2,.slice M P N] 56)) wa.heap.size 56 #[aa m.name,.bool Z,.slice E J c1,.slice G O j,.bool C,.slice S K c2,.slice M P N]:=ak _ _ _ rfl;have qb:Below wa.heap.size wa (wa.alloc (.cells #[aa m.name,.bool Z,.slice E J c1,.slice G O j,.bool C,.slice S K c2,.slice M P N] 56)):=(ae wa).alloc Qr _;have ao:=Qh (Q.out.belw qb);have V:=Qh ((a0.out.belw hb).belw qb);have I:=Qh (an.out.belw qb);have R:=Qh (a7.out.belw qb);have f:=hb.trans (qb.mono hb.size);have b0:wa.heap.size<(wa.alloc (.cells #[aa m.name,.bool Z,.slice E J c1,.slice G O j,.bool C,.slice S K c2,.slice M P N] 56)).heap.size:=xp.lt;have cc:wa.heap.size≠w.heap.size+1:=by have:=Q.out.lt;omega
   clear Q an a7 d0 d1 d2 d3 d4 d5 d6;generalize (wa.alloc (.cells #[aa m.name,.bool Z,.slice E J c1,.slice G O j,.bool C,.slice S K c2,.slice M P N] 56))=wb at xp qb ao V I R f b0 ⊢;obtain ⟨bY,b4,bb,b9,b5,cn,bg⟩:=xp.c7
   go_region_held3 (S7 wa.heap.size (aa m.name) (.bool Z) (.slice E J c1) (.slice G O j) (.bool C) (.slice S K c2) (.slice M P N)) (first | with_reducible exact Blk.c7 (by assumption) | with_reducible exact Blk.c7 (Blk.drew (by assumption)) | exact Blk.c7 (Blk.drewN (by assumption) _))
    (first
     | (go_at_call 19;(with_reducible refine (fU _ Z E J c1 G O j m.x 500 ?_ (by decide) (by decide) ?_ X HX.out).mono ?_);(exact I.out.belw (by first | exact d | exact (ae wb).drew | exact af (ae wb) _));(exact V.out.belw (by first | exact d | exact (ae wb).drew | exact af (ae wb) _));rintro e' wx ⟨rfl,ac⟩;have a:Below wb.heap.size wb wx:=(by first | exact aj d ac | exact aj (ae wb) ac | exact aj (af (ae wb) _) ac);have cr:=xp.below a xp.lt)
     | (go_at_call 19;(with_reducible refine (fU _ C S K c2 M P N m.y 500 ?_ (by decide) (by decide) ?_ Y HY.out).mono ?_);(exact R.out.belw (by first | exact a | exact (ae wb).drew | exact af (ae wb) _));(exact V.out.belw (by first | exact a | exact (ae wb).drew | exact af (ae wb) _));rintro e' wy ⟨rfl,W⟩;have d:Below wb.heap.size wb wy:=(by first | exact aj a W | exact aj (ae wb) W | exact aj (af (ae wb) _) W);have cs:=xp.below d xp.lt)
     | (go_at_call 61;(with_reducible refine (dW _ _ _ _ s6 (ao.out.belw (by first | exact a | exact d)) (by rw [List.length_append];have:=cb.out;omega)).mono ?_);rintro e' wz ⟨rfl,Bz,qz,oz⟩;have xz:=oz wa.heap.size 56 _ cc (by decide) (by first | exact cr | exact cs)))
   all_goals
    have bz:Below w.heap.size w wz:=by
     first
      | exact (f.trans (d.mono f.size)).trans (qz.mono (Nat.le_succ _))
      | exact (f.trans (a.mono f.size)).trans (qz.mono (Nat.le_succ _))
    have bv:Hid (Bu (w.heap.size+1) (w.heap.size+1) wz (L++(b.pts.take (i+1)).flatMap bB)):=Qh (by rw [a5.out,<- List.append_assoc];exact Bz);clear Bz a5 bY b4 bb b9 b5 cn bg;go_wp2_with fail;go_roundw
    case rel=>exact ⟨i+1,by go_num,by omega,bv,bz⟩
    case measure=>simp [intOf];omega
  have br:((i:Int)<(n:Int))=False:=by simp;omega
  have a6:b.pts.take i=b.pts:=List.take_of_length_le (by rw [ab.out];exact cv);rw [a6] at Q;have hf:=HF.out;rw [ab.out] at hf;have b7:=Qh hf;clear hf a6 aT;go_wp2_with fail;refine (dW _ _ _ _ [32,125] Q.out (by rw [List.length_append];have:=b7.out;simp only [List.length_cons,List.length_nil];omega)).mono ?_;rintro e' w2 ⟨rfl,B2,q2,_⟩;have C:=hb.trans (q2.mono (Nat.le_succ _));have b8:=Qh B2;clear B2;go_wp2_with fail;refine (zk _ _ _ _ b8.out).mono ?_;rintro e' w3 ⟨rfl,q3⟩;have b3:=C.trans (q3.mono (Nat.le_succ _));have ch:L++b.pts.flatMap bB++[32,125]=T:=HE.out.2.symm;rw [ch];go_wp2;go_ret;exact ⟨rfl,b3⟩
theorem tu (w:World) (A:Option Addr) (n c:Nat) (B:Option Addr) (p d:Nat) (C:Option Addr) (q e:Nat) (nm:List UInt8) (l:List BodyL) (k:Nat) (h:SlS (dV k) 2 w A n c l) (i j:Nat) (b:BodyL) (m:MarkL) (hb:l[i]?=some b) (H:b.pts[j]?=some m) (al:b.name.length<=1000) (X:m.name.length<=1000) (T:List UInt8) (M:b.name++46::m.name=T) :
 Calls Tryz.prog 63 #[.agg #[aa nm,.slice A n c,.slice B p d,.slice C q e],.int .i64 (i:Nat),.int .i64 (j:Nat)] w (ax w (aa T)):=by
 have F:i<n:=by rw [<- h.1];exact (List.getElem?_eq_some_iff.1 hb).1
 obtain ⟨g,o,b',I,hg,W,s,hB⟩:=h.at_ F;rw [hb] at s;injection s with s;subst s I;obtain ⟨A',K,c',c0,c1,y,_⟩:=hB;have z:j<K:=by rw [<- y.1];exact (List.getElem?_eq_some_iff.1 H).1
 obtain ⟨P,o',m',I,S,L,a,O⟩:=y.at_ z;rw [H] at a;injection a with a;subst a I;have k0:=O.1;have f1:((i:Int)<(n:Int)):=by omega
 have f2:((j:Int)<(K:Int)):=by omega
 have U:=aJ b.name;have Y:=aJ m.name;obtain ⟨u,f⟩:∃ t,b.name++[46]=t:=⟨_,rfl⟩;have D:=cR (b.name) ([46]);rw [f] at D;have G:u.length=b.name.length+1:=by rw [<- f,List.length_append];try simp
 have Z:(9223372036854775807<b.name.length+1)=False:=eq_false (by omega);have V:=aJ u;obtain ⟨v,r⟩:∃ t,u++m.name=t:=⟨_,rfl⟩;have J:=cR (u) (m.name);rw [r] at J;have E:v.length=u.length+m.name.length:=by rw [<- r,List.length_append];try simp
 have ad:(9223372036854775807<u.length+m.name.length)=False:=eq_false (by omega);have R:=aJ v;have x:v=T:=by rw [<- M,<- r,<- f];simp
 subst x;have ac:¬ g=w.heap.size:=by omega
 have Q:¬ P=w.heap.size:=by omega
 have N:¬ P=w.heap.size+1:=by omega
 have ab:((i:Int)<=(n:Int)):=by omega
 clear hb H y O h M f r G E;go_in;go_wp2_with fail;go_quiet (fail);go_wp2;go_ret;exact ⟨rfl,by first | exact ((ae w).alloc Qr _).alloc (by simp) _ | exact af (((ae w).alloc Qr _).alloc (by simp) _) _⟩
def gI (m:MarkL):Bool:=decide (60<(am m.x.q).length)||decide (60<(am m.y.q).length)
def fm (l:List BodyL):Bool:=l.any fun b=>b.pts.any gI
theorem j5 {α:Type}{f:α->Bool}{l:List α}{i:Nat}{a:α}(c:l[i]?=some a) (h:(l.take i).any f=false) (b:f a=false):(l.take (i+1)).any f=false:=by
 rw [List.take_add_one,c,List.any_append,h];simp [b]
theorem j6 {α:Type}{f:α->Bool}{l:List α}{i:Nat}{a:α}(c:l[i]?=some a) (b:f a=true):l.any f=true :=
 List.any_eq_true.2 ⟨a,List.mem_of_getElem? c,b⟩
theorem tw {l:List BodyL}{i:Nat}{b:BodyL}(hb:l[i]?=some b) (h:fm (l.take i)=false) (a:b.pts.any gI=false):fm (l.take (i+1))=false:=j5 hb h a
theorem oQ {l:List BodyL}{i j:Nat}{b:BodyL}{m:MarkL}(hb:l[i]?=some b) (a:b.pts[j]?=some m) (h:gI m=true):fm l=true:=j6 hb (j6 a h)
theorem DB (w:World) (A:Option Addr) (n c:Nat) (B:Option Addr) (p d:Nat) (C:Option Addr) (q e:Nat) (nm:List UInt8) (l:List BodyL) (h:SlS (dV 500) 2 w A n c l) (F:Tab w) (hn:n<=1000) (aS:∀ b∈l,b.pts.length<=1000) (v:Bool) (hv:fm l=v) :
 Calls Tryz.prog 66 #[.agg #[aa nm,.slice A n c,.slice B p d,.slice C q e]] w (ax w (.bool v)):=by
 have HV:=Qh hv;have HL:=Qh h.1;have bk:=Qh aS;have b8:=h.2.1;have H:=Qh h;have aT:=Qh F;clear F;clear h hv aS;go_in;go_wp2_with fail;go_loopw [10] (fun iv wr=>∃ i:Nat,iv=.int .i64 (i:Nat)/\i<=n/\Hid (fm (l.take i)=false)/\Blk wr w.heap.size 26 #[aa nm,.slice A n c,.slice B p d,.slice C q e]/\Below w.heap.size w wr) (fun iv _=>n-(intOf iv).toNat)
 case atStart=>exact ⟨0,rfl,Nat.zero_le _,Qh rfl,ak _ _ _ (by simp),(ae w).alloc Qr _⟩
 case round =>
  obtain ⟨i,rfl,hi,HI,xL,hb⟩:=hrel;rename World=>wa;have b7:w.heap.size<wa.heap.size:=xL.lt;have cL:=xL.cell 1;rcases Nat.lt_or_ge i n with a7 | bs
  ·have a6:((i:Int)<(n:Int))=True:=by simp;omega
   obtain ⟨g,o,b,s,hg,_,M,hB⟩:=(H.out.bd hb).at_ a7;subst s;obtain ⟨A',z,c',c0,c1,hM,b0⟩:=hB;have bx:=hM.2.1;have bz:z<=1000:=by rw [<- hM.1];exact bk.out b (List.mem_of_getElem? M)
   have HM:=Qh hM;have Q:=Qh M;clear hM M;go_wp2_with fail;have xb:Blk (wa.alloc (.cells #[aa b.name,.slice A' z c'] 51)) wa.heap.size 51 #[aa b.name,.slice A' z c']:=ak _ _ _ rfl;have a:Below wa.heap.size wa (wa.alloc (.cells #[aa b.name,.slice A' z c'] 51)):=(ae wa).alloc Qr _;have P:=xL.below a xL.lt;have ad:=hb.trans (a.mono hb.size);clear cL c0 c1;generalize (wa.alloc (.cells #[aa b.name,.slice A' z c'] 51))=wx at xb a P ad ⊢;have cb:=xb.cell 1;go_wp2_with fail;clear cb;go_loopw [17] (fun jv w2=>∃ j:Nat,jv=.int .i64 (j:Nat)/\j<=z/\Hid ((b.pts.take j).any gI=false)/\Below wx.heap.size wx w2) (fun jv _=>z-(intOf jv).toNat)
   case atStart=>exact ⟨0,rfl,Nat.zero_le _,Qh rfl,ae wx⟩
   case round =>
    obtain ⟨j,rfl,hj,HJ,t⟩:=hrel;rename World=>wb;have r:=P.below t P.lt;have bw:w.heap.size<wb.heap.size:=r.lt;have bg:=r.cell 1;have D:=ad.trans (t.mono ad.size);rcases Nat.lt_or_ge j z with a4 | bv
    ·have a8:((j:Int)<(z:Int))=True:=by simp;omega
     obtain ⟨g',o',m,s,b3,_,aC,hM⟩:=((HM.out.mk_ a).mk_ t).at_ a4;subst s;have ab:=Qh aC;obtain ⟨d0,⟨b1,K,R,c1,O,W,s,d1,d2,d3,a0⟩,⟨b2,A2,S,c2,U,m2,V,d4,d5,d6,al⟩,b6⟩:=hM;have d2:wb.cell? ⟨g',o'+j*7+2,none⟩=some (.slice K R c1):=d2;have d3:wb.cell? ⟨g',o'+j*7+3,none⟩=some (.slice O W s):=d3;have d5:wb.cell? ⟨g',o'+j*7+5,none⟩=some (.slice A2 S c2):=d5;have d6:wb.cell? ⟨g',o'+j*7+6,none⟩=some (.slice U m2 V):=d6;obtain ⟨X,hX⟩:∃ X,am m.x.q=X:=⟨_,rfl⟩;obtain ⟨Y,hY⟩:∃ Y,am m.y.q=Y:=⟨_,rfl⟩;have b5:=aJ X;have bY:=aJ Y;have HX:=Qh hX;have HY:=Qh hY;have ao:=Qh a0;have a2:=Qh al;have b9:g<wb.heap.size:=by have:=t.size;have:=a.size;omega
     clear hX hY a0 al aC;go_wp2_with fail;have xp:Blk (wb.alloc (.cells #[aa m.name,.bool b1,.slice K R c1,.slice O W s,.bool b2,.slice A2 S c2,.slice U m2 V] 56)) wb.heap.size 56 #[aa m.name,.bool b1,.slice K R c1,.slice O W s,.bool b2,.slice A2 S c2,.slice U m2 V]:=ak _ _ _ rfl;have a:Below wb.heap.size wb (wb.alloc (.cells #[aa m.name,.bool b1,.slice K R c1,.slice O W s,.bool b2,.slice A2 S c2,.slice U m2 V] 56)):=(ae wb).alloc Qr _;have N:=Qh ((aT.out.belw D).belw a);have G:=Qh (ao.out.belw a);have I:=Qh (a2.out.belw a);have ac:=D.trans (a.mono D.size);have u:=r.below a r.lt;have E:=aj t a;have a9:wb.heap.size<(wb.alloc (.cells #[aa m.name,.bool b1,.slice K R c1,.slice O W s,.bool b2,.slice A2 S c2,.slice U m2 V] 56)).heap.size:=xp.lt;clear ao a2 d0 d1 d2 d3 d4 d5 d6 bg;generalize (wb.alloc (.cells #[aa m.name,.bool b1,.slice K R c1,.slice O W s,.bool b2,.slice A2 S c2,.slice U m2 V] 56))=wc at xp a N G I ac a9 u E ⊢;refine (fU _ b1 K R c1 O W s m.x 500 G.out (by decide) (by decide) N.out X HX.out).mono ?_;rintro e' w3 ⟨rfl,k⟩;have T:=xp.below k xp.lt;have u:=u.b k;have L:=ac.trans (k.mono ac.size);have E:=aj E k;by_cases hx6:60<X.length
     ·have f6:((60:Int)<(X.length:Int))=True:=eq_true (by omega)
      have f:gI m=true:=by unfold gI;rw [HX.out,decide_eq_true hx6];rfl
      have Z:v=true:=by rw [<- HV.out];exact oQ Q.out ab.out f
      subst Z;go_wp2;go_ret;exact ⟨rfl,L⟩
     have f6:((60:Int)<(X.length:Int))=False:=eq_false (by omega);have bb:=T.cell 4;have br:=T.cell 5;have a5:=T.cell 6;go_wp2_with fail;refine (fU _ b2 A2 S c2 U m2 V m.y 500 (I.out.belw k) (by decide) (by decide) (N.out.belw k) Y HY.out).mono ?_;rintro e' w4 ⟨rfl,J⟩;have b4:=u.below J u.lt;have bn:=L.trans (J.mono L.size);have bu:=aj E J;clear bb br a5;by_cases hy6:60<Y.length
     ·have g6:((60:Int)<(Y.length:Int))=True:=eq_true (by omega)
      have f:gI m=true:=by unfold gI;rw [HX.out,HY.out,decide_eq_true hy6,Bool.or_true]
      have Z:v=true:=by rw [<- HV.out];exact oQ Q.out ab.out f
      subst Z;go_wp2;go_ret;exact ⟨rfl,bn⟩
     have g6:((60:Int)<(Y.length:Int))=False:=eq_false (by omega);have f:gI m=false:=by unfold gI;rw [HX.out,HY.out,decide_eq_false hx6,decide_eq_false hy6];rfl
     have bf:=Qh (j5 ab.out HJ.out f);clear f;go_wp2_with fail;go_roundw
     case rel=>exact ⟨j+1,by go_num,by omega,bf,bu⟩
     case measure=>simp [intOf];omega
    have a8:((j:Int)<(z:Int))=False:=by simp;omega
    have an:b.pts.take j=b.pts:=List.take_of_length_le (by rw [HM.out.1];exact bv);rw [an] at HJ;have bl:=Qh (tw Q.out HI.out HJ.out);clear an;go_wp2_with fail;go_roundw
    case rel=>exact ⟨i+1,by go_num,by omega,bl,r,D⟩
    case measure=>simp [intOf];omega
  have a6:((i:Int)<(n:Int))=False:=by simp;omega
  have a1:l.take i=l:=List.take_of_length_le (by rw [HL.out];exact bs);rw [a1] at HI;have a3:v=false:=by rw [<- HV.out];exact HI.out
  subst a3;clear a1;go_wp2;go_ret;exact ⟨rfl,hb⟩
theorem dB (w:World) (i:Int) (n:Nat) (v:Bool) (b:inI i n=v):Calls Tryz.prog 97 #[.int .i64 i,.int .i64 (n:Nat)] w (fun e a=>e=.returned (.bool v)/\a=w):=by
 subst b;by_cases h1:0<=i
 ·by_cases h2:i<(n:Int)
  ·have e:inI i n=true:=by unfold inI;simp [h1,h2]
   rw [e];have f1:(0<=i)=True:=eq_true h1;have f2:(i<(n:Int))=True:=eq_true h2;go_in;go_wp2;go_ret;exact ⟨rfl,rfl⟩
  have e:inI i n=false:=by unfold inI;simp [h2]
  rw [e];have f1:(0<=i)=True:=eq_true h1;have f2:(i<(n:Int))=False:=eq_false h2;go_in;go_wp2;go_ret;exact ⟨rfl,rfl⟩
 have e:inI i n=false:=by unfold inI;simp [h1]
 rw [e];have f1:(0<=i)=False:=eq_false h1;go_in;go_wp2;go_ret;exact ⟨rfl,rfl⟩
theorem wC (w:World) (i:Int) (n:Nat) (v:Bool) (b:inI i n=v):Calls Tryz.prog 97 #[.int .i64 i,.int .i64 (n:Nat)] w (ax w (.bool v)):=(dB w i n v b).mono fun _ _ ⟨a,c⟩=>⟨a,c ▸ ae _⟩
theorem zl (w:World) (A:Option Addr) (n c:Nat) (l:List BodyL) (k:Nat) (h:SlS (dV k) 2 w A n c l) (hk:k<=300000000) (hn:n<=1000) (x:Int) (hx:bt aL [] l=x):Calls Tryz.prog 55 #[.slice A n c] w (ax w (bo x)):=by
 have ds:=h.2.1;have HX:=Qh (cK hx);clear hx;go_in;go_wp2_with fail;go_loopw [13] (fun iv wr=>∃ i:Nat,iv=.int .i64 (i:Nat)/\i<=n/\Hid (bt aL (l.take i) (l.drop i)=x)/\Below w.heap.size w wr) (fun iv _=>n-(intOf iv).toNat)
 case atStart=>exact ⟨0,rfl,Nat.zero_le _,HX,ae w⟩
 case round =>
  clear HX;obtain ⟨i,rfl,hi,HX,hb⟩:=hrel;rename World=>wa;rcases Nat.lt_or_ge i n with b6 | cs
  ·have b5:((i:Int)<(n:Int))=True:=by simp;omega
   obtain ⟨g,o,b,e,hg,_,T,hB⟩:=(h.bd hb).at_ b6;subst e;have G:=cX HX.out T;obtain ⟨A',F,c',c0,c1,hM,a0⟩:=hB;have HR:=Qh (h.bd hb);have HM:=Qh hM;have HS:=Qh G;have HN:=Qh a0;have HB:=Qh T;obtain ⟨v,hv⟩:∃ v,aQ b.name=v:=⟨_,rfl⟩;have D:=Qh hv;clear h hM G a0 T hv HX;go_wp2_with fail;refine (mP _ b.name HN.out v D.out).mono ?_;rintro e w1 ⟨rfl,aC⟩;have q1:=aC.q1;have x1:Blk w1 wa.heap.size 51 #[aa b.name,.slice A' F c']:=(ak _ _ _ (by simp)).below aC (by simp);have X:=hb.trans (q1.mono hb.size);clear aC;cases v
   ·have h5:x=5:=by
     have e5:aL (l.take i) b=5:=if_pos D.out;rcases HS.out with ⟨z,_⟩ | ⟨_,z⟩
     ·rw [e5] at z;cases z
     rw [<- z,e5]
    go_wp2;go_ret;exact ⟨by rw [h5];rfl,X⟩
   obtain ⟨C,B⟩:=x1.c2;go_wp2_with fail;clear C B;go_loopw [27] (fun jv I=>∃ j:Nat,jv=.int .i64 (j:Nat)/\j<=i/\Hid (twN ((l.take j).map BodyL.name) b.name=false)/\Below w1.heap.size w1 I) (fun jv _=>i-(intOf jv).toNat)
   case atStart=>exact ⟨0,rfl,Nat.zero_le _,Qh rfl,ae w1⟩
   case round =>
    obtain ⟨j,rfl,hj,K,t⟩:=hrel;rename World=>I;have x2:=x1.below t x1.lt;have E:=X.trans (t.mono X.size);obtain ⟨C,B⟩:=x2.c2;have dn:wa.heap.size<I.heap.size:=x2.lt;rcases Nat.lt_or_ge j i with bv | dO
    ·have b7:((j:Int)<(i:Int))=True:=by simp;omega
     have bw:j<n:=by omega
     obtain ⟨a,O,hA⟩:=((HR.out.bd q1).bd t).rowAt bw;obtain ⟨A2,n2,c2,d0,d1,c7,c8⟩:=hA;have bu:g<I.heap.size:=by have:=t.size;have:=q1.size;omega
     clear c7 c8;have bg:¬ wa.heap.size=I.heap.size:=by omega
     have bb:¬ g=I.heap.size:=by omega
     have cx:=aF b.name;by_cases d:a.name=b.name
     ·have h6:x=6:=by
       have e6:aL (l.take i) b=6:=by
        unfold aL;rw [D.out,if_neg (by decide),if_pos (dH O bv d)]
       rcases HS.out with ⟨z,_⟩ | ⟨_,z⟩
       ·rw [e6] at z;cases z
       rw [<- z,e6]
      rw [d] at d0;have Z:(b.name==b.name)=true:=by simp
      clear d O;go_wp2;go_ret;exact ⟨by rw [h6];rfl,E.alloc E.size _⟩
     have cc:=aF a.name;have U:=Qh (dU O K.out d);have Z:(a.name==b.name)=false:=beq_eq_false_iff_ne.2 d;clear d O K;go_wp2_with fail;go_roundw
     case rel=>exact ⟨j+1,by go_num,by omega,U,t.alloc t.size _⟩
     case measure=>simp [intOf];omega
    have b7:((j:Int)<(i:Int))=False:=by simp;omega
    obtain rfl:j=i:=by omega
    clear C B c0 c1;have q:b.pts.length=F:=HM.out.1;by_cases h8:8<F
    ·have f8:((8:Int)<(F:Int))=True:=eq_true (by omega)
     have h4:x=4:=by
      have e4:aL (l.take j) b=4:=by
       unfold aL;rw [D.out,if_neg (by decide),K.out,if_neg (by decide),if_pos (by rw [q];exact h8)]
      rcases HS.out with ⟨z,_⟩ | ⟨_,z⟩
      ·rw [e4] at z;cases z
      rw [<- z,e4]
     obtain ⟨C,B⟩:=x2.c2;clear q;go_wp2;go_ret;exact ⟨by rw [h4];rfl,E⟩
    have f8:((8:Int)<(F:Int))=False:=eq_false (by omega);obtain ⟨y,hy⟩:∃ y,bt bc [] b.pts=y:=⟨_,rfl⟩
    have HE:Hid (aL (l.take j) b=y):=Qh (by
     unfold aL;rw [D.out,if_neg (by decide),K.out,if_neg (by decide),if_neg (by rw [q];exact h8)]
     exact hy)
    have HP:=Qh (cK hy);have P:=Qh ((HM.out.mk_ q1).mk_ t);obtain ⟨C,B⟩:=x2.c2;clear hy q D K HM;go_wp2_with fail;clear C B;go_loopw [46] (fun pv wr=>∃ p:Nat,pv=.int .i64 (p:Nat)/\p<=F/\Hid (bt bc (b.pts.take p) (b.pts.drop p)=y)/\Below I.heap.size I wr) (fun pv _=>F-(intOf pv).toNat)
    case atStart=>exact ⟨0,rfl,Nat.zero_le _,HP,ae I⟩
    case round =>
     clear HP;obtain ⟨p,rfl,hp,HP,s⟩:=hrel;rename World=>w3;have x3:=x2.below s x2.lt;have S:=E.trans (s.mono E.size);have db:wa.heap.size<w3.heap.size:=x3.lt;rcases Nat.lt_or_ge p F with cm | cy
     ·have cu:((p:Int)<(F:Int))=True:=by simp;omega
      obtain ⟨J,Q,m,e,dq,_,ad,cn⟩:=(P.out.mk_ s).at_ cm;subst e;have a2:=cX HP.out ad;obtain ⟨d0,⟨b1,A1,n1,c1,D1,m1,e1,d1,d2,d3,a8⟩,⟨b2,A2,n2,c2,D2,m2,e2,d4,d5,d6,aS⟩,a4⟩:=cn;have d2:w3.cell? ⟨J,Q+p*7+2,none⟩=some (.slice A1 n1 c1):=d2;have d3:w3.cell? ⟨J,Q+p*7+3,none⟩=some (.slice D1 m1 e1):=d3;have d5:w3.cell? ⟨J,Q+p*7+5,none⟩=some (.slice A2 n2 c2):=d5;have d6:w3.cell? ⟨J,Q+p*7+6,none⟩=some (.slice D2 m2 e2):=d6;obtain ⟨R,ac⟩:=x3.c2;have bk:=Qh a2;have bx:=Qh a8;have c6:=Qh aS;have bs:=Qh a4;have dr:=Qh ad;have c5:=Qh (P.out.mk_ s);obtain ⟨v,hv⟩:∃ v,aQ m.name=v:=⟨_,rfl⟩;have D:=Qh hv;clear a2 a8 aS a4 ad hv P HP;go_wp2_with fail;refine (mP _ m.name bs.out v D.out).mono ?_;rintro e w4 ⟨rfl,ao⟩;have L:=ao.q1;have x4:Blk w4 w3.heap.size 56 #[aa m.name,.bool b1,.slice A1 n1 c1,.slice D1 m1 e1,.bool b2,.slice A2 n2 c2,.slice D2 m2 e2]:=(ak _ _ _ (by simp)).below ao (by simp);have cp:=x3.below L x3.lt;have Y:=S.trans (L.mono S.size);clear ao d0 d1 d2 d3 d4 d5 d6 R ac
      have N:∀ z:Int,z≠0->bc (b.pts.take p) m=z->x=z:=fun z hz hm=>by
       have hy:y=z:=by
        rcases bk.out with ⟨u,_⟩ | ⟨_,u⟩
        ·exact absurd (hm.symm.trans u) hz
        exact u.symm.trans hm
       rcases HS.out with ⟨u,_⟩ | ⟨_,u⟩
       ·exact absurd (hy.symm.trans (HE.out.symm.trans u)) hz
       rw [<- u,HE.out,hy]
      cases v
      ·have h5:x=5:=N 5 (by decide) (if_pos D.out)
       clear N;go_wp2;go_ret;exact ⟨by rw [h5];rfl,Y⟩
      have al:=Qh N;clear N;obtain ⟨R,ac⟩:=cp.c2;go_wp2_with fail;clear R ac;go_loopw [61] (fun jv wr=>∃ r:Nat,jv=.int .i64 (r:Nat)/\r<=p/\Hid (twN ((b.pts.take r).map MarkL.name) m.name=false)/\Below w4.heap.size w4 wr) (fun jv _=>p-(intOf jv).toNat)
      case atStart=>exact ⟨0,rfl,Nat.zero_le _,Qh rfl,ae w4⟩
      case round =>
       obtain ⟨r,rfl,hr,K,f⟩:=hrel;rename World=>w5;have W:=x4.below f x4.lt;have M:=Y.trans (f.mono Y.size);have b9:=W.cell 0;have c9:w3.heap.size<w5.heap.size:=W.lt;rcases Nat.lt_or_ge r p with ca | dv
       ·have bz:((r:Int)<(p:Int))=True:=by simp;omega
        have bl:r<F:=by omega
        obtain ⟨a,O,hA⟩:=((c5.out.mk_ L).mk_ f).rowAt bl;obtain ⟨d0,⟨b3,A3,n3,c3,D3,m3,e3,d1,d2,d3,cr⟩,⟨b4,A4,n4,c4,D4,m4,e4,d4,d5,d6,cL⟩,a9⟩:=hA;have bu:J<w5.heap.size:=by have:=f.size;have:=L.size;omega
        have d2:w5.cell? ⟨J,Q+r*7+2,none⟩=some (.slice A3 n3 c3):=d2;have d3:w5.cell? ⟨J,Q+r*7+3,none⟩=some (.slice D3 m3 e3):=d3;have d5:w5.cell? ⟨J,Q+r*7+5,none⟩=some (.slice A4 n4 c4):=d5;have d6:w5.cell? ⟨J,Q+r*7+6,none⟩=some (.slice D4 m4 e4):=d6;clear cr cL a9;have bg:¬ w3.heap.size=w5.heap.size:=by omega
        have bb:¬ J=w5.heap.size:=by omega
        have cx:=aF m.name;by_cases d:a.name=m.name
        ·have h6:x=6:=al.out 6 (by decide) (by
          unfold bc
          rw [D.out,if_neg (by decide),if_pos (dH O ca d)])
         rw [d] at d0;have Z:(m.name==m.name)=true:=by simp
         clear d O;go_wp2;go_ret;exact ⟨by rw [h6];rfl,M.alloc M.size _⟩
        have cc:=aF a.name;have U:=Qh (dU O K.out d);have Z:(a.name==m.name)=false:=beq_eq_false_iff_ne.2 d;clear d O K;go_wp2_with fail;go_roundw
        case rel=>exact ⟨r+1,by go_num,by omega,U,f.alloc f.size _⟩
        case measure=>simp [intOf];omega
       have bz:((r:Int)<(p:Int))=False:=by simp;omega
       obtain rfl:r=p:=by omega
       have cv:=W.cell 1;have br:=W.cell 2;have b8:=W.cell 3;obtain ⟨v1,a1⟩:∃ v,m.x.ok=v:=⟨_,rfl⟩;obtain ⟨v2,a5⟩:∃ v,m.y.ok=v:=⟨_,rfl⟩;have an:=Qh a1;have ab:=Qh a5;clear a1 a5;go_wp2_with fail;refine (iI _ b1 A1 n1 c1 D1 m1 e1 m.x k v1 ((bx.out.belw L).belw f) hk an.out).mono ?_;rintro e w6 ⟨rfl,H⟩;have x6:=W.below H W.lt;have V:=M.trans (H.mono M.size);clear b9 cv br b8
       have aT:v1=false\/v2=false->bc (b.pts.take r) m=3:=fun hh=>by
        unfold bc;rw [D.out,if_neg (by decide),K.out,if_neg (by decide),an.out,ab.out];rcases hh with e | e
        ·rw [e,if_pos rfl]
        rw [e];cases v1
        ·rfl
        rfl
       have a6:=Qh aT;clear aT;cases v1
       ·have h3:x=3:=al.out 3 (by decide) (a6.out (.inl rfl))
        go_wp2;go_ret;exact ⟨by rw [h3];rfl,V⟩
       have ck:=x6.cell 4;have ch:=x6.cell 5;have cb:=x6.cell 6;have di:w3.heap.size<w6.heap.size:=x6.lt;go_wp2_with fail;refine (iI _ b2 A2 n2 c2 D2 m2 e2 m.y k v2 (((c6.out.belw L).belw f).belw H) hk ab.out).mono ?_;rintro e w7 ⟨rfl,bf⟩;have bn:=V.trans (bf.mono V.size);have a3:Below I.heap.size I w7:=(((s.trans (L.mono s.size)).trans (f.mono (Nat.le_trans s.size L.size))).trans (H.mono (Nat.le_trans (Nat.le_trans s.size L.size) f.size))).trans (bf.mono (Nat.le_trans (Nat.le_trans (Nat.le_trans s.size L.size) f.size) H.size));clear ck ch cb;cases v2
       ·have h3:x=3:=al.out 3 (by decide) (a6.out (.inr rfl))
        go_wp2;go_ret;exact ⟨by rw [h3];rfl,bn⟩
       ·have h0:bc (b.pts.take r) m=0:=by
         unfold bc;rw [D.out,if_neg (by decide),K.out,if_neg (by decide),an.out,ab.out];rfl
        have bY:Hid (bt bc (b.pts.take (r+1)) (b.pts.drop (r+1))=y):=Qh (by
         rcases bk.out with ⟨_,u⟩ | ⟨u,_⟩
         ·exact u
         exact absurd h0 u)
        clear h0;go_wp2_with fail;go_roundw
        case rel=>exact ⟨r+1,by go_num,by omega,bY,a3⟩
        case measure=>simp [intOf];omega
     have cu:((p:Int)<(F:Int))=False:=by simp;omega
     have a7:y=0:=dT HP.out (by rw [P.out.1];exact cy)
     have cz:Hid (bt aL (l.take (j+1)) (l.drop (j+1))=x):=Qh (by
      rcases HS.out with ⟨_,u⟩ | ⟨u,_⟩
      ·exact u
      exact absurd (HE.out.trans a7) u)
     clear a7;go_wp2_with fail;go_roundw
     case rel=>exact ⟨j+1,by go_num,by omega,cz,S⟩
     case measure=>simp [intOf];omega
  have b5:((i:Int)<(n:Int))=False:=by simp;omega
  have b0:x=0:=dT HX.out (by rw [h.1];exact cs);go_wp2;go_ret;exact ⟨by rw [b0];rfl,hb⟩
theorem mR {i:Int}{n:Nat}(h:inI i n=true):∃ m:Nat,i=(m:Int)/\m<n:=by
 unfold inI at h;simp only [Bool.and_eq_true,decide_eq_true_eq] at h;exact ⟨i.toNat,by omega,by omega⟩
theorem wD (w:World) (A:Option Addr) (n c:Nat) (B:Option Addr) (p d:Nat) (C:Option Addr) (q e:Nat) (nm:List UInt8) (j:aD) (h:j.kind≠0/\j.kind≠1) :
 Calls Tryz.prog 96 #[.agg #[aa nm,.slice A n c,.slice B p d,.slice C q e],.agg #[aa j.name,.int .i64 j.kind,.int .i64 j.a,.int .i64 j.point,.int .i64 j.b,.int .i64 j.on,.int .i64 j.to_]] w (ax w (bo 7)):=by
 have f:(j.kind==0)=false:=beq_eq_false_iff_ne.2 h.1;have g:(j.kind==1)=false:=beq_eq_false_iff_ne.2 h.2;have k:(j.kind != 0)=true:=bne_iff_ne.2 h.1;have i:(j.kind != 1)=true:=bne_iff_ne.2 h.2;clear h;go_in;go_wp2;go_ret;exact ⟨rfl,(((ae w).alloc Qr _).alloc (by simp) _)⟩
theorem wE (w:World) (A:Option Addr) (n c:Nat) (B:Option Addr) (p d:Nat) (C:Option Addr) (q e:Nat) (nm:List UInt8) (j:aD) (L:ag) (k:Nat) (h:SlS (dV k) 2 w A n c L.bodies) (hk:k<=10000000) (bw:0<k) (hn:n<=1000) (s:j.kind=0) (x:Int) (Q:bj L j=x) :
 Calls Tryz.prog 96 #[.agg #[aa nm,.slice A n c,.slice B p d,.slice C q e],.agg #[aa j.name,.int .i64 j.kind,.int .i64 j.a,.int .i64 j.point,.int .i64 j.b,.int .i64 j.on,.int .i64 j.to_]] w (ax w (bo x)):=by
 have e0:(j.kind==0)=true:=beq_iff_eq.2 s;have e2:(j.kind != 0)=false:=by rw [s];rfl
 have Z:=h.1;have T:=Qh Q;have R:=Qh (show ¬ (j.kind≠0/\j.kind≠1) by rw [s];decide);have ao:=Qh s;have H:=Qh h;have P:=Qh Z;obtain ⟨v1,aS⟩:∃ v,inI j.a n=v:=⟨_,rfl⟩;obtain ⟨v2,W⟩:∃ v,inI j.b n=v:=⟨_,rfl⟩;have i:=Qh aS;have m:=Qh W;clear Q s h Z aS W;go_in;go_wp2_with fail;refine (wC _ j.a n v1 i.out).mono ?_;rintro e' w1 ⟨rfl,u⟩;have q1:=u.q2;have x1:Blk w1 w.heap.size 26 #[aa nm,.slice A n c,.slice B p d,.slice C q e]:=((ak _ _ _ (by simp)).alloc _).below u (by simp <;> omega);have y1:Blk w1 (w.heap.size+1) 81 #[aa j.name,.int .i64 j.kind,.int .i64 j.a,.int .i64 j.point,.int .i64 j.b,.int .i64 j.on,.int .i64 j.to_]:=(ak _ _ _ (by simp)).below u (by simp);clear u;cases v1
 ·have M:x=9:=by rw [<- T.out];unfold bj;rw [if_neg R.out,P.out,if_pos i.out]
  go_wp2;go_ret;exact ⟨by rw [M];rfl,q1⟩
 have ad:=x1.cell 1;have z:=y1.cell 2;have K:=y1.cell 4;go_wp2_with fail;refine (wC _ j.b n v2 m.out).mono ?_;rintro e' w2 ⟨rfl,t⟩;have q2:=q1.trans (t.mono q1.size);have x2:=x1.below t x1.lt;have S:=y1.below t y1.lt;clear ad z K t x1 y1;cases v2
 ·have M:x=9:=by rw [<- T.out];unfold bj;rw [if_neg R.out,P.out,if_neg (by rw [i.out];decide),if_pos m.out]
  go_wp2;go_ret;exact ⟨by rw [M];rfl,q2⟩
 obtain ⟨an,D,a6⟩:=mR i.out;obtain ⟨bn,O,a5⟩:=mR m.out;have HA:=Qh D;have F:=Qh O;have ad:=x2.cell 1;have bx:=S.cell 1;have z:=S.cell 2;have bl:=S.cell 3;have K:=S.cell 4;have bv:=S.cell 5;have br:=S.cell 6;rw [D] at z;rw [O] at K;clear D O;by_cases J:an=bn
 ·have a4:x=13:=by
   rw [<- T.out];unfold bj;rw [if_neg R.out,P.out,if_neg (by rw [i.out];decide),if_neg (by rw [m.out];decide),if_pos (by rw [HA.out,F.out,J])]
  subst J;go_wp2;go_ret;exact ⟨by rw [a4];rfl,q2⟩
 have bu:((an:Int)==(bn:Int))=false:=beq_eq_false_iff_ne.2 (by omega);obtain ⟨g,o,bb,a9,hg,bs,ac,a8⟩:=(H.out.bd q2).at_ a5;subst a9;obtain ⟨ab,y,a7⟩:=(H.out.bd q2).rowAt a6;obtain ⟨Ab,nb,cb,k0,k1,I,_⟩:=a8;obtain ⟨Aa,na,ca,l0,l1,V,_⟩:=a7;have a2:ci L j.a=ab.pts:=by unfold ci;rw [HA.out];show (match L.bodies[an]? with | some b=>b.pts | none=>[])=_;rw [y]
 have U:ci L j.b=bb.pts:=by unfold ci;rw [F.out];show (match L.bodies[bn]? with | some b=>b.pts | none=>[])=_;rw [ac]
 have al:=V.1;have a3:=I.1;have bg:((bn:Nat):Int)<((n:Nat):Int):=by omega
 have bf:((an:Nat):Int)<((n:Nat):Int):=by omega
 obtain ⟨v3,Y⟩:∃ v,inI j.point na=v:=⟨_,rfl⟩;obtain ⟨v4,a0⟩:∃ v,inI j.on nb=v:=⟨_,rfl⟩;have l:=Qh Y;have r:=Qh a0;have bk:=Qh I;have N:=Qh a2;have X:=Qh U;have G:=Qh al;have aC:=Qh a3;have E:=Qh (show ¬ j.a=j.b by rw [HA.out,F.out];omega);clear Y a0 I V a2 U al a3 ac y J;go_wp2_with fail;cases v3
 ·have M:x=9:=by
   rw [<- T.out];unfold bj;rw [if_neg R.out,P.out,if_neg (by rw [i.out];decide),if_neg (by rw [m.out];decide),if_neg E.out,N.out,G.out,if_pos l.out]
  go_quiet ((go_at_call 97;exact Calls.quiet_of_same (dB _ j.point na false l.out)));go_wp2;go_ret;exact ⟨by rw [M];rfl,af q2 _⟩
 cases v4
 ·have M:x=9:=by
   rw [<- T.out];unfold bj;rw [if_neg R.out,P.out,if_neg (by rw [i.out];decide),if_neg (by rw [m.out];decide),if_neg E.out,N.out,G.out,if_neg (by rw [l.out];decide),X.out,aC.out,if_pos r.out]
  go_quiet ((go_at_call 97;first | with_reducible exact Calls.quiet_of_same (dB _ j.point na true l.out) | with_reducible exact Calls.quiet_of_same (dB _ j.on nb false r.out) | fail));go_wp2;go_ret;exact ⟨by rw [M];rfl,af q2 _⟩
 have aT:x=(if j.kind=0 then (if j.to_=0 then 0 else 2) else if inI j.to_ nb=false then 9 else if eC bb.pts j.on j.to_=true then 8 else 0):=by
  rw [<- T.out];unfold bj;rw [if_neg R.out,P.out,if_neg (by rw [i.out];decide),if_neg (by rw [m.out];decide),if_neg E.out,N.out,G.out,if_neg (by rw [l.out];decide),X.out,aC.out,if_neg (by rw [r.out];decide)]
 have a1:=Qh aT;clear aT;by_cases f:j.to_=0
 ·have Q:x=0:=by rw [a1.out,if_pos ao.out,if_pos f]
  have t0:(j.to_==0)=true:=beq_iff_eq.2 f;have t1:(j.to_ != 0)=false:=by rw [f];rfl
  clear f;go_quiet ((go_at_call 97;first | with_reducible exact Calls.quiet_of_same (dB _ j.point na true l.out) | with_reducible exact Calls.quiet_of_same (dB _ j.on nb true r.out) | fail));go_wp2;go_ret;exact ⟨by rw [Q];rfl,af q2 _⟩
 have Q:x=2:=by rw [a1.out,if_pos ao.out,if_neg f]
 have t0:(j.to_==0)=false:=beq_eq_false_iff_ne.2 f;have t1:(j.to_ != 0)=true:=bne_iff_ne.2 f;clear f;go_quiet ((go_at_call 97;first | with_reducible exact Calls.quiet_of_same (dB _ j.point na true l.out) | with_reducible exact Calls.quiet_of_same (dB _ j.on nb true r.out) | fail));go_wp2;go_ret;exact ⟨by rw [Q];rfl,af q2 _⟩
theorem wF (w:World) (A:Option Addr) (n c:Nat) (B:Option Addr) (p d:Nat) (C:Option Addr) (q e:Nat) (nm:List UInt8) (j:aD) (L:ag) (k:Nat) (h:SlS (dV k) 2 w A n c L.bodies) (hk:k<=10000000) (t:0<k) (hn:n<=1000) (D:j.kind=1) (x:Int) (hx:bj L j=x) :
 Calls Tryz.prog 96 #[.agg #[aa nm,.slice A n c,.slice B p d,.slice C q e],.agg #[aa j.name,.int .i64 j.kind,.int .i64 j.a,.int .i64 j.point,.int .i64 j.b,.int .i64 j.on,.int .i64 j.to_]] w (ax w (bo x)):=by
 have e0:(j.kind==0)=false:=beq_eq_false_iff_ne.2 (by rw [D];decide);have e2:(j.kind != 0)=true:=by rw [D];rfl
 have e1:(j.kind==1)=true:=beq_iff_eq.2 D;have e3:(j.kind != 1)=false:=by rw [D];rfl
 have bY:=h.1;have HX:=Qh hx;have HK:=Qh (show ¬ (j.kind≠0/\j.kind≠1) by rw [D];decide);have cv:=Qh D;have H:=Qh h;have HL:=Qh bY;obtain ⟨v1,b8⟩:∃ v,inI j.a n=v:=⟨_,rfl⟩;obtain ⟨v2,cp⟩:∃ v,inI j.b n=v:=⟨_,rfl⟩;have r:=Qh b8;have E:=Qh cp;clear hx D h bY b8 cp;go_in;go_wp2_with fail;refine (wC _ j.a n v1 r.out).mono ?_;rintro e' w1 ⟨rfl,Y⟩;have q1:=Y.q2;have x1:Blk w1 w.heap.size 26 #[aa nm,.slice A n c,.slice B p d,.slice C q e]:=((ak _ _ _ (by simp)).alloc _).below Y (by simp <;> omega);have y1:Blk w1 (w.heap.size+1) 81 #[aa j.name,.int .i64 j.kind,.int .i64 j.a,.int .i64 j.point,.int .i64 j.b,.int .i64 j.on,.int .i64 j.to_]:=(ak _ _ _ (by simp)).below Y (by simp);clear Y;cases v1
 ·have h9:x=9:=by rw [<- HX.out];unfold bj;rw [if_neg HK.out,HL.out,if_pos r.out]
  go_wp2;go_ret;exact ⟨by rw [h9];rfl,q1⟩
 have aT:=x1.cell 1;have R:=y1.cell 2;have X:=y1.cell 4;go_wp2_with fail;refine (wC _ j.b n v2 E.out).mono ?_;rintro e' w2 ⟨rfl,Q⟩;have q2:=q1.trans (Q.mono q1.size);have x2:=x1.below Q x1.lt;have V:=y1.below Q y1.lt;clear aT R X Q x1 y1;cases v2
 ·have h9:x=9:=by rw [<- HX.out];unfold bj;rw [if_neg HK.out,HL.out,if_neg (by rw [r.out];decide),if_pos E.out]
  go_wp2;go_ret;exact ⟨by rw [h9];rfl,q2⟩
 obtain ⟨an,ad,di⟩:=mR r.out;obtain ⟨bn,bs,dn⟩:=mR E.out;have HA:=Qh ad;have a7:=Qh bs;have aT:=x2.cell 1;have dv:=V.cell 1;have R:=V.cell 2;have c9:=V.cell 3;have X:=V.cell 4;have bf:=V.cell 5;have a8:=V.cell 6;rw [ad] at R;rw [bs] at X;clear ad bs;by_cases bg:an=bn
 ·have c7:x=13:=by
   rw [<- HX.out];unfold bj;rw [if_neg HK.out,HL.out,if_neg (by rw [r.out];decide),if_neg (by rw [E.out];decide),if_pos (by rw [HA.out,a7.out,bg])]
  subst bg;go_wp2;go_ret;exact ⟨by rw [c7];rfl,q2⟩
 have ei:((an:Int)==(bn:Int))=false:=beq_eq_false_iff_ne.2 (by omega);obtain ⟨g,o,bb,dO,hg,eh,b0,ds⟩:=(H.out.bd q2).at_ dn;subst dO;obtain ⟨ab,ac,dr⟩:=(H.out.bd q2).rowAt di;obtain ⟨Ab,nb,cb,k0,k1,a2,_⟩:=ds;obtain ⟨Aa,na,ca,l0,l1,bw,_⟩:=dr;have c5:ci L j.a=ab.pts:=by unfold ci;rw [HA.out];show (match L.bodies[an]? with | some b=>b.pts | none=>[])=_;rw [ac]
 have bv:ci L j.b=bb.pts:=by unfold ci;rw [a7.out];show (match L.bodies[bn]? with | some b=>b.pts | none=>[])=_;rw [b0]
 have T:=bw.1;have Z:=a2.1;have ea:((bn:Nat):Int)<((n:Nat):Int):=by omega
 have d9:((an:Nat):Int)<((n:Nat):Int):=by omega
 obtain ⟨v3,cs⟩:∃ v,inI j.point na=v:=⟨_,rfl⟩;obtain ⟨v4,cc⟩:∃ v,inI j.on nb=v:=⟨_,rfl⟩;have I:=Qh cs;have M:=Qh cc;have bu:=Qh a2;have br:=Qh c5;have cr:=Qh bv;have a9:=Qh T;have b6:=Qh Z;have aS:=Qh (show ¬ j.a=j.b by rw [HA.out,a7.out];omega);clear cs cc a2 bw c5 bv T Z b0 ac bg;go_wp2_with fail;cases v3
 ·have h9:x=9:=by
   rw [<- HX.out];unfold bj;rw [if_neg HK.out,HL.out,if_neg (by rw [r.out];decide),if_neg (by rw [E.out];decide),if_neg aS.out,br.out,a9.out,if_pos I.out]
  go_quiet ((go_at_call 97;exact Calls.quiet_of_same (dB _ j.point na false I.out)));go_wp2;go_ret;exact ⟨by rw [h9];rfl,af q2 _⟩
 cases v4
 ·have h9:x=9:=by
   rw [<- HX.out];unfold bj;rw [if_neg HK.out,HL.out,if_neg (by rw [r.out];decide),if_neg (by rw [E.out];decide),if_neg aS.out,br.out,a9.out,if_neg (by rw [I.out];decide),cr.out,b6.out,if_pos M.out]
  go_quiet ((go_at_call 97;first | with_reducible exact Calls.quiet_of_same (dB _ j.point na true I.out) | with_reducible exact Calls.quiet_of_same (dB _ j.on nb false M.out) | fail));go_wp2;go_ret;exact ⟨by rw [h9];rfl,af q2 _⟩
 have b9:x=(if j.kind=0 then (if j.to_=0 then 0 else 2) else if inI j.to_ nb=false then 9 else if eC bb.pts j.on j.to_=true then 8 else 0):=by
  rw [<- HX.out];unfold bj;rw [if_neg HK.out,HL.out,if_neg (by rw [r.out];decide),if_neg (by rw [E.out];decide),if_neg aS.out,br.out,a9.out,if_neg (by rw [I.out];decide),cr.out,b6.out,if_neg (by rw [M.out];decide)]
 have cy:=Qh b9;clear b9;obtain ⟨v5,ck⟩:∃ v,inI j.to_ nb=v:=⟨_,rfl⟩;have U:=Qh ck;clear ck;go_quiet ((go_at_call 97;first | with_reducible exact Calls.quiet_of_same (dB _ j.point na true I.out) | with_reducible exact Calls.quiet_of_same (dB _ j.on nb true M.out) | fail));go_wp2_with fail;(with_reducible refine (wC _ j.to_ nb v5 U.out).mono ?_);rintro e' l ⟨rfl,cm⟩;have O:Below w2.heap.size w2 l:=aj (af (ae _) _) cm;have q3:=q2.trans (O.mono q2.size);have x3:=x2.below O x2.lt;have y3:=V.below O V.lt;clear aT dv R c9 X bf a8 k0 k1 l0 l1 cm x2 V;cases v5
 ·have hx:x=9:=by rw [cy.out,if_neg (by rw [cv.out];decide),if_pos U.out]
  go_wp2;go_ret;exact ⟨by rw [hx];rfl,q3⟩
 obtain ⟨on,al,ch⟩:=mR M.out;obtain ⟨tn,aC,bz⟩:=mR U.out;have bf:=y3.cell 5;have a8:=y3.cell 6;rw [al] at bf;rw [aC] at a8;obtain ⟨g',o',m,c8,ee,eb,hm,hM⟩:=(bu.out.mk_ O).at_ ch;subst c8;obtain ⟨G,b7,db⟩:=(bu.out.mk_ O).rowAt bz;obtain ⟨d0,⟨b1,A1,n1,c1,D1,m1,e1,d1,d2,d3,cz⟩,⟨b2,A2,n2,c2,D2,m2,f2,d4,d5,d6,bx⟩,_⟩:=hM;obtain ⟨z0,⟨b3,A3,n3,c3,D3,m3,f3,z1,z2,z3,cu⟩,⟨b4,A4,n4,c4,D4,m4,f4,z4,z5,z6,cL⟩,_⟩:=db;have d2:l.cell? ⟨g',o'+on*7+2,none⟩=some (.slice A1 n1 c1):=d2;have d3:l.cell? ⟨g',o'+on*7+3,none⟩=some (.slice D1 m1 e1):=d3;have d5:l.cell? ⟨g',o'+on*7+5,none⟩=some (.slice A2 n2 c2):=d5;have d6:l.cell? ⟨g',o'+on*7+6,none⟩=some (.slice D2 m2 f2):=d6;have z2:l.cell? ⟨g',o'+tn*7+2,none⟩=some (.slice A3 n3 c3):=z2;have z3:l.cell? ⟨g',o'+tn*7+3,none⟩=some (.slice D3 m3 f3):=z3;have z5:l.cell? ⟨g',o'+tn*7+5,none⟩=some (.slice A4 n4 c4):=z5;have z6:l.cell? ⟨g',o'+tn*7+6,none⟩=some (.slice D4 m4 f4):=z6
 have cx:eC bb.pts j.on j.to_=(decide (m.x.q=G.x.q)&&decide (m.y.q=G.y.q)):=by
  unfold eC;rw [al,aC];show (match bb.pts[on]?,bb.pts[tn]? with | some p,some q=>decide (p.x.q=q.x.q)&&decide (p.y.q=q.y.q) | _,_=>false)=_;rw [hm,b7]
 have dq:=Qh cx;have b5:=Qh cz;have c0:=Qh bx;have cn:=Qh cu;have c6:=Qh cL;have ec:((on:Nat):Int)<((nb:Nat):Int):=by omega
 have d7:((tn:Nat):Int)<((nb:Nat):Int):=by omega
 obtain ⟨s1,i⟩:∃ s,lC m.x.q G.x.q=s:=⟨_,rfl⟩;obtain ⟨s2,f⟩:∃ s,lC m.y.q G.y.q=s:=⟨_,rfl⟩;have J:=Qh i;have K:=Qh f;have ed:w.heap.size<l.heap.size:=x3.lt;have eg:w.heap.size+1<l.heap.size:=y3.lt;clear cx cz bx cu cL i f hm b7 al aC;go_wp2_with fail
 have hz:∀ z:Bool,(decide (m.x.q=G.x.q)&&decide (m.y.q=G.y.q))=z->x=if z=true then 8 else 0:=fun z hz=>by
  rw [cy.out,if_neg (by rw [cv.out];decide),if_neg (by rw [U.out];decide),dq.out,hz]
 have HZ:=Qh hz;clear hz;go_region
 ·go_wp2_with fail
  refine (lQ _ b1 A1 n1 c1 D1 m1 e1 m.x.q k ?_ b3 A3 n3 c3 D3 m3 f3 G.x.q k ?_ s1 J.out t (by omega) t (by omega)).mono ?_;(exact ((b5.out.qz).belw (af ((((ae _).alloc Qr _).alloc (by simp) _)) 1)));(exact ((cn.out.qz).belw (af ((((ae _).alloc Qr _).alloc (by simp) _)) 1)));rintro e' w4 ⟨rfl,F⟩;have W:=(((ak _ _ _ (g:=l.heap.size) (by simp)).alloc _).drew).below F (by simp <;> omega);have S:=((ak _ _ _ (g:=l.heap.size+1) (by simp)).drew).below F (by simp <;> omega);have q4:Below l.heap.size l w4:=(af ((((ae l).alloc Qr _).alloc (by simp) _)) 1).trans (F.mono (by simp <;> omega));have u:=q3.trans (q4.mono q3.size);have T:l.heap.size<w4.heap.size:=W.lt;have Z:l.heap.size+1<w4.heap.size:=S.lt;by_cases i:s1=0
  ·have es:(s1==0)=true:=beq_iff_eq.2 i
   have P:m.x.q=G.x.q:=cd.1 (J.out.trans i);have a0:=Qh P;clear i P;have a5:=W.cell 4;have ao:=W.cell 5;have a4:=W.cell 6;have bl:=S.cell 4;have a6:=S.cell 5;have a3:=S.cell 6;go_wp2_with fail;refine (lQ _ b2 A2 n2 c2 D2 m2 f2 m.y.q k ?_ b4 A4 n4 c4 D4 m4 f4 G.y.q k ?_ s2 K.out t (by omega) t (by omega)).mono ?_;(exact (c0.out.qz).belw q4);(exact (c6.out.qz).belw q4);rintro e' w5 ⟨rfl,bk⟩;have q5:=u.trans (bk.mono u.size);clear a5 ao a4 bl a6 a3;by_cases f:s2=0
   ·have a1:(s2==0)=true:=beq_iff_eq.2 f
    have N:m.y.q=G.y.q:=cd.1 (K.out.trans f);have h8:x=8:=HZ.out true (by rw [decide_eq_true a0.out,decide_eq_true N];rfl);clear f N;go_wp2;go_ret;exact ⟨by rw [h8];rfl,q5⟩
   have a1:(s2==0)=false:=beq_eq_false_iff_ne.2 f;have h0:x=0:=HZ.out false (by rw [decide_eq_false (fun e=>f (K.out.symm.trans (cd.2 e)))];simp);clear f;go_wp2;go_ret;exact ⟨by rw [h0];rfl,q5⟩
  have es:(s1==0)=false:=beq_eq_false_iff_ne.2 i;have h0:x=0:=HZ.out false (by rw [decide_eq_false (fun e=>i (J.out.symm.trans (cd.2 e)))];rfl);clear i;go_wp2;go_ret;exact ⟨by rw [h0];rfl,u⟩
 go_wp2_with fail;refine (lQ _ b1 A1 n1 c1 D1 m1 e1 m.x.q k ?_ b3 A3 n3 c3 D3 m3 f3 G.x.q k ?_ s1 J.out t (by omega) t (by omega)).mono ?_;(exact ((b5.out.qz).belw (af ((((ae _).alloc Qr _).alloc (by simp) _)) 1)));(exact ((cn.out.qz).belw (af ((((ae _).alloc Qr _).alloc (by simp) _)) 1)));rintro e' w4 ⟨rfl,F⟩;have W:=(((ak _ _ _ (g:=l.heap.size) (by simp)).alloc _).drew).below F (by simp <;> omega);have S:=((ak _ _ _ (g:=l.heap.size+1) (by simp)).drew).below F (by simp <;> omega);have q4:Below l.heap.size l w4:=(af ((((ae l).alloc Qr _).alloc (by simp) _)) 1).trans (F.mono (by simp <;> omega));have u:=q3.trans (q4.mono q3.size);have T:l.heap.size<w4.heap.size:=W.lt;have Z:l.heap.size+1<w4.heap.size:=S.lt;by_cases i:s1=0
 ·have es:(s1==0)=true:=beq_iff_eq.2 i
  have P:m.x.q=G.x.q:=cd.1 (J.out.trans i);have a0:=Qh P;clear i P;have a5:=W.cell 4;have ao:=W.cell 5;have a4:=W.cell 6;have bl:=S.cell 4;have a6:=S.cell 5;have a3:=S.cell 6;go_wp2_with fail;refine (lQ _ b2 A2 n2 c2 D2 m2 f2 m.y.q k ?_ b4 A4 n4 c4 D4 m4 f4 G.y.q k ?_ s2 K.out t (by omega) t (by omega)).mono ?_;(exact (c0.out.qz).belw q4);(exact (c6.out.qz).belw q4);rintro e' w5 ⟨rfl,bk⟩;have q5:=u.trans (bk.mono u.size);clear a5 ao a4 bl a6 a3;by_cases f:s2=0
  ·have a1:(s2==0)=true:=beq_iff_eq.2 f
   have N:m.y.q=G.y.q:=cd.1 (K.out.trans f);have h8:x=8:=HZ.out true (by rw [decide_eq_true a0.out,decide_eq_true N];rfl);clear f N;go_wp2;go_ret;exact ⟨by rw [h8];rfl,q5⟩
  have a1:(s2==0)=false:=beq_eq_false_iff_ne.2 f;have h0:x=0:=HZ.out false (by rw [decide_eq_false (fun e=>f (K.out.symm.trans (cd.2 e)))];simp);clear f;go_wp2;go_ret;exact ⟨by rw [h0];rfl,q5⟩
 have es:(s1==0)=false:=beq_eq_false_iff_ne.2 i;have h0:x=0:=HZ.out false (by rw [decide_eq_false (fun e=>i (J.out.symm.trans (cd.2 e)))];rfl);clear i;go_wp2;go_ret;exact ⟨by rw [h0];rfl,u⟩
theorem eV {α:Type}{f:List α->α->Int}:∀ (l b:List α),bt f b l=0->∀ a∈l,∃ p,f p a=0
 | [],_,_=>by simp
 | a::r,b,h=>by
  unfold bt at h;split at h
  ·rename_i c
   intro x d;rcases List.mem_cons.1 d with rfl | d
   ·exact ⟨_,c⟩
   exact eV r _ h x d
  rename_i c;exact absurd h c
theorem fV {s:List UInt8}(h:aQ s=true):s.length<=24:=by
 unfold aQ at h;simp at h;omega
def zm (m:MarkL):Prop:=m.name.length<=24/\m.x.ok=true/\m.y.ok=true
theorem tz {p:List MarkL}{m:MarkL}(h:bc p m=0):zm m:=by
 unfold bc at h
 repeat' split at h
 all_goals first | omega | skip
 rename_i b d c a;exact ⟨fV (by simpa using b),by simpa using c,by simpa using a⟩
def dj (b:BodyL):Prop:=b.name.length<=24/\b.pts.length<=8/\∀ m∈b.pts,zm m
theorem tA {p:List BodyL}{b:BodyL}(h:aL p b=0):dj b:=by
 unfold aL at h;split at h
 ·omega
 rename_i d;split at h
 ·omega
 split at h
 ·omega
 rename_i f;refine ⟨fV (by simpa using d),by omega,fun m a=>?_⟩;obtain ⟨q,c⟩:=eV _ _ h m a;exact tz c
def lS (bs:List BodyL) (j:aD):Prop:=j.name.length<=24/\∃ (a b p o:Nat) (x y:BodyL) (m1 m2:MarkL),j.a=(a:Nat)/\j.b=(b:Nat)/\j.point=(p:Nat)/\j.on=(o:Nat)/\bs[a]?=some x/\bs[b]?=some y/\x.pts[p]?=some m1/\y.pts[o]?=some m2 /\
  ((j.kind=0/\j.to_=0)\/(j.kind=1/\∃ (t:Nat) (m3:MarkL),j.to_=(t:Nat)/\y.pts[t]?=some m3))
theorem lc {α:Type}{l:List α}{i:Int}(h:inI i l.length=true):∃ (n:Nat) (a:α),i=(n:Nat)/\l[n]?=some a:=by
 obtain ⟨n,c,b⟩:=mR h;exact ⟨n,l[n],c,List.getElem?_eq_getElem b⟩
theorem lU {L:ag}{i:Int}{n:Nat}{b:BodyL}(h:i=(n:Nat)) (hb:L.bodies[n]?=some b):ci L i=b.pts:=by
 subst h;unfold ci;show (match L.bodies[n]? with | some b=>b.pts | none=>[])=_;rw [hb]
theorem rO {L:ag}{p:List aD}{j:aD}(h:aK L p j=0):lS L.bodies j:=by
 unfold aK at h;split at h
 ·omega
 rename_i B;split at h
 ·omega
 refine ⟨fV (by simpa using B),?_⟩;unfold bj at h;split at h
 ·omega
 rename_i D;split at h
 ·omega
 rename_i A;split at h
 ·omega
 rename_i hb;split at h
 ·omega
 split at h
 ·omega
 rename_i l;split at h
 ·omega
 rename_i m;obtain ⟨a,x,q,o⟩:=lc (by simpa using A);obtain ⟨b,y,k,d⟩:=lc (by simpa using hb);rw [lU q o] at l;rw [lU k d] at m;obtain ⟨r,w,z,g⟩:=lc (by simpa using l);obtain ⟨on,s,u,i⟩:=lc (by simpa using m);refine ⟨a,b,r,on,x,y,w,s,q,k,z,u,o,d,g,i,?_⟩;split at h
 ·rename_i n
  split at h
  ·rename_i c;exact Or.inl ⟨n,c⟩
  omega
 rename_i n;split at h
 ·omega
 rename_i c;rw [lU k d] at c;obtain ⟨t,v,C,f⟩:=lc (by simpa using c);exact Or.inr ⟨by omega,t,v,C,f⟩
def j7 (bs:List BodyL) (d:aE):Prop:=d.name.length<=24/\∃ (i:Nat) (b:BodyL),d.body=(i:Nat)/\bs[i]?=some b
theorem pQ {a:List BodyL}{p:List aE}{d:aE}(h:aA a.length p d=0):j7 a d:=by
 unfold aA at h;split at h
 ·omega
 rename_i f;split at h
 ·omega
 split at h
 ·omega
 rename_i hb;obtain ⟨i,b,e,c⟩:=lc (by simpa using hb);exact ⟨fV (by simpa using f),i,b,e,c⟩
structure EV (L:ag):Prop where
  name:L.name.length<=24
  nb:L.bodies.length<=8
  nj:L.joints.length<=16
  nd:L.drivers.length<=2
  b0:0<L.bodies.length
  body:∀ b∈L.bodies,dj b
  joint:∀ j∈L.joints,lS L.bodies j
  driver:∀ d∈L.drivers,j7 L.bodies d
theorem rP {L:ag}(h:aG L=0):EV L:=by
 unfold aG at h;split at h
 ·omega
 rename_i i;split at h
 ·omega
 rename_i k;split at h
 ·omega
 rename_i l;split at h
 ·rename_i f;exact absurd h f
 rename_i f;split at h
 ·omega
 rename_i n;split at h
 ·rename_i c;exact absurd h c
 rename_i c;split at h
 ·omega
 rename_i m;refine ⟨fV (by simpa using i),by omega,by omega,by omega,by omega,fun b hb=>?_,fun j g=>?_,fun d hd=>?_⟩
 ·obtain ⟨q,a⟩:=eV _ _ (by simpa using f) b hb
  exact tA a
 ·obtain ⟨q,a⟩:=eV _ _ (by simpa using c) j g
  exact rO a
 obtain ⟨q,a⟩:=eV _ _ h d hd;exact pQ a
def gJ (bs:List BodyL) (i j:Int):List UInt8:=match bs[i.toNat]? with
  | some b=>(match b.pts[j.toNat]? with | some m=>b.name++46::m.name | none=>[])
  | none=>[]
theorem lV {a:List BodyL}{i j:Nat}{b:BodyL}{m:MarkL}(hb:a[i]?=some b) (c:b.pts[j]?=some m):gJ a (i:Nat) (j:Nat)=b.name++46::m.name:=by
 unfold gJ;show (match a[i]? with | some b=>(match b.pts[j]? with | some m=>b.name++46::m.name | none=>[]) | none=>[])=_;rw [hb];show (match b.pts[j]? with | some m=>b.name++46::m.name | none=>[])=_;rw [c]
def oS (bs:List BodyL) (i:Int):List UInt8:=match bs[i.toNat]? with | some b=>b.name | none=>[]
theorem pR {a:List BodyL}{i:Nat}{b:BodyL}(hb:a[i]?=some b):oS a (i:Nat)=b.name:=by
 unfold oS;show (match a[i]? with | some b=>b.name | none=>[])=_;rw [hb]
def cU (bs:List BodyL) (j:aD):List (List UInt8) :=
  if j.kind=1 then [[115,108,105,100,101],j.name,gJ bs j.a j.point,gJ bs j.b j.on,gJ bs j.b j.to_]
  else [[112,105,110],j.name,gJ bs j.a j.point,gJ bs j.b j.on]
def aW (bs:List BodyL) (j:aD):List UInt8:=gH (cU bs j)++[59,10]
def bq (bs:List BodyL) (d:aE):List UInt8:=[100,114,105,118,101,114,32]++d.name++[32]++oS bs d.body++[59,10]
def mS (nm:List UInt8):List UInt8:=[108,105,110,107,97,103,101,32]++nm++[59,10]
def bQ (b:BodyL):List UInt8:=bK b++[10]
def bX (L:ag):List UInt8:=mS L.name++L.bodies.flatMap bQ++L.joints.flatMap (aW L.bodies)++L.drivers.flatMap (bq L.bodies)
def cg (L:ag):Int:=if aG L≠0 then aG L else if fm L.bodies=true\/65536<(bX L).length then 4 else 0
def dI (L:ag):List UInt8:=if cg L=0 then bX L else []
theorem gB {α:Type}(f:α->List UInt8) (K:Nat):∀ (l:List α),(∀ a∈l,(f a).length<=K)->(l.flatMap f).length<=K*l.length
 | [],_=>by simp
 | a::l,h=>by
  have c:=h a (by simp);have d:=gB f K l fun x b=>h x (by simp [b])
  simp only [List.flatMap_cons,List.length_append,List.length_cons,Nat.mul_add,Nat.mul_one];omega
theorem pS {b:BodyL}(hb:b.name.length<=24) (a:b.pts.length<=8) (h:∀ m∈b.pts,iP m):(bQ b).length<=180000:=by
 have:=kZ h;unfold bQ bK;simp only [List.length_append,List.length_cons,List.length_nil];omega
theorem ld {c:List BodyL}{i j:Int}(h:∀ b∈c,dj b):(gJ c i j).length<=49:=by
 unfold gJ;split
 ·rename_i b hb
  have a:=h b (List.mem_of_getElem? hb);split
  ·rename_i m d
   have f:=a.2.2 m (List.mem_of_getElem? d);have:=a.1;have:=f.1;simp only [List.length_append,List.length_cons];omega
  simp
 simp
theorem wG {a:List BodyL}{i:Int}(h:∀ b∈a,dj b):(oS a i).length<=24:=by
 unfold oS;split
 ·rename_i b hb
  exact (h b (List.mem_of_getElem? hb)).1
 simp
theorem jr {c:List BodyL}{j:aD}(h:∀ b∈c,dj b) (d:j.name.length<=24):(aW c j).length<=200:=by
 have g:=ld h (i:=j.a) (j:=j.point);have f:=ld h (i:=j.b) (j:=j.on);have k:=ld h (i:=j.b) (j:=j.to_);unfold aW cU;split
 ·simp only [gH,List.length_append,List.length_cons,List.length_nil]
  omega
 simp only [gH,List.length_append,List.length_cons,List.length_nil];omega
theorem mT {a:List BodyL}{d:aE}(h:∀ b∈a,dj b) (hd:d.name.length<=24):(bq a d).length<=60:=by
 have c:=wG h (i:=d.body);unfold bq;simp only [List.length_append,List.length_cons,List.length_nil];omega
theorem fo {α:Type}{f:List α->α->Int}:∀ (l b:List α),bt f b l=0->∀ (i:Nat) (a:α),l[i]?=some a->f (b++l.take i) a=0
 | [],_,_,i,a,ha=>by simp at ha
 | x::r,b,h,i,a,ha=>by
  unfold bt at h;split at h
  ·rename_i c
   cases i with
   | zero=>simp at ha;subst ha;simpa using c
   | succ i =>
    have d:=fo r _ h i a (by simpa using ha);simpa using d
  rename_i c;exact absurd h c
theorem ux {α:Type}{nm:α->List UInt8}{l:List α}(h:∀ (i:Nat) (a:α),l[i]?=some a->twN ((l.take i).map nm) (nm a)=false) {i j:Nat}{a b:α}(d:l[i]?=some a) (hb:l[j]?=some b) (e:nm a=nm b):i=j:=by
 rcases Nat.lt_trichotomy i j with c | c | c
 ·have:=dH d c e
  rw [h j b hb] at this;cases this
 ·exact c
 have:=dH hb c e.symm;rw [h i a d] at this;cases this
theorem rQ {s:List UInt8}(h:aQ s=true):s≠[]/\∀ c∈s,aM c=true:=by
 unfold aQ at h;simp only [Bool.and_eq_true,decide_eq_true_eq] at h;obtain ⟨⟨b,d⟩,_⟩:=h
 cases s with
 | nil=>simp [be] at b
 | cons x t =>
  refine ⟨by simp,?_⟩;rw [be] at b d;split at b
  ·rename_i f
   rw [if_pos f,List.length_cons] at d
   have i:t.takeWhile aM=t:=by
    have g:t.takeWhile aM <+: t:=List.takeWhile_prefix _;exact g.eq_of_length (by omega)
   intro c a;rcases List.mem_cons.1 a with rfl | a
   ·unfold aM;rw [f];rfl
   rw [<- i] at a;exact (List.all_eq_true.1 (List.all_takeWhile)) c a
  omega
theorem j8 {c:UInt8}(h:aM c=true):c≠10/\c≠32/\c≠46/\c≠59/\c≠125:=by
 refine ⟨?_,?_,?_,?_,?_⟩ <;> (rintro rfl;exact absurd h (by decide))
theorem uy {s:List UInt8}(h:aQ s=true):10 ∉ s/\32 ∉ s/\46 ∉ s/\59 ∉ s/\125 ∉ s:=by
 have:=(rQ h).2;refine ⟨fun a=>(j8 (this _ a)).1 rfl,fun a=>(j8 (this _ a)).2.1 rfl,fun a=>(j8 (this _ a)).2.2.1 rfl,fun a=>(j8 (this _ a)).2.2.2.1 rfl,fun a=>(j8 (this _ a)).2.2.2.2 rfl⟩
def RdW (r:RD):Prop:=Wds r.num/\Wds r.den
def MkW (m:MarkL):Prop:=RdW m.x/\RdW m.y
def LkW (L:ag):Prop:=∀ b∈L.bodies,∀ m∈b.pts,MkW m
structure MkF (m:MarkL):Prop where
  name:aQ m.name=true
  x:m.x.ok=true
  y:m.y.ok=true
theorem ka {p:List MarkL}{m:MarkL}(h:bc p m=0):MkF m/\twN (p.map MarkL.name) m.name=false:=by
 unfold bc at h
 repeat' split at h
 all_goals first | omega | skip
 rename_i c a d b;exact ⟨⟨by simpa using c,by simpa using d,by simpa using b⟩,by simpa using a⟩
structure BdF (b:BodyL):Prop where
  name:aQ b.name=true
  pts:∀ m∈b.pts,MkF m
  dist:∀ {i j:Nat}{m m':MarkL},b.pts[i]?=some m->b.pts[j]?=some m'->m.name=m'.name->i=j
theorem pT {p:List BodyL}{b:BodyL}(h:aL p b=0):BdF b/\twN (p.map BodyL.name) b.name=false:=by
 unfold aL at h;split at h
 ·omega
 rename_i l;split at h
 ·omega
 rename_i g;split at h
 ·omega
 have f:∀ (i:Nat) (a:MarkL),b.pts[i]?=some a->MkF a/\twN ((b.pts.take i).map MarkL.name) a.name=false:=fun i a d=>ka (by simpa using fo _ _ h i a d)
 refine ⟨⟨by simpa using l,fun m c=>?_,fun {i j m n}=>ux fun i a d=>(f i a d).2⟩,by simpa using g⟩;obtain ⟨i,k,e⟩:=List.getElem_of_mem c;exact (f i m (by rw [List.getElem?_eq_getElem k,e])).1
structure LkF (L:ag):Prop where
  ok:EV L
  name:aQ L.name=true
  body:∀ b∈L.bodies,BdF b
  dist:∀ {i j:Nat}{a b:BodyL},L.bodies[i]?=some a->L.bodies[j]?=some b->a.name=b.name->i=j
  joint:∀ j∈L.joints,aQ j.name=true
  driver:∀ d∈L.drivers,aQ d.name=true
theorem bI {L:ag}(h:aG L=0):LkF L:=by
 have f:=rP h;unfold aG at h;split at h
 ·omega
 rename_i r;split at h
 ·omega
 split at h
 ·omega
 split at h
 ·rename_i n;exact absurd h n
 rename_i n;split at h
 ·omega
 split at h
 ·rename_i g;exact absurd h g
 rename_i g;split at h
 ·omega
 have hb:∀ (i:Nat) (a:BodyL),L.bodies[i]?=some a->BdF a/\twN ((L.bodies.take i).map BodyL.name) a.name=false:=fun i a m=>pT (by have:=fo _ _ (Decidable.not_not.1 n) i a m;rwa [List.nil_append] at this)
 refine ⟨f,by simpa using r,fun b l=>?_,fun {i j a b}=>ux fun i a m=>(hb i a m).2,fun j p=>?_,fun d hd=>?_⟩
 ·obtain ⟨i,o,e⟩:=List.getElem_of_mem l
  exact (hb i b (by rw [List.getElem?_eq_getElem o,e])).1
 ·obtain ⟨q,c⟩:=eV _ _ (by simpa using g) j p
  unfold aK at c;split at c
  ·omega
  rename_i k;simpa using k
 obtain ⟨q,c⟩:=eV _ _ h d hd;unfold aA at c;split at c
 ·omega
 rename_i k;simpa using k
/-! Lines. -/
def Mx (w:World):Prop:=∃ m,w.cell? ⟨0,0,none⟩=some (.int .i64 m)
theorem Mx.belw {w b:World}(h:Mx w) (hb:Below w.heap.size w b):Mx b:=by
 obtain ⟨m,a⟩:=h;exact ⟨m,(hb.cell (p:=⟨0,0,none⟩) (World.block_lt_of_cell? w _ a)).trans a⟩
theorem CF (w:World) (s:List UInt8) (c:UInt8) (a b:List UInt8) (f:Bool) (d:Mx w) (j:s.length<=65536) (h:Lib.cut s [c]=(a,b,f)):Calls Tryz.prog 111 #[aa s,.string ⟨#[c]⟩] w (ax w (.tuple #[aa a,aa b,.bool f])):=by
 obtain ⟨m,d⟩:=d;refine (Tryz.strings_Cut ⟨s.toArray⟩ ⟨#[c]⟩ m w (by show s.length<_;omega) d).mono fun e i ⟨g,n,hw⟩=>⟨?_,hw ▸ af (ae _) n⟩
 rw [g];show Ending.returned (.tuple #[aa (Lib.cut s [c]).1,aa (Lib.cut s [c]).2.1,.bool (Lib.cut s [c]).2.2])=_;rw [h]
theorem DC:bo 2=.iface 58 (.int .i64 2):=if_neg (by decide)
theorem DE:bo 4=.iface 58 (.int .i64 4):=if_neg (by decide)
def isD (D:List UInt8):Prop:=D≠[]/\D.all aX=true
def sg (m:Bool) (D:List UInt8):List UInt8:=if m then 45::D else D
def sgI (m:Bool) (n:Int):Int:=if m then -n else n
inductive BM (s:List UInt8):Prop
  | whole (m:Bool) (D:List UInt8) (hD:isD D) (hs:s=sg m D)
  | quo (m:Bool) (D E:List UInt8) (hD:isD D) (hE:isD E) (hs:s=sg m (D++47::E))
  | dot (m:Bool) (D E:List UInt8) (hD:isD D) (hE:isD E) (hs:s=sg m (D++46::E))
theorem BN {p:UInt8->Bool}:∀ {l:List UInt8},(l.takeWhile p).length=l.length->l.all p=true:=by
 intro l h;have e:l.takeWhile p=l:=(List.takeWhile_sublist p).eq_of_length h;rw [<- e];exact gZ l
theorem pU {r:List UInt8}{k:Nat}(h:cC r=k) (a:0<k):∃ D d,r=D++d/\D.length=k/\isD D:=by
 obtain ⟨d,hd,_⟩:=fP aX r;refine ⟨r.takeWhile aX,d,hd,h,?_,gZ r⟩;intro e;unfold cC at h;rw [e] at h;simp at h;omega
theorem num_full {s:List UInt8}(h:bJ s=s.length) (A:0<s.length):BM s:=by
 obtain ⟨m,k,C,q,c⟩:=kW (s:=s) (i:=0) (v:=s.length) h;simp only [Nat.zero_add] at q c
 obtain ⟨b,hb⟩:∃ b:Bool,s=sg b (s.drop m):=by
  rcases C with ⟨rfl,F⟩ | ⟨rfl,_⟩
  ·refine ⟨true,?_⟩
   have:=bM A;rw [F] at this;exact this
  exact ⟨false,rfl⟩
 rcases c with ⟨_,u⟩ | ⟨g,d,hd,c⟩
 ·omega
 obtain ⟨D,r,a,l,o⟩:=pU q g;have z:m+k<=s.length:=dz q g
 have y:r.length=s.length-(m+k):=by
  have:=congrArg List.length a;rw [List.length_drop,List.length_append] at this;omega
 rcases c with ⟨_,_,u⟩ | ⟨f,t,n,c⟩
 ·have:r=[]:=List.eq_nil_of_length_eq_zero (by omega)
  subst this;rw [List.append_nil] at a;exact .whole b D o (by rw [<- a];exact hb)
 have j:m+k<s.length:=by rcases f with e | e <;> exact pN hd (by rw [e];decide)
 rcases c with ⟨_,u⟩ | ⟨B,u⟩
 ·omega
 have E:s.drop (m+k)=r:=by rw [<- List.drop_drop,a,<- l,List.drop_left]
 have x:=bM j;rw [E,hd] at x
 have w:isD (s.drop (m+k+1)):=by
  refine ⟨fun e=>?_,BN (p:=aX) ?_⟩
  ·rw [e] at n;simp [cC] at n;omega
  show cC (s.drop (m+k+1))=_;rw [n,List.length_drop];omega
 rw [x] at a;rw [a] at hb;rcases f with rfl | rfl
 ·exact .dot b D _ o w hb
 exact .quo b D _ o w hb
theorem fW {D:List UInt8}(h:isD D):∃ c t,D=c::t/\aX c=true:=by
 obtain ⟨b,a⟩:=h
 cases D with
 | nil=>exact absurd rfl b
 | cons c t=>rw [List.all_cons,Bool.and_eq_true] at a;exact ⟨c,t,rfl,a.1⟩
theorem gC {D:List UInt8}(h:isD D) {c:UInt8}(b:aX c=false):c ∉ D:=fun a=>by
 have:=List.all_eq_true.1 h.2 c a;rw [b] at this;cases this
theorem fX {m:Bool}{D r:List UInt8}(h:isD D):cw (sg m (D++r))=m/\bT (sg m (D++r))=D++r:=by
 obtain ⟨c,t,rfl,d⟩:=fW h;have a:c≠45:=by rintro rfl;exact absurd d (by decide)
 cases m
 ·show cw (c::(t++r))=false/\bT (c::(t++r))=_
  refine ⟨?_,?_⟩
  ·unfold cw;split
   ·rename_i b;injection b with h2;exact absurd h2 a
   rfl
  unfold bT;split
  ·rename_i b;injection b with h2;exact absurd h2 a
  rfl
 exact ⟨rfl,rfl⟩
def cV (D:List UInt8):List UInt8:=if D.dropWhile (· == 48)=[] then [48] else D.dropWhile (· == 48)
theorem rR (t:List UInt8):ar (48::t)=ar t:=by
 have:=gw [48] t;rw [show ar [48]=0 from rfl,Nat.zero_mul,Nat.zero_add] at this;exact this
theorem zo:∀ {D:List UInt8},D.all aX=true->okZ (cV D)=true/\eT (cV D)=(ar D:Int)/\(cV D).length<=max 1 D.length:=by
 intro D
 induction D with
 | nil=>intro _;exact ⟨by decide,by decide,by decide⟩
 | cons c t ih =>
  intro h;rw [List.all_cons,Bool.and_eq_true] at h;by_cases hc:c=48
  ·subst hc
   have e:cV (48::t)=cV t:=by unfold cV;simp
   rw [e,rR];obtain ⟨d,a,i⟩:=ih h.2;refine ⟨d,a,?_⟩;rw [List.length_cons];omega
  have e:cV (c::t)=c::t:=by unfold cV;simp [hc]
  have b:c≠45:=by rintro rfl;exact absurd h.1 (by decide)
  have f:cw (c::t)=false:=by
   unfold cw;split
   ·rename_i d;injection d with a;exact absurd a b
   rfl
  have g:bT (c::t)=c::t:=by
   unfold bT;split
   ·rename_i d;injection d with a;exact absurd a b
   rfl
  rw [e];refine ⟨?_,?_,by omega⟩
  ·unfold okZ
   rw [f,g];simp [h.1,hc];simpa using h.2
  unfold eT;rw [f,g];rfl
inductive dY (s:List UInt8) (x:Int) (q:Rat):Prop
  | large (h:60<s.length) (hx:x=4) (hq:q=0)
  | bad (h:s.length<=60) (hb:s.length=0\/bJ s≠s.length) (hx:x=2) (hq:q=0)
  | whole (m:Bool) (D:List UInt8) (h:s.length<=60) (hn:bJ s=s.length) (hD:isD D) (hs:s=sg m D) (hx:x=0) (hq:q=((sgI m (ar D):Int):Rat))
  | quo0 (m:Bool) (D E:List UInt8) (h:s.length<=60) (hn:bJ s=s.length) (hD:isD D) (hE:isD E) (hs:s=sg m (D++47::E)) (h0:ar E=0) (hx:x=8) (hq:q=0)
  | quo (m:Bool) (D E:List UInt8) (h:s.length<=60) (hn:bJ s=s.length) (hD:isD D) (hE:isD E) (hs:s=sg m (D++47::E)) (h0:ar E≠0) (hx:x=0) (hq:q=Rat.divInt (sgI m (ar D)) (ar E))
  | dot (m:Bool) (D E:List UInt8) (h:s.length<=60) (hn:bJ s=s.length) (hD:isD D) (hE:isD E) (hs:s=sg m (D++46::E)) (hx:x=0) (hq:q=Rat.divInt (sgI m (ar (D++E))) ((10^E.length:Nat):Int))
theorem mU (s:List UInt8):∃ x q,dY s x q:=by
 by_cases h:60<s.length
 ·exact ⟨4,0,.large h rfl rfl⟩
 by_cases hb:s.length=0\/bJ s≠s.length
 ·exact ⟨2,0,.bad (by omega) hb rfl rfl⟩
 ·have a:bJ s=s.length:=by
   by_cases e:bJ s=s.length
   ·exact e
   exact absurd (.inr e) hb
  have f:0<s.length:=by
   rcases Nat.eq_zero_or_pos s.length with e | e
   ·exact absurd (.inl e) hb
   exact e
  rcases num_full a f with ⟨m,D,c,b⟩ | ⟨m,D,E,c,d,b⟩ | ⟨m,D,E,c,d,b⟩
  ·exact ⟨0,_,.whole m D (by omega) a c b rfl rfl⟩
  ·by_cases h0:ar E=0
   ·exact ⟨8,_,.quo0 m D E (by omega) a c d b h0 rfl rfl⟩
   exact ⟨0,_,.quo m D E (by omega) a c d b h0 rfl rfl⟩
  exact ⟨0,_,.dot m D E (by omega) a c d b rfl rfl⟩
theorem rS (n:Nat):cV (49::List.replicate n 48)=49::List.replicate n 48/\ar (49::List.replicate n 48)=10^n/\(49::List.replicate n 48).all aX=true:=by
 refine ⟨by unfold cV;simp,?_,?_⟩
 ·induction n with
  | zero=>rfl
  | succ n ih =>
   rw [List.replicate_succ',<- List.cons_append,gW,ih,show kQ 48=0 from rfl,Nat.pow_succ];omega
 rw [List.all_cons,Bool.and_eq_true];refine ⟨by decide,?_⟩;rw [List.all_eq_true];intro c a;rw [List.eq_of_mem_replicate a];decide
theorem kb {D:List UInt8}(h:D.all aX=true) (a:D.length<=60):ar D<4294967296^60:=by
 have c:=eH h;have b:(10:Nat)^D.length<=10^60:=Nat.pow_le_pow_right (by decide) a;have d:(10:Nat)^60<4294967296^60:=by decide
 omega
theorem BO (m:Bool) (n:Nat):(sgI m (n:Int)).natAbs=n:=by cases m <;> simp [sgI]
noncomputable def valX (s:List UInt8):Int:=(mU s).choose
noncomputable def valQ (s:List UInt8):Rat:=(mU s).choose_spec.choose
theorem lW (s:List UInt8):dY s (valX s) (valQ s):=(mU s).choose_spec.choose_spec
structure PS where
  toks:List Tkn
  L:ag
  x:Int
def PS.fail (s:PS) (e:Int):PS:=if s.x=0 then { s with x:=e } else s
def PS.next (s:PS) (k:Nat):Option (List UInt8) × PS :=
  if s.x≠0 then (none,s) else match s.toks with
    | []=>(none,{ s with x:=18 })
    | t::_=>if t.kind=k then (some t.text,s) else (none,{ s with x:=2 })
def PS.drop1 (s:PS):PS:={ s with toks:=s.toks.drop 1 }
def PS.word (s:PS):List UInt8 × PS:=match s.next 0 with
  | (some t,s')=>(t,s'.drop1)
  | (none,s')=>([],s')
def PS.expect (s:PS) (k:Nat) (text:List UInt8):PS:=match s.next k with
  | (some t,s')=>if t=text then s'.drop1 else s'.fail 2
  | (none,s')=>s'
noncomputable def PS.number (s:PS):Rat × PS:=match s.next 1 with
  | (some t,s')=>if valX t≠0 then (0,s'.fail (valX t)) else (valQ t,s'.drop1)
  | (none,s')=>(0,s')
noncomputable def PS.mark (s:PS):MarkL × PS :=
  (⟨s.word.1,rd s.word.2.number.1,rd s.word.2.number.2.number.1⟩,s.word.2.number.2.number.2.expect 2 [59])
def PS.signHead (s:PS):Bool:=match s.toks with | t::_=>t.kind==2 | []=>false
noncomputable def PS.marks:Nat->PS->List MarkL->List MarkL × PS
  | 0,s,l=>(l,s)
  | f+1,s,l=>if s.x≠0 then (l,s) else if s.signHead then (l,s.expect 2 [125]) else PS.marks f s.mark.2 (l++[s.mark.1])
noncomputable def PS.body (s:PS):BodyL × PS :=
  let r:=PS.marks (s.toks.length+1) (s.word.2.expect 2 [123]) []
  (⟨s.word.1,r.1⟩,r.2)
def js (l:List BodyL) (nm:List UInt8):Option Nat:=l.findIdx? fun b=>b.name==nm
def mV (l:List MarkL) (nm:List UInt8):Option Nat:=l.findIdx? fun m=>m.name==nm
def PS.named (s:PS) (only:Int):Int × PS :=
  let s':=s.word.2
  if s'.x≠0 then (0,s') else match js s'.L.bodies s.word.1 with
    | some i=>((i:Int),if 0<=only/\(i:Int)≠only then s'.fail 7 else s')
    | none=>(0,s'.fail 5)
def PS.full (s:PS) (only:Int):Int × Int × PS :=
  let b:=(s.named only).1
  let s1:=(s.named only).2.expect 2 [46]
  let s2:=s1.word.2
  if s2.x≠0 then (0,0,s2) else match mV (ci s2.L b) s1.word.1 with
    | some i=>(b,(i:Int),s2)
    | none=>(0,0,s2.fail 5)
def PS.addB (s:PS) (b:BodyL):PS:={ s with L:={ s.L with bodies:=s.L.bodies++[b] } }
def PS.addJ (s:PS) (j:aD):PS:={ s with L:={ s.L with joints:=s.L.joints++[j] } }
def PS.addD (s:PS) (d:aE):PS:={ s with L:={ s.L with drivers:=s.L.drivers++[d] } }
def PS.joint (s:PS) (slide:Bool):PS :=
  let a:=s.word.2.full (-1)
  let b:=a.2.2.full (-1)
  let t:Int × Int × PS:=if slide then b.2.2.full b.1 else (0,0,b.2.2)
  (t.2.2.expect 2 [59]).addJ ⟨s.word.1,if slide then 1 else 0,a.1,a.2.1,b.1,b.2.1,t.2.1⟩
def PS.driver (s:PS):PS :=
  let d:=s.word.2.named (-1)
  (d.2.expect 2 [59]).addD ⟨s.word.1,d.1⟩
def mW:List UInt8:=[98,111,100,121]
def wH:List UInt8:=[112,105,110]
def lf:List UInt8:=[115,108,105,100,101]
def iR:List UInt8:=[100,114,105,118,101,114]
def aP:List UInt8:=[108,105,110,107,97,103,101]
noncomputable def PS.item (s:PS):PS :=
  let s':=s.word.2
  if s.word.1=mW then s'.body.2.addB s'.body.1
  else if s.word.1=wH then s'.joint false
  else if s.word.1=lf then s'.joint true
  else if s.word.1=iR then s'.driver
  else s'.fail 2
noncomputable def PS.items:Nat->PS->PS
  | 0,s=>s
  | f+1,s=>if s.x=0/\s.toks≠[] then PS.items f s.item else s
def L0:ag:=⟨[],[],[],[]⟩
noncomputable def cE (l:List Tkn):PS :=
  let s1:=(⟨l,L0,0⟩:PS).expect 0 aP
  let s2:=s1.word.2
  let s3:PS:={ s2 with L:={ s2.L with name:=s1.word.1 } }
  PS.items (l.length+1) (s3.expect 2 [59])
inductive dk (s:List UInt8) (x:Int) (L:ag):Prop
  | split (l:List Tkn) (hs:bh s x l) (hx:x≠0) (hL:L=L0)
  | read (l:List Tkn) (hs:bh s 0 l) (hr:(cE l).x=x) (hx:x≠0) (hL:L=L0)
  | check (l:List Tkn) (hs:bh s 0 l) (hr:(cE l).x=0) (hc:aG (cE l).L=x) (hx:x≠0) (hL:L=L0)
  | ok (l:List Tkn) (hs:bh s 0 l) (hr:(cE l).x=0) (hc:aG (cE l).L=0) (hx:x=0) (hL:L=(cE l).L)
theorem BP (s:List UInt8):∃ x L,dk s x L:=by
 obtain ⟨x,l,h⟩:=rJ s;by_cases hx:x=0
 ·subst hx
  by_cases hr:(cE l).x=0
  ·by_cases hc:aG (cE l).L=0
   ·exact ⟨_,_,.ok l h hr hc rfl rfl⟩
   exact ⟨_,_,.check l h hr rfl hc rfl⟩
  exact ⟨_,_,.read l h rfl hr rfl⟩
 exact ⟨_,_,.split l h hx rfl⟩
theorem dk.uniq {s:List UInt8}{x y:Int}{L M:ag}(h:dk s x L) (a:dk s y M):x=y/\L=M:=by
 cases h with
 | split l hs hx hL =>
  cases a with
  | split l' hs' hx' hL'=>exact ⟨(hs.uniq hs').1,by rw [hL,hL']⟩
  | read l' hs' _ _ _=>exact absurd (hs.uniq hs').1 hx
  | check l' hs' _ _ _ _=>exact absurd (hs.uniq hs').1 hx
  | ok l' hs' _ _ _ _=>exact absurd (hs.uniq hs').1 hx
 | read l hs hr hx hL =>
  cases a with
  | split l' hs' hx' hL'=>exact absurd (hs.uniq hs').1.symm hx'
  | read l' hs' hr' hx' hL' =>
   obtain ⟨_,rfl⟩:=hs.uniq hs';exact ⟨hr.symm.trans hr',by rw [hL,hL']⟩
  | check l' hs' hr' _ _ _ =>
   obtain ⟨_,rfl⟩:=hs.uniq hs';exact absurd (hr.symm.trans hr') hx
  | ok l' hs' hr' _ _ _ =>
   obtain ⟨_,rfl⟩:=hs.uniq hs';exact absurd (hr.symm.trans hr') hx
 | check l hs hr hc hx hL =>
  cases a with
  | split l' hs' hx' hL'=>exact absurd (hs.uniq hs').1.symm hx'
  | read l' hs' hr' hx' hL' =>
   obtain ⟨_,rfl⟩:=hs.uniq hs';exact absurd (hr'.symm.trans hr) hx'
  | check l' hs' hr' hc' hx' hL' =>
   obtain ⟨_,rfl⟩:=hs.uniq hs';exact ⟨hc.symm.trans hc',by rw [hL,hL']⟩
  | ok l' hs' hr' hc' _ _ =>
   obtain ⟨_,rfl⟩:=hs.uniq hs';exact absurd (hc.symm.trans hc') hx
 | ok l hs hr hc hx hL =>
  cases a with
  | split l' hs' hx' hL'=>exact absurd (hs.uniq hs').1.symm hx'
  | read l' hs' hr' hx' hL' =>
   obtain ⟨_,rfl⟩:=hs.uniq hs';exact absurd (hr'.symm.trans hr) hx'
  | check l' hs' hr' hc' hx' hL' =>
   obtain ⟨_,rfl⟩:=hs.uniq hs';exact absurd (hc'.symm.trans hc) hx'
  | ok l' hs' hr' hc' hx' hL' =>
   obtain ⟨_,rfl⟩:=hs.uniq hs';exact ⟨by rw [hx,hx'],by rw [hL,hL']⟩
def Stp (d:Nat) (s s':PS):Prop:=s'.toks.length<=s.toks.length/\(s.x≠0->s'=s)/\(s'.x=0->s.x=0/\s'.toks.length+d<=s.toks.length)/\s'.L=s.L
theorem Stp.refl (s:PS):Stp 0 s s:=⟨Qr,fun _=>rfl,fun h=>⟨h,Qr⟩,rfl⟩
theorem Stp.trans {d e:Nat}{a b c:PS}(h:Stp d a b) (k:Stp e b c):Stp (d+e) a c :=
 ⟨Nat.le_trans k.1 h.1,fun f=>by have:=h.2.1 f;subst this;exact k.2.1 f,fun f=>by
  obtain ⟨i,j⟩:=k.2.2.1 f;obtain ⟨g,l⟩:=h.2.2.1 i
  exact ⟨g,by omega⟩,k.2.2.2.trans h.2.2.2⟩
theorem Stp.mono {d e:Nat}{a b:PS}(h:Stp d a b) (f:e<=d):Stp e a b:=⟨h.1,h.2.1,fun c=>⟨(h.2.2.1 c).1,by have:=(h.2.2.1 c).2;omega⟩,h.2.2.2⟩
theorem Stp.sameL {d:Nat}{s a:PS}(h:Stp d s a):a.L=s.L:=h.2.2.2
theorem eX (s:PS) (e:Int) (b:e≠0) (d:Nat):Stp d s (s.fail e):=by
 unfold PS.fail;split
 ·rename_i a
  exact ⟨Qr,fun h=>absurd a h,fun h=>absurd h b,rfl⟩
 rename_i a;exact ⟨Qr,fun _=>rfl,fun h=>absurd h a,rfl⟩
theorem next_cases (s:PS) (k:Nat):(∃ t r,s.x=0/\s.toks=t::r/\t.kind=k/\s.next k=(some t.text,s))\/(∃ s',s.next k=(none,s')/\∀ d,Stp d s s'):=by
 unfold PS.next;split
 ·rename_i a
  exact .inr ⟨s,rfl,fun d=>⟨Qr,fun _=>rfl,fun h=>absurd h a,rfl⟩⟩
 rename_i a;have a:s.x=0:=by simpa using a
 split
 ·exact .inr ⟨_,rfl,fun d=>⟨Qr,fun h=>absurd a h,fun h=>absurd (show (18:Int)=0 from h) (by decide),rfl⟩⟩
 rename_i t r e;split
 ·rename_i b
  exact .inl ⟨t,r,a,e,b,rfl⟩
 exact .inr ⟨_,rfl,fun d=>⟨Qr,fun h=>absurd a h,fun h=>absurd (show (2:Int)=0 from h) (by decide),rfl⟩⟩
theorem lh {s:PS}{t:Tkn}{r:List Tkn}(a:s.x=0) (e:s.toks=t::r):Stp 1 s s.drop1:=by
 refine ⟨?_,fun h=>absurd a h,fun _=>⟨a,?_⟩,rfl⟩
 ·show (s.toks.drop 1).length<=_
  simp
 show (s.toks.drop 1).length+1<=_;rw [e];simp
theorem aV (s:PS):Stp 1 s s.word.2:=by
 unfold PS.word;rcases next_cases s 0 with ⟨t,r,b,e,_,h⟩ | ⟨c,h,a⟩
 ·rw [h];exact lh b e
 rw [h];exact a 1
theorem aY (s:PS) (k:Nat) (t:List UInt8):Stp 1 s (s.expect k t):=by
 unfold PS.expect;rcases next_cases s k with ⟨c,r,b,e,_,h⟩ | ⟨d,h,a⟩
 ·rw [h]
  show Stp 1 s (if c.text=t then s.drop1 else s.fail 2);split
  ·exact lh b e
  exact eX s 2 (by decide) 1
 rw [h];exact a 1
theorem mX (s:PS):Stp 1 s s.number.2:=by
 unfold PS.number;rcases next_cases s 1 with ⟨d,r,c,e,_,h⟩ | ⟨f,h,b⟩
 ·rw [h]
  show Stp 1 s (if valX d.text≠0 then _ else _:Rat × PS).2;split
  ·rename_i a
   exact eX s _ a 1
  exact lh c e
 rw [h];exact b 1
theorem ke (s:PS):Stp 4 s s.mark.2:=(((aV s).trans (mX _)).trans (mX _)).trans (aY _ _ _)
theorem gF {s:PS}(h:∀ t∈s.toks,NmL t.text):NmL s.word.1:=by
 unfold PS.word;rcases next_cases s 0 with ⟨t,r,c,e,_,a⟩ | ⟨b,a,_⟩
 ·rw [a];exact h t (by rw [e];simp)
 rw [a];show ([]:List UInt8).length<_;decide
theorem pV {f:Nat}{s:PS}{l:List MarkL}(h:s.x≠0):PS.marks f s l=(l,s):=by
 cases f
 ·rfl
 exact if_pos h
theorem iT {f:Nat}{s:PS}{l:List MarkL}(b:0<f) (h:s.x=0) (a:s.signHead=true):PS.marks f s l=(l,s.expect 2 [125]):=by
 obtain ⟨f,rfl⟩:∃ g,f=g+1:=⟨f-1,by omega⟩;show (if s.x≠0 then _ else if s.signHead then _ else _)=_;rw [if_neg (by simp [h]),if_pos a]
theorem eY {f:Nat}{s:PS}{l:List MarkL}(b:0<f) (h:s.x=0) (a:s.signHead=false):PS.marks f s l=PS.marks (f-1) s.mark.2 (l++[s.mark.1]):=by
 obtain ⟨f,rfl⟩:∃ g,f=g+1:=⟨f-1,by omega⟩;show (if s.x≠0 then _ else if s.signHead then _ else _)=_;rw [if_neg (by simp [h]),if_neg (by simp [a])];rfl
theorem oT:∀ (f:Nat) (s:PS) (l:List MarkL),Stp 0 s (PS.marks f s l).2
 | 0,s,_=>Stp.refl s
 | f+1,s,l=>by
  by_cases h:s.x=0
  ·cases hs:s.signHead
   ·rw [eY (by omega) h hs]
    exact ((ke s).trans (oT f _ _)).mono (by omega)
   rw [iT (by omega) h hs];exact (aY _ _ _).mono (by omega)
  rw [pV h];exact Stp.refl s
theorem rT (s:PS):Stp 2 s s.body.2:=(((aV s).trans (aY _ _ _)).trans (oT _ _ _)).mono (by omega)
theorem iU (s:PS) (only:Int):Stp 1 s (s.named only).2:=by
 unfold PS.named;simp only;split
 ·rename_i a
  exact aV s
 split
 ·split
  ·exact ((aV s).trans (eX _ 7 (by decide) 0)).mono (by omega)
  exact aV s
 exact ((aV s).trans (eX _ 5 (by decide) 0)).mono (by omega)
theorem dl (s:PS) (only:Int):Stp 3 s (s.full only).2.2:=by
 have h:=((iU s only).trans (aY _ 2 [46])).trans (aV _);unfold PS.full;simp only;split
 ·exact h
 split
 ·exact h
 exact (h.trans (eX _ 5 (by decide) 0)).mono (by omega)
theorem iV {s:PS}(h:s.word.1≠[]):s.word.2.toks.length+1=s.toks.length/\s.x=0:=by
 unfold PS.word at h ⊢;rcases next_cases s 0 with ⟨t,r,b,e,_,a⟩ | ⟨c,a,_⟩
 ·rw [a]
  refine ⟨?_,b⟩;show (s.toks.drop 1).length+1=_;rw [e];simp
 rw [a] at h;exact absurd rfl h
theorem oU:∀ (f:Nat) (s:PS) (l:List MarkL),(PS.marks f s l).1.length<=l.length+s.toks.length+(if s.x=0 then 1 else 0)
 | 0,s,l=>by
  show l.length<=_;omega
 | f+1,s,l=>by
  by_cases h:s.x=0
  ·cases hs:s.signHead
   ·rw [eY (by omega) h hs,if_pos h]
    have a:=oU f s.mark.2 (l++[s.mark.1]);have b:=ke s;rw [List.length_append,List.length_singleton] at a;show (PS.marks f s.mark.2 _).1.length<=_;by_cases hx:s.mark.2.x=0
    ·have:=(b.2.2.1 hx).2
     rw [if_pos hx] at a;omega
    have:=b.1;rw [if_neg hx] at a;omega
   rw [iT (by omega) h hs];show l.length<=_;omega
  rw [pV h];show l.length<=_;omega
theorem zp (s:PS):s.body.1.pts.length<=s.toks.length+1:=by
 have h:=oU (s.toks.length+1) (s.word.2.expect 2 [123]) [];have a:=((aV s).trans (aY s.word.2 2 [123])).1;show (PS.marks (s.toks.length+1) (s.word.2.expect 2 [123]) []).1.length<=_;simp only [List.length_nil,Nat.zero_add] at h;split at h <;> omega
theorem zq {l:List BodyL}{nm:List UInt8}{i:Nat}(h:js l nm=some i):i<l.length:=by
 unfold js at h;exact (List.findIdx?_eq_some_iff_findIdx_eq.1 h).1
theorem zr (s:PS) (only:Int) (h:(s.named only).2.x=0):∃ i:Nat,(s.named only).1=(i:Int)/\i<s.L.bodies.length:=by
 have b:=(aV s).2.2.2;unfold PS.named at h ⊢;simp only at h ⊢;split at h
 ·rename_i a;exact absurd h a
 rename_i a;rw [if_neg a];split at h
 ·rename_i i c
  exact ⟨i,rfl,by rw [<- b];exact zq c⟩
 rename_i d;have:(s.word.2.fail 5).x≠0:=by unfold PS.fail;rw [if_pos (by simpa using a)];show (5:Int)≠0;decide
 exact absurd h this
theorem oV (s:PS) (b:Bool):(s.joint b).toks.length<=s.toks.length/\((s.joint b).x=0->s.x=0):=by
 have g:=aV s;have c:=dl s.word.2 (-1);unfold PS.joint;cases b
 ·simp only [Bool.false_eq_true,if_false]
  generalize s.word.2.full (-1)=fa at c ⊢;have a:=dl fa.2.2 (-1);generalize fa.2.2.full (-1)=fb at a ⊢;have h:=((g.trans c).trans a).trans (aY fb.2.2 2 [59]);exact ⟨h.1,fun d=>(h.2.2.1 d).1⟩
 simp only [if_true];generalize s.word.2.full (-1)=fa at c ⊢;have a:=dl fa.2.2 (-1);generalize fa.2.2.full (-1)=fb at a ⊢;have f:=dl fb.2.2 fb.1;generalize fb.2.2.full fb.1=ft at f ⊢;have h:=(((g.trans c).trans a).trans f).trans (aY ft.2.2 2 [59]);exact ⟨h.1,fun d=>(h.2.2.1 d).1⟩
theorem tB (s:PS):s.driver.toks.length<=s.toks.length/\(s.driver.x=0->s.x=0):=by
 have h:=((aV s).trans (iU _ (-1))).trans (aY _ 2 [59]);unfold PS.driver;exact ⟨h.1,fun a=>(h.2.2.1 a).1⟩
theorem rU (s:PS):s.item.toks.length<=s.toks.length/\(s.item.x=0->s.item.toks.length+1<=s.toks.length):=by
 have hw:=aV s
 have key:∀ a:PS,a.toks.length<=s.word.2.toks.length->(a.x=0->s.word.2.x=0)->a.toks.length<=s.toks.length/\(a.x=0->a.toks.length+1<=s.toks.length):=by
  intro a d c;refine ⟨Nat.le_trans d hw.1,fun b=>?_⟩;have:=(hw.2.2.1 (c b)).2;omega
 unfold PS.item;split
 ·have h:=rT s.word.2
  exact key _ h.1 (fun b=>(h.2.2.1 b).1)
 split
 ·have h:=oV s.word.2 false
  exact key _ h.1 h.2
 split
 ·have h:=oV s.word.2 true
  exact key _ h.1 h.2
 split
 ·have h:=tB s.word.2
  exact key _ h.1 h.2
 have h:=eX s.word.2 2 (by decide) 0;exact key _ h.1 (fun b=>(h.2.2.1 b).1)
theorem oW {f:Nat}{s:PS}(h:¬ (s.x=0/\s.toks≠[])):PS.items f s=s:=by
 cases f
 ·rfl
 exact if_neg h
theorem mY {f:Nat}{s:PS}(a:0<f) (h:s.x=0/\s.toks≠[]):PS.items f s=PS.items (f-1) s.item:=by
 obtain ⟨f,rfl⟩:∃ g,f=g+1:=⟨f-1,by omega⟩;exact if_pos h
def dZ (w:World) (g0:Nat):Prop:=∀ o v,w.cell? ⟨g0,o,none⟩=some v->v=aa []\/v=.slice none 0 0\/v=.bool false
def Off (g0:Nat) (w w':World):Prop:=(∀ g,g≠g0->w'.heap[g]?=w.heap[g]?)/\w'.heap.size=w.heap.size
theorem Off.refl (a:Nat) (w:World):Off a w w:=⟨fun _ _=>rfl,rfl⟩
theorem Off.set {a:Nat}{w b:World}(h:Off a w b) (i:Nat) (u:Value):Off a w (b.setCell ⟨a,i,none⟩ u) :=
 ⟨fun g c=>(Below.heap_setCell b ⟨a,i,none⟩ u g c).trans (h.1 g c),by simp [World.setCell,h.2]⟩
section
variable {g0:Nat}{w w':World}
theorem dZ.str {g o:Nat}{s:List UInt8}(z:dZ w g0) (h:w.cell? ⟨g,o,none⟩=some (aa s)) (a:s≠[]):g≠g0:=by
 rintro rfl;rcases z o _ h with e | e | e
 ·injection e with e
  injection e with e;injection e with e;exact a e
 ·cases e
 cases e
theorem bV {g o:Nat}(a:g≠g0) (h:Off g0 w w'):w'.cell? ⟨g,o,none⟩=w.cell? ⟨g,o,none⟩:=by
 unfold World.cell?;rw [h.1 g a]
theorem Wd.off {A:Option Addr}{n c:Nat}{l:List Nat}(x:Wd w A n c l) (z:dZ w g0) (h:Off g0 w w'):Wd w' A n c l:=by
 refine ⟨x.1,x.2.1,x.2.2.1,fun i=>?_⟩;obtain ⟨g,o,cur,fr,e,b,f⟩:=x.2.2.2 i
 have a:g≠g0:=by
  rintro rfl;have d:=f 0 i;rw [<- b.cell] at d;rcases z _ _ d with e | e | e <;> cases e
 exact ⟨g,o,cur,fr,e,b.same (h.1 g a),f⟩
theorem QD.off {b:Bool}{A D:Option Addr}{n c m e k:Nat}{r:RD}(x:QD w b A n c D m e r k) (z:dZ w g0) (h:Off g0 w w'):QD w' b A n c D m e r k:=⟨x.1,x.2.1.off z h,x.2.2.1.off z h,x.2.2.2⟩
theorem cY.off {g o k:Nat}{r:RD}(a:g≠g0) (x:cY w g o r k) (z:dZ w g0) (h:Off g0 w w'):cY w' g o r k:=by
 obtain ⟨b,A,n,c,D,m,e,i,d,j,f⟩:=x;exact ⟨b,A,n,c,D,m,e,(bV a h).trans i,(bV a h).trans d,(bV a h).trans j,f.off z h⟩
theorem cT.off {g o k:Nat}{m:MarkL}(b:m.name≠[]) (x:cT k w g o m) (z:dZ w g0) (h:Off g0 w w'):cT k w' g o m:=by
 have a:=z.str x.1 b;exact ⟨(bV a h).trans x.1,x.2.1.off a z h,x.2.2.1.off a z h,x.2.2.2⟩
theorem SlS.off {α:Type}{P:World->Nat->Nat->α->Prop}{s:Nat}{A:Option Addr}{n c:Nat}{l:List α}(x:SlS P s w A n c l) (k:∀ g o a,a∈l->P w g o a->P w' g o a) (h:Off g0 w w'):SlS P s w' A n c l:=by
 refine ⟨x.1,x.2.1,fun j=>?_⟩;obtain ⟨g,o,e,d,f⟩:=x.2.2 j;exact ⟨g,o,e,by rw [h.2];exact d,fun i a b=>k _ _ _ (List.mem_of_getElem? b) (f i a b)⟩
theorem SlS.offM {k:Nat}{A:Option Addr}{n c:Nat}{l:List MarkL}(b:∀ m∈l,m.name≠[]) (x:SlS (cT k) 7 w A n c l) (z:dZ w g0) (h:Off g0 w w'):SlS (cT k) 7 w' A n c l:=x.off (fun _ _ a d y=>y.off (b a d) z h) h
theorem dV.off {g o k:Nat}{b:BodyL}(hb:b.name≠[]) (f:∀ m∈b.pts,m.name≠[]) (x:dV k w g o b) (z:dZ w g0) (h:Off g0 w w'):dV k w' g o b:=by
 obtain ⟨A,n,c,a,i,l,j⟩:=x;have d:=z.str a hb;exact ⟨A,n,c,(bV d h).trans a,(bV d h).trans i,l.offM f z h,j⟩
theorem ic.off {g o:Nat}{j:aD}(b:j.name≠[]) (x:ic w g o j) (z:dZ w g0) (h:Off g0 w w'):ic w' g o j:=by
 have a:=z.str x.1 b;exact ⟨(bV a h).trans x.1,(bV a h).trans x.2.1,(bV a h).trans x.2.2.1,(bV a h).trans x.2.2.2.1,(bV a h).trans x.2.2.2.2.1,(bV a h).trans x.2.2.2.2.2.1,(bV a h).trans x.2.2.2.2.2.2.1,x.2.2.2.2.2.2.2⟩
theorem ig.off {g o:Nat}{d:aE}(hd:d.name≠[]) (x:ig w g o d) (z:dZ w g0) (h:Off g0 w w'):ig w' g o d:=by
 have a:=z.str x.1 hd;exact ⟨(bV a h).trans x.1,(bV a h).trans x.2.1,x.2.2⟩
structure EW (L:ag):Prop where
  bodies:∀ b∈L.bodies,b.name≠[]/\∀ m∈b.pts,m.name≠[]
  joints:∀ j∈L.joints,j.name≠[]
  drivers:∀ d∈L.drivers,d.name≠[]
theorem LkS.off {k:Nat}{A B C:Option Addr}{n c p d q e:Nat}{L:ag}(f:EW L) (x:LkS k w A n c B p d C q e L) (z:dZ w g0) (h:Off g0 w w'):LkS k w' A n c B p d C q e L :=
 ⟨x.name,x.bodies.off (fun _ _ a b y=>y.off (f.bodies a b).1 (f.bodies a b).2 z h) h,x.joints.off (fun _ _ a b y=>y.off (f.joints a b) z h) h,x.drivers.off (fun _ _ a b y=>y.off (f.drivers a b) z h) h⟩
theorem Blk.zero {g t:Nat}{cs:Array Value}(x:Blk w g t cs) (h:cs.toList.all (fun v=>match v with | .string s=>s.data.isEmpty | .slice none 0 0=>true | .bool false=>true | _=>false)=true):dZ w g:=by
 intro o v a;rw [x.cell] at a;have b:v∈cs.toList:=by rw [Array.mem_toList_iff];exact Array.mem_of_getElem? a
 have:=List.all_eq_true.1 h v b;split at this
 ·rename_i s
  left;obtain ⟨d⟩:=s;have e:d=#[]:=by simpa using this
  subst e;rfl
 ·exact .inr (.inl rfl)
 ·exact .inr (.inr rfl)
 cases this
end
def OwJ (J:Value->Bool) (w:World) (base:Nat) (e:TypeId) (size:Nat) (v:Value) (n:Nat) (xs:List Value):Prop :=
  xs.length=n*size /\
  ((v=.slice none 0 0/\n=0) \/
   ∃ g cap cur,v=.slice (some ⟨g,0,none⟩) n cap/\base<=g/\w.heap[g]?=some (.cells cur e (0,0))/\n<=cap/\cap<=maxLen/\cur.size=cap*size/\cur.toList.take (n*size)=xs/\cur.toList.all J=true)
theorem OwJ.nil (J:Value->Bool) (w:World) (base:Nat) (e:TypeId) (size:Nat):OwJ J w base e size (.slice none 0 0) 0 []:=⟨by simp,.inl ⟨rfl,rfl⟩⟩
section
variable {J:Value->Bool}{w w':World}{base:Nat}{e:TypeId}{size:Nat}{v:Value}{n:Nat}{xs:List Value}
theorem OwJ.belw (h:OwJ J w base e size v n xs) (hb:Below w.heap.size w w'):OwJ J w' base e size v n xs:=by
 refine ⟨h.1,?_⟩;rcases h.2 with a | ⟨g,cap,cur,a,c,b,d⟩
 ·exact .inl a
 exact .inr ⟨g,cap,cur,a,c,(hb.block g (lt_of_block b)).trans b,d⟩
theorem OwJ.own (h:OwJ J w base e size v n xs):w.ownsRow base e size v n xs:=by
 refine ⟨h.1,?_⟩;rcases h.2 with a | ⟨g,cap,cur,a,c,j,d,f,b,i,_⟩
 ·exact .inl a
 exact .inr ⟨g,cap,cur,a,c,j,d,f,b,i⟩
theorem OwJ.at_ (h:OwJ J w base e size v n xs) {g:Nat}(a:v.ownBlock=some g):base<=g/\∃ cur,w.heap[g]?=some (.cells cur e (0,0))/\cur.toList.all J=true:=by
 rcases h.2 with ⟨rfl,_⟩ | ⟨f,cap,cur,rfl,c,d,_,_,_,_,b⟩
 ·cases a
 injection a with a;subst a;exact ⟨c,cur,d,b⟩
end
section
variable {P:Program}(w:World)
theorem zt {J:Value->Bool}{z:Array Value}(c:z.toList.all J=true) (d:0<z.size) (n:Nat):(Builtin.zeroCells z n).toList.all J=true:=by
 rw [List.all_eq_true] at c ⊢;intro x b;unfold Builtin.zeroCells at b;rw [Array.mem_toList_iff,Array.mem_map] at b;obtain ⟨i,_,rfl⟩:=b;have a:=Nat.mod_lt i d;rw [getElem!_pos z _ a];exact c _ (by simp)
theorem kf (J:Value->Bool) (base:Nat) (t G e:TypeId) (i:TypeInfo) (z:Value) (size bytes:Nat) (K:P.underlying t=some (.slice e)) (Q:P.info? e=some i) (V:i.zero=some z)
 (r:i.size=size) (M:i.bytes=bytes) (R:z.cells.size=size) (Y:0<size) (S:z.cells.toList.all J=true)
 (v:Value) (n:Nat) (q:List Value) (b:OwJ J w base e size v n q)
 (a:Addr) (m c:Nat) (news:List Value) (A:news.length=m*size) (f:∀ j u,news[j]?=some u->w.cell? (a.add j)=some u) (X:∀ u∈news,u.oneCell'=true) (y:news.all J=true)
 (hm:0<m) (B:n+m<=maxLen) (l:(n+m)*bytes<=140737488355328) (s:base<=w.heap.size) :
 ∃ g cap w',(Builtin.append_ #[t,t] G #[v,.slice (some a) m c]).run P w=.ok (.slice (some ⟨g,0,none⟩) (n+m) cap) w'/\OwJ J w' base e size (.slice (some ⟨g,0,none⟩) (n+m) cap) (n+m) (q++news) /\
  w.grownBy w' v.ownBlock/\(v.ownBlock=some g\/g=w.heap.size):=by
 subst r
 subst M
 have F:n+m<=9223372036854775807:=by simp only [maxLen] at B;omega
 have h:(q++news).length=(n+m)*i.size:=by rw [List.length_append,b.1,A,Nat.add_mul]
 have fresh:∀ (old:Nat),q.all J=true ->
  OwJ J (w.drew.alloc (.cells (q.toArray++news.toArray++Builtin.zeroCells z.cells (grownCap w (n+m) old e-(n+m))) e)) base e i.size (.slice (some ⟨w.heap.size,0,none⟩) (n+m) (grownCap w (n+m) old e)) (n+m) (q++news):=by
  intro old d;have H:=grownCap_ge w (n+m) old e;refine ⟨h,.inr ⟨w.heap.size,_,_,rfl,s,heap_alloc_new w.drew _,H,grownCap_le_maxLen w (n+m) old e B,?_,?_,?_⟩⟩
  ·simp only [Array.size_append,List.size_toArray,size_zeroCells,R,b.1,A,<- Nat.add_mul]
   congr 1;omega
  ·simp only [Array.toList_append,List.append_assoc]
   rw [<- List.append_assoc,<- h];exact List.take_left
  simp only [Array.toList_append,List.all_append,d,y,Bool.true_and];exact zt S (by omega) _
 have T:∀ (o:Obj) (row:Option Nat),w.grownBy (w.drew.alloc o) row:=fun o row=>⟨rfl,rfl,rfl,by simp,fun k L _=>Below.heap_alloc w.drew o k L⟩
 rcases b.2 with ⟨rfl,rfl⟩ | ⟨g,cap,cur,rfl,N,U,Z,I,O,p,E⟩
 ·have d:q=[]:=List.eq_nil_of_length_eq_zero (by simpa using b.1)
  subst d;have D:=run_append_nil (P:=P) w t G e i z K Q V a m c news A f (by omega) (by omega) (by have hb:=l;simp only [Nat.zero_add] at hb;omega);have W:=fresh 0 rfl;simp only [Nat.zero_add,List.nil_append,Array.empty_append] at W ⊢;exact ⟨_,_,_,D,W,T _ _,.inr rfl⟩
 by_cases hroom:n+m<=cap
 ·have C:n*i.size+news.length<=cur.size:=by rw [A,O,<- Nat.add_mul];exact Nat.mul_le_mul_right _ hroom
  have D:=run_append_room (P:=P) w t G e i K Q g n cap cur U a m c news A f X hroom C;refine ⟨g,cap,_,D,⟨h,.inr ⟨g,cap,_,rfl,N,setRow_heap w g cur _ e _ U,hroom,I,?_,?_,?_⟩⟩,⟨rfl,rfl,rfl,by simp,fun k _ L=>setRow_other w g k _ (fun e=>L (by simp [Value.ownBlock,e]))⟩,.inl rfl⟩
  ·simp only [List.size_toArray,List.length_append,List.length_take,List.length_drop,Array.length_toList]
   omega
  ·rw [p,<- h]
   exact List.take_left
  rw [List.all_eq_true] at E y ⊢;intro x d;rcases List.mem_append.1 d with d | d
  ·rcases List.mem_append.1 d with d | d
   ·exact E x (List.mem_of_mem_take d)
   exact y x d
  exact E x (List.mem_of_mem_drop d)
 have holds:∀ j u,q[j]?=some u->w.cell? ((⟨g,0,none⟩:Addr).add j)=some u:=b.own.cells (g:=g) rfl;have D:=run_append_grow (P:=P) w t G e i z K Q V ⟨g,0,none⟩ n cap q b.1 holds a m c news A f (by omega) (by omega) (growslice_fits (by omega) l);exact ⟨_,_,_,D,fresh cap (by rw [List.all_eq_true] at E ⊢;intro x d;rw [<- p] at d;exact E x (List.mem_of_mem_take d)),T _ _,.inr rfl⟩
theorem ce {ops:Array Oper}{rest:List Oper}{o:Oper}{a:Act}{Q:Exit->Act->World->Prop}(q:o.guard=none) (J:Value->Bool) (s x:Operand) (t:TypeId)
 (N:o.op=.call { callee:=.builtin .append,args:=#[s,x],argTypes:=#[t,t] })
 (base:Nat) (e:TypeId) (i:TypeInfo) (z:Value) (size bytes:Nat) (H:P.underlying t=some (.slice e)) (U:P.info? e=some i) (M:i.zero=some z)
 (d:i.size=size) (C:i.bytes=bytes) (E:z.cells.size=size) (A:0<size) (F:z.cells.toList.all J=true)
 (v:Value) (n:Nat) (D:List Value) (T:a.eval s=v) (l:OwJ J w base e size v n D)
 (B:Addr) (m c:Nat) (news:List Value) (V:a.eval x=.slice (some B) m c) (O:news.length=m*size) (k:∀ j u,news[j]?=some u->w.cell? (B.add j)=some u) (L:∀ u∈news,u.oneCell'=true) (r:news.all J=true)
 (W:0<m) (y:n+m<=maxLen) (b:(n+m)*bytes<=140737488355328) (f:base<=w.heap.size)
 (h:∀ g cap p,OwJ J p base e size (.slice (some ⟨g,0,none⟩) (n+m) cap) (n+m) (D++news)->w.grownBy p v.ownBlock->(v.ownBlock=some g\/g=w.heap.size)->wpList P ops Q rest (a.put o.dst (.slice (some ⟨g,0,none⟩) (n+m) cap)) p):wpList P ops Q (o::rest) a w :=
 wpList_plain q fun _ K=>by
  obtain ⟨g,cap,p,R,G,S,I⟩:=kf (P:=P) w J base t o.type e i z size bytes H U M d C E A F v n D l B m c news O k L r W y b f;unfold Oper.wp execOp;simp only [N,resolve,invoke,builtin,Sem.run_bind,Sem.run_pure,Result.andThen_ok,List.map_toArray,List.map_cons,List.map_nil,T,V,R];exact K _ _ (h g cap p G S I)
theorem cA {o:Oper}{a:Act}{K:Act->World->Prop}{Q:Exit->Act->World->Prop}(J:Value->Bool) (s x:Operand) (t:TypeId)
 (L:o.op=.call { callee:=.builtin .append,args:=#[s,x],argTypes:=#[t,t] })
 (base:Nat) (e:TypeId) (i:TypeInfo) (z:Value) (size bytes:Nat) (G:P.underlying t=some (.slice e)) (O:P.info? e=some i) (I:i.zero=some z)
 (d:i.size=size) (C:i.bytes=bytes) (A:z.cells.size=size) (y:0<size) (E:z.cells.toList.all J=true)
 (v:Value) (n:Nat) (D:List Value) (U:a.eval s=v) (l:OwJ J w base e size v n D)
 (r:Addr) (m c:Nat) (news:List Value) (R:a.eval x=.slice (some r) m c) (M:news.length=m*size) (f:∀ j u,news[j]?=some u->w.cell? (r.add j)=some u) (S:∀ u∈news,u.oneCell'=true) (B:news.all J=true)
 (V:0<m) (q:n+m<=maxLen) (b:(n+m)*bytes<=140737488355328) (k:base<=w.heap.size)
 (h:∀ g cap p,OwJ J p base e size (.slice (some ⟨g,0,none⟩) (n+m) cap) (n+m) (D++news)->w.grownBy p v.ownBlock->(v.ownBlock=some g\/g=w.heap.size)->K (a.put o.dst (.slice (some ⟨g,0,none⟩) (n+m) cap)) p):o.wp P a w K Q:=by
 obtain ⟨g,cap,p,T,F,N,H⟩:=kf (P:=P) w J base t o.type e i z size bytes G O I d C A y E v n D l r m c news M f S B V q b k;unfold Oper.wp execOp;simp only [L,resolve,invoke,builtin,Sem.run_bind,Sem.run_pure,Result.andThen_ok,List.map_toArray,List.map_cons,List.map_nil,U,R,T];exact h g cap p F N H
end
/-! What touches blocks of certain types only. -/
def isU (v:Value):Bool:=match v with | .int .u32 _=>true | _=>false
def noW (v:Value):Bool:=!isU v
def Tch (T:TypeId->Bool) (w w':World):Prop:=w.heap.size<=w'.heap.size/\∀ (g:Nat) cur t fr,w.heap[g]?=some (.cells cur t fr)->(T t=false\/cur.toList.all noW=false)->w'.heap[g]?=some (.cells cur t fr)
section
variable {T:TypeId->Bool}{w w' w2:World}
theorem Tch.refl (w:World):Tch T w w:=⟨Qr,fun _ _ _ _ h _=>h⟩
theorem Tch.trans (h:Tch T w w') (k:Tch T w' w2):Tch T w w2:=⟨Nat.le_trans h.1 k.1,fun g cur t fr x y=>k.2 g cur t fr (h.2 g cur t fr x y) y⟩
theorem Tch.below (h:Below w.heap.size w w'):Tch T w w':=⟨h.size,fun g _ _ _ x _=>(h.block g (lt_of_block x)).trans x⟩
theorem Tch.more (h:Tch T w w') (k:Below w'.heap.size w' w2):Tch T w w2:=h.trans (Tch.below k)
theorem Tch.mono {a:TypeId->Bool}(h:Tch T w w') (b:∀ t,T t=true->a t=true):Tch a w w':=⟨h.1,fun g cur t fr x y=>h.2 g cur t fr x (y.imp (fun h=>by cases e:T t;rfl;rw [b t e] at h;cases h) id)⟩
theorem Tch.of_ne {a:Nat}{cur:Array Value}{t:TypeId}{fr:Nat × Nat}(f:w.heap.size<=w'.heap.size) (d:w.heap[a]?=some (.cells cur t fr)) (b:T t=true) (j:cur.toList.all noW=true) (h:∀ g,g<w.heap.size->g≠a->w'.heap[g]?=w.heap[g]?):Tch T w w':=by
 refine ⟨f,fun g c k i x y=>?_⟩;by_cases e:g=a
 ·subst e
  rw [d] at x;injection x with x;injection x with x1 x2;subst x1 x2;rw [b,j] at y;rcases y with y | y <;> cases y
 rw [h g (lt_of_block x) e];exact x
theorem Tch.set {b:Nat}{cur:Array Value}{t:TypeId}(c:Blk w b t cur) (d:T t=true) (f:cur.toList.all noW=true) (i:Nat) (u:Value):Tch T w (w.setCell ⟨b,i,none⟩ u) :=
 Tch.of_ne (by simp [World.setCell]) c d f fun g _ a=>Below.heap_setCell w ⟨b,i,none⟩ u g a
theorem Tch.grown {J:Value->Bool}{base:Nat}{e:TypeId}{size:Nat}{v:Value}{n:Nat}{i:List Value}(k:∀ u,J u=true->noW u=true) (f:T e=true) (h:OwJ J w base e size v n i) (a:w.grownBy w' v.ownBlock):Tch T w w':=by
 cases hv:v.ownBlock with
 | none=>exact ⟨a.size,fun g _ _ _ x _=>(a.block g (lt_of_block x) (by rw [hv];simp)).trans x⟩
 | some g0 =>
  obtain ⟨_,cur,l,d⟩:=h.at_ hv;refine Tch.of_ne a.size l f ?_ fun g b c=>a.block g b (by rw [hv];simpa using c)
  rw [List.all_eq_true] at d ⊢;exact fun u j=>k u (d u j)
theorem Wd.tch {A:Option Addr}{n c:Nat}{l:List Nat}(x:Wd w A n c l) (h:Tch T w w'):Wd w' A n c l:=by
 refine ⟨x.1,x.2.1,x.2.2.1,fun b=>?_⟩;obtain ⟨g,o,cur,fr,e,⟨t,d,hb⟩,a⟩:=x.2.2.2 b;refine ⟨g,o,cur,fr,e,⟨t,d,h.2 g cur t fr hb (.inr ?_)⟩,a⟩;have f:=a 0 b;rw [List.all_eq_false];exact ⟨_,by rw [Array.mem_toList_iff];exact Array.mem_of_getElem? f,by simp [noW,isU]⟩
theorem QD.tch {b:Bool}{A D:Option Addr}{n c m e k:Nat}{r:RD}(x:QD w b A n c D m e r k) (h:Tch T w w'):QD w' b A n c D m e r k:=⟨x.1,x.2.1.tch h,x.2.2.1.tch h,x.2.2.2⟩
end
def SlT {α:Type}(T0:TypeId) (P:World->Nat->Nat->α->Prop) (s:Nat) (w:World) (A:Option Addr) (n c:Nat) (l:List α):Prop :=
  l.length=n/\n<=c/\(0<n->∃ g o cur fr,A=some ⟨g,o,none⟩/\w.heap[g]?=some (.cells cur T0 fr)/\∀ i a,l[i]?=some a->P w g (o+i*s) a)
theorem SlT.sl {α:Type}{T0:TypeId}{P b:World->Nat->Nat->α->Prop}{s:Nat}{w:World}{A:Option Addr}{n c:Nat}{l:List α}(h:SlT T0 P s w A n c l) (k:∀ g o a,P w g o a->b w g o a):SlS b s w A n c l:=by
 refine ⟨h.1,h.2.1,fun f=>?_⟩;obtain ⟨g,o,cur,fr,e,hb,d⟩:=h.2.2 f;exact ⟨g,o,e,lt_of_block hb,fun i a j=>k _ _ _ (d i a j)⟩
theorem SlT.nil {α:Type}(T0:TypeId) (P:World->Nat->Nat->α->Prop) (s:Nat) (w:World):SlT T0 P s w none 0 0 ([]:List α):=⟨rfl,Qr,fun h=>absurd h (by omega)⟩
section
variable {T:TypeId->Bool}{w w':World}
theorem SlT.tch {α:Type}{T0:TypeId}{P:World->Nat->Nat->α->Prop}{s:Nat}{A:Option Addr}{n c:Nat}{l:List α}(x:SlT T0 P s w A n c l) (h:Tch T w w') (d:T T0=false) (m:∀ g o a,w'.heap[g]?=w.heap[g]?->P w g o a->P w' g o a):SlT T0 P s w' A n c l:=by
 refine ⟨x.1,x.2.1,fun j=>?_⟩;obtain ⟨g,o,cur,fr,e,hb,f⟩:=x.2.2 j;have b:=h.2 g cur T0 fr hb (.inl d);exact ⟨g,o,cur,fr,e,b,fun i a k=>m _ _ _ (b.trans hb.symm) (f i a k)⟩
theorem iW {g o:Nat}(a:w'.heap[g]?=w.heap[g]?):w'.cell? ⟨g,o,none⟩=w.cell? ⟨g,o,none⟩:=by unfold World.cell?;rw [a]
theorem cY.tch {g o k:Nat}{r:RD}(a:w'.heap[g]?=w.heap[g]?) (h:Tch T w w') (x:cY w g o r k):cY w' g o r k:=by
 obtain ⟨b,A,n,c,D,m,e,i,d,j,f⟩:=x;exact ⟨b,A,n,c,D,m,e,(iW a).trans i,(iW a).trans d,(iW a).trans j,f.tch h⟩
theorem cT.tch {g o k:Nat}{m:MarkL}(a:w'.heap[g]?=w.heap[g]?) (h:Tch T w w') (x:cT k w g o m):cT k w' g o m :=
 ⟨(iW a).trans x.1,x.2.1.tch a h,x.2.2.1.tch a h,x.2.2.2⟩
abbrev nU (k:Nat) (w:World) (A:Option Addr) (n c:Nat) (l:List MarkL):Prop:=SlT 56 (cT k) 7 w A n c l
theorem nU.tch {k:Nat}{A:Option Addr}{n c:Nat}{l:List MarkL}(x:nU k w A n c l) (h:Tch T w w') (b:T 56=false):nU k w' A n c l:=SlT.tch x h b fun _ _ _ a p=>p.tch a h
end
/-! A thing's cells. -/
def MkC (k:Nat) (w:World) (cs:List Value) (m:MarkL):Prop:=∃ b A n c D m1 e b' A' n' c' D' m' e',cs=[aa m.name,.bool b,.slice A n c,.slice D m1 e,.bool b',.slice A' n' c',.slice D' m' e']/\QD w b A n c D m1 e m.x k/\QD w b' A' n' c' D' m' e' m.y k/\NmL m.name
def BdC (k:Nat) (w:World) (cs:List Value) (b:BodyL):Prop:=∃ A n c,cs=[aa b.name,.slice A n c]/\nU k w A n c b.pts/\NmL b.name
def JtC (_:World) (cs:List Value) (j:aD):Prop:=cs=[aa j.name,.int .i64 j.kind,.int .i64 j.a,.int .i64 j.point,.int .i64 j.b,.int .i64 j.on,.int .i64 j.to_]/\NmL j.name
def DrC (_:World) (cs:List Value) (d:aE):Prop:=cs=[aa d.name,.int .i64 d.body]/\NmL d.name
section
variable {T:TypeId->Bool}{w w':World}{k:Nat}{cs:List Value}
theorem MkC.tch {m:MarkL}(x:MkC k w cs m) (h:Tch T w w'):MkC k w' cs m:=by
 obtain ⟨b,A,n,c,D,i,e,g,s,a,f,o,p,r,j,q,d,l⟩:=x;exact ⟨b,A,n,c,D,i,e,g,s,a,f,o,p,r,j,q.tch h,d.tch h,l⟩
theorem BdC.tch {b:BodyL}(x:BdC k w cs b) (h:Tch T w w') (f:T 56=false):BdC k w' cs b:=by
 obtain ⟨A,n,c,d,g,a⟩:=x;exact ⟨A,n,c,d,g.tch h f,a⟩
theorem MkC.at_ {m:MarkL}{g o:Nat}(x:MkC k w cs m) (a:∀ j u,cs[j]?=some u->w.cell? ⟨g,o+j,none⟩=some u):cT k w g o m:=by
 obtain ⟨b,A,n,c,D,l,e,i,v,d,h,q,r,t,rfl,s,f,p⟩:=x;exact ⟨a 0 _ rfl,⟨b,A,n,c,D,l,e,a 1 _ rfl,a 2 _ rfl,a 3 _ rfl,s⟩,⟨i,v,d,h,q,r,t,a 4 _ rfl,a 5 _ rfl,a 6 _ rfl,f⟩,p⟩
theorem BdC.at_ {b:BodyL}{g o:Nat}(x:BdC k w cs b) (a:∀ j u,cs[j]?=some u->w.cell? ⟨g,o+j,none⟩=some u):dV k w g o b:=by
 obtain ⟨A,n,c,rfl,f,d⟩:=x;exact ⟨A,n,c,a 0 _ rfl,a 1 _ rfl,f.sl fun _ _ _ p=>p,d⟩
theorem JtC.at_ {j:aD}{g o:Nat}(x:JtC w cs j) (a:∀ i u,cs[i]?=some u->w.cell? ⟨g,o+i,none⟩=some u):ic w g o j:=by
 obtain ⟨rfl,b⟩:=x;exact ⟨a 0 _ rfl,a 1 _ rfl,a 2 _ rfl,a 3 _ rfl,a 4 _ rfl,a 5 _ rfl,a 6 _ rfl,b⟩
theorem DrC.at_ {d:aE}{g o:Nat}(x:DrC w cs d) (a:∀ i u,cs[i]?=some u->w.cell? ⟨g,o+i,none⟩=some u):ig w g o d:=by
 obtain ⟨rfl,b⟩:=x;exact ⟨a 0 _ rfl,a 1 _ rfl,b⟩
end
def co {α:Type}(Pc:World->List Value->α->Prop) (s:Nat) (w:World) (l:List α) (xs:List Value):Prop :=
  ∃ css:List (List Value),xs=css.flatten/\css.length=l.length/\(∀ cs∈css,cs.length=s)/\∀ (i:Nat) a cs,l[i]?=some a->css[i]?=some cs->Pc w cs a
theorem kg {s:Nat}:∀ {a:List (List Value)}{i:Nat}{cs:List Value},(∀ x∈a,x.length=s)->a[i]?=some cs->∀ j,j<s->a.flatten[i*s+j]?=cs[j]?
 | [],i,cs,_,h,_,_=>by simp at h
 | x::a,0,cs,hl,h,j,hj=>by
  simp only [List.getElem?_cons_zero,Option.some.injEq] at h;subst h;have:=hl x (by simp);rw [List.flatten_cons,Nat.zero_mul,Nat.zero_add,List.getElem?_append_left (by omega)]
 | x::a,i+1,cs,hl,h,j,hj=>by
  have b:=hl x (by simp);rw [List.flatten_cons,List.getElem?_append_right (by rw [b,Nat.add_mul];omega),b,show (i+1)*s+j-s=i*s+j by rw [Nat.add_mul];omega];exact kg (fun y c=>hl y (by simp [c])) (by simpa using h) j hj
section
variable {α:Type}{Pc:World->List Value->α->Prop}{s:Nat}{w w':World}{l:List α}{xs:List Value}
theorem co.nil:co Pc s w ([]:List α) []:=by
 refine ⟨[],rfl,rfl,?_,?_⟩
 ·intro cs h;cases h
 intro i a cs h;simp at h
theorem co.snoc {a:α}{cs:List Value}(h:co Pc s w l xs) (o:Pc w cs a) (n:cs.length=s):co Pc s w (l++[a]) (xs++cs):=by
 obtain ⟨f,e,j,d,m⟩:=h;refine ⟨f++[cs],by simp [e],by simp [j],fun x c=>?_,fun i b p hb hd=>?_⟩
 ·rcases List.mem_append.1 c with c | c
  ·exact d x c
  simp at c;subst c;exact n
 rcases Nat.lt_or_ge i l.length with g | g
 ·rw [List.getElem?_append_left g] at hb
  rw [List.getElem?_append_left (by omega)] at hd;exact m i b p hb hd
 rw [List.getElem?_append_right g] at hb;rw [List.getElem?_append_right (by omega),j] at hd;rcases Nat.eq_zero_or_pos (i-l.length) with k | k
 ·rw [k] at hb hd
  simp at hb hd;subst hb hd;exact o
 rw [List.getElem?_eq_none (by simp;omega)] at hb;cases hb
theorem co.map_ {d:World}(h:co Pc s w l xs) (k:∀ cs a,Pc w cs a->Pc d cs a):co Pc s d l xs:=by
 obtain ⟨c,e,g,b,f⟩:=h;exact ⟨c,e,g,b,fun i a cs m j=>k _ _ (f i a cs m j)⟩
end
def aq {α:Type}(T0:TypeId) (Pc:World->List Value->α->Prop) (s:Nat) (w:World) (base:Nat) (v:Value) (n:Nat) (l:List α):Prop:=l.length=n/\∃ xs,OwJ noW w base T0 s v n xs/\co Pc s w l xs
section
variable {α:Type}{T0:TypeId}{Pc:World->List Value->α->Prop}{s:Nat}{w w':World}{base:Nat}{v:Value}{n:Nat}{l:List α}
theorem aq.nil:aq T0 Pc s w base (.slice none 0 0) 0 ([]:List α):=⟨rfl,[],OwJ.nil _ _ _ _ _,co.nil⟩
theorem aq.form (h:aq T0 Pc s w base v n l):∃ A c,v=.slice A n c/\n<=c:=by
 obtain ⟨_,d,b,_⟩:=h;rcases b.2 with ⟨rfl,rfl⟩ | ⟨g,cap,cur,rfl,_,_,a,_⟩
 ·exact ⟨none,0,rfl,Qr⟩
 exact ⟨_,cap,rfl,a⟩
theorem aq.slT {P:World->Nat->Nat->α->Prop}{A:Option Addr}{c:Nat}(h:aq T0 Pc s w base (.slice A n c) n l) (C:∀ g o cs a,Pc w cs a->(∀ j u,cs[j]?=some u->w.cell? ⟨g,o+j,none⟩=some u)->P w g o a):SlT T0 P s w A n c l:=by
 obtain ⟨p,E,x,d,e,D,b,z⟩:=h;rcases x.2 with ⟨m,rfl⟩ | ⟨g,cap,cur,m,_,r,v,_,G,y,_⟩
 ·injection m with a1 _ a3
  subst a1 a3;exact ⟨p,Qr,fun h=>absurd h (by omega)⟩
 injection m with a1 _ a3;subst a1 a3;refine ⟨p,v,fun _=>⟨g,0,cur,_,rfl,r,fun i a t=>?_⟩⟩;have F:i<n:=by rw [<- p];exact (List.getElem?_eq_some_iff.1 t).1
 have f:d[i]?=some d[i]:=List.getElem?_eq_getElem (by omega);refine C _ _ _ _ (z i a _ t f) fun j u q=>?_
 have B:j<s:=by rw [<- b d[i] (List.getElem_mem _)];exact (List.getElem?_eq_some_iff.1 q).1
 have k:=kg b f j B;rw [q,<- e,<- y,List.getElem?_take] at k;split at k
 ·unfold World.cell?
  rw [r];simpa using k
 cases k
theorem aq.same (h:aq T0 Pc s w base v n l) (hb:∀ g cur,base<=g->w.heap[g]?=some (.cells cur T0 (0,0))->w'.heap[g]?=some (.cells cur T0 (0,0))) (k:∀ cs a,Pc w cs a->Pc w' cs a):aq T0 Pc s w' base v n l:=by
 obtain ⟨i,m,d,j⟩:=h;refine ⟨i,m,⟨d.1,?_⟩,j.map_ k⟩;rcases d.2 with b | ⟨g,cap,cur,b,c,o,f⟩
 ·exact .inl b
 exact .inr ⟨g,cap,cur,b,c,hb g cur c o,f⟩
theorem aq.tch {T:TypeId->Bool}(h:aq T0 Pc s w base v n l) (f:Tch T w w') (c:T T0=false) (b:∀ cs a,Pc w cs a->Pc w' cs a):aq T0 Pc s w' base v n l:=h.same (fun g cur _ d=>f.2 g cur T0 _ d (.inl c)) b
end
def fY (l:List (List UInt8)):List Value:=l.map aa
theorem EY (l:List UInt8):(⟨l.toArray⟩:ByteArray).data.toList=l:=by simp
theorem rV (w:World) (g cap n:Nat) (L:List (List UInt8)) (l:L.length=n) (a:∀ (j:Nat) x,L[j]?=some x->w.cell? ⟨g,j,none⟩=some (aa x)) (i:g<w.heap.size) (hN:n<=140737488355328) (c:n<=cap) (b:(gH L).length<=140737488355328) :
 Calls Tryz.prog 64 #[.slice (some ⟨g,0,none⟩) n cap,.string ⟨#[32]⟩] w (ax w (aa (gH L))):=by
 subst l
 have e:(L.map fun x=>(⟨x.toArray⟩:ByteArray)).map (·.data.toList)=L:=by
  rw [List.map_map]
  conv=>rhs;rw [<- List.map_id L]
  exact List.map_congr_left fun x _=>EY x
 have h:=Tryz.strings_Join g 0 cap (L.map fun x=>⟨x.toArray⟩) ⟨#[32]⟩ w (fun j x d=>by
  rw [List.getElem?_map,Option.map_eq_some_iff] at d;obtain ⟨y,f,rfl⟩:=d;rw [Nat.zero_add]
  exact a j y f) i (by rw [List.length_map];exact hN) (by rw [List.length_map];exact c) (by rw [e];show (Lib.join L [32]).length<=_;rw [rN];exact b)
 rw [List.length_map,e] at h;refine h.mono fun o m ⟨k,hb⟩=>⟨?_,hb⟩
 rw [k];show Ending.returned (.string ⟨(Lib.join L [32]).toArray⟩)=_;rw [rN]
theorem BQ (w:World) (s:List UInt8):Calls Tryz.prog 157 #[aa s,.string ⟨#[48]⟩] w (ax w (aa (s.dropWhile (· == 48)))):=by
 refine (Tryz.strings_TrimLeft_one ⟨s.toArray⟩ 48 (by decide) w).mono fun e b ⟨a,hw⟩=>⟨?_,hw ▸ ae _⟩
 rw [a];congr 2
theorem DF (w:World) (s:List UInt8) (m:Bool) (b:List UInt8) (a:cw s=m) (hb:bT s=b):Calls Tryz.prog 110 #[aa s,.string ⟨#[45]⟩] w (ax w (.tuple #[aa b,.bool m])):=by
 refine (Tryz.strings_CutPrefix ⟨s.toArray⟩ ⟨#[45]⟩ w).mono fun e g ⟨d,hw⟩=>⟨?_,hw ▸ ae _⟩
 rw [d];have c:Lib.hasPrefix s [45]=m:=(gX s).trans a;have f:Lib.trimPrefix s [45]=b:=(jS s).trans hb;show Ending.returned (.tuple #[.string ⟨(Lib.trimPrefix s [45]).toArray⟩,.bool (Lib.hasPrefix s [45])])=_;rw [c,f]
theorem EZ (w:World) (n:Nat) (f:n<=1000) (Z:List UInt8) (b:List.replicate n 48=Z):Calls Tryz.prog 112 #[.string ⟨#[48]⟩,.int .i64 (n:Nat)] w (ax w (aa Z)):=by
 refine (Tryz.strings_Repeat ⟨#[48]⟩ n w (by omega) (by show 1*n<=_;omega)).mono fun e d ⟨a,hb⟩=>⟨?_,hb⟩
 subst b;rw [a]
 have c:∀ k,Lib.repeatL [48] k=List.replicate k 48:=fun k=>by
  induction k with
  | zero=>rfl
  | succ k ih=>rw [Lib.repeatL,ih,List.replicate_succ];rfl
 exact congrArg (fun x:List UInt8=>Ending.returned (aa x)) (c n)
theorem uz (w:World) (T:List UInt8) (z:Int) (a:okZ T=true) (i:eT T=z) (d:T.length<=130):Calls Tryz.prog 113 #[aa T] w (jT w .nilIface z 130):=by
 subst i;exact (tc w T (by omega) a).mono fun e j ⟨b,A,n,c,g,f,h⟩=>⟨b,A,n,c,g,f.mono d,h⟩
theorem uB (w:World) (s t:List UInt8) (d:cV s=t):Calls Tryz.prog 114 #[aa s] w (ax w (aa t)):=by
 obtain ⟨u,g⟩:∃ u,s.dropWhile (· == 48)=u:=⟨_,rfl⟩;unfold cV at d;rw [g] at d;have f:=BQ w s;rw [g] at f;have f:=Qh f;by_cases c:u=[]
 ·subst c
  obtain rfl:[48]=t:=d;clear g;go_in;go_wp2_with fail;refine f.out.mono ?_;rintro e h ⟨rfl,a⟩;go_wp2;go_ret;exact ⟨rfl,a⟩
 obtain rfl:u=t:=by rw [if_neg c] at d;exact d
 obtain ⟨y,l,b⟩:=List.exists_cons_of_ne_nil c;have j:((⟨u.toArray⟩:ByteArray)==⟨#[]⟩)=false:=by rw [b];rfl
 have k:(u==[])=false:=by rw [b];rfl
 have i:(u=[])=False:=eq_false c;clear g b c;go_in;go_wp2_with fail;refine f.out.mono ?_;rintro e h ⟨rfl,a⟩;go_wp2;go_ret;exact ⟨rfl,a⟩
theorem nV (w:World) (s:List UInt8) (h:60<s.length):Calls Tryz.prog 78 #[aa s] w (jJ w (.iface 58 (.int .i64 4)) 0 1):=by
 have a:=aJ s;have b:((60:Int)<(s.length:Int))=True:=eq_true (by omega);go_in;go_wp2_with fail;refine bodyPost_ret (v:=.tuple #[.agg #[.bool false,.slice none 0 0,.slice none 0 0],.iface 58 (.int .i64 4)]) (by simp [results,Tryz.results78,go_sem, *] <;> trivial) rfl ?_;exact ⟨_,_,_,_,_,_,_,rfl,QV.zero _ _,((ae w).alloc (by first | omega | (simp <;> omega)) (.cells #[.bool false,.slice none 0 0,.slice none 0 0] 54))⟩
theorem rX (w:World) (s:List UInt8) (h:s.length<=60) (hb:s.length=0\/bJ s≠s.length):Calls Tryz.prog 78 #[aa s] w (jJ w (.iface 58 (.int .i64 2)) 0 1):=by
 have x:=aJ s;have y:((60:Int)<(s.length:Int))=False:=eq_false (by omega);obtain ⟨n,q⟩:∃ n,bJ s=n:=⟨_,rfl⟩;have z:n<=s.length:=by rw [<- q];exact pG s
 rw [q] at hb;by_cases u:n=0
 ·subst u
  clear hb;go_in;go_wp2_with fail;refine (cI _ (s) (by omega) 0 q).mono ?_;rintro e r ⟨rfl,b⟩;have q1:=b.q1;have a:Blk r w.heap.size 54 #[.bool false,.slice none 0 0,.slice none 0 0]:=(ak _ _ _ (by simp)).below b (by simp);have c:=(ae w).trans (q1.mono (ae w).size);have t:=b.l1;clear q1;obtain ⟨f,g,o⟩:=a.c3;obtain ⟨k,j,d⟩:=a.f3;obtain ⟨i,l,m,p⟩:=jh a.lt;go_wp2_with fail;refine bodyPost_ret (v:=.tuple #[.agg #[.bool false,.slice none 0 0,.slice none 0 0],.iface 58 (.int .i64 2)]) (by simp [results,Tryz.results78,go_sem, *] <;> trivial) rfl ?_;exact ⟨_,_,_,_,_,_,_,rfl,QV.zero _ _,(((c.sc w.heap.size 0 (by omega) (.bool false)).sc w.heap.size 1 (by omega) (.slice none 0 0)).sc w.heap.size 2 (by omega) (.slice none 0 0))⟩
 have B:((n:Int)==0)=false:=by simp;omega
 have A:((n:Int)=0)=False:=eq_false (by omega);have C:((n:Int)==(s.length:Int))=false:=by simp;omega
 clear hb u;go_in;go_wp2_with fail;refine (cI _ (s) (by omega) n q).mono ?_;rintro e r ⟨rfl,b⟩;have q1:=b.q1;have a:Blk r w.heap.size 54 #[.bool false,.slice none 0 0,.slice none 0 0]:=(ak _ _ _ (by simp)).below b (by simp);have c:=(ae w).trans (q1.mono (ae w).size);have t:=b.l1;clear q1;obtain ⟨f,g,o⟩:=a.c3;obtain ⟨k,j,d⟩:=a.f3;obtain ⟨i,l,m,p⟩:=jh a.lt;go_wp2_with fail;refine bodyPost_ret (v:=.tuple #[.agg #[.bool false,.slice none 0 0,.slice none 0 0],.iface 58 (.int .i64 2)]) (by simp [results,Tryz.results78,go_sem, *] <;> trivial) rfl ?_;exact ⟨_,_,_,_,_,_,_,rfl,QV.zero _ _,(((c.sc w.heap.size 0 (by omega) (.bool false)).sc w.heap.size 1 (by omega) (.slice none 0 0)).sc w.heap.size 2 (by omega) (.slice none 0 0))⟩
theorem zu:bo 8=.iface 58 (.int .i64 8):=if_neg (by decide)
inductive oX (z d x:Int) (q:Rat):Prop
  | zero (hd:d=0) (hx:x=8) (hq:q=0)
  | ok (hd:d≠0) (hx:x=0) (hq:Rat.divInt z d=q) (hs:Sz q 130)
def mZ (T:List UInt8) (z:Int):Prop:=okZ T=true/\eT T=z/\T.length<=130
theorem iX (w:World) (s:List UInt8) (m:Bool) (B NT DT TN TD:List UInt8) (C O x:Int) (q:Rat) (V:Mx w) (h:s.length<=60) (hp:0<s.length) (hn:bJ s=s.length) (hh:cw s=m/\bT s=B) (hB:B.length<=60) (a1 b1 Q A N1 D1:List UInt8) (f1 f2:Bool) (ad:Lib.cut B [47]=(a1,b1,f1)) (T:Lib.cut B [46]=(Q,A,f2)) (a6:Q.length+A.length<=60) (W:(if f1 then (a1,b1) else (B,[49]))=(N1,D1)) (R:(if f2 then (Q++A,49::List.replicate A.length 48) else (N1,D1))=(NT,DT)) (h1:cV NT=TN) (h2:mZ TN C) (l:cV DT=TD) (r:mZ TD O) (hq:oX (if m then -C else C) O x q) :
 Calls Tryz.prog 78 #[aa s] w (jJ w (bo x) q 130):=by
 have aT:=aJ s;have a0:((60:Int)<(s.length:Int))=False:=eq_false (by omega);have a5:((s.length:Int)==0)=false:=beq_eq_false_iff_ne.2 (by omega);have aS:((s.length:Int)=0)=False:=eq_false (by omega);have al:s.length<4611686018427387904:=by omega
 have HH:=Qh hh;have S:=Qh ad;have U:=Qh T;have E:=Qh W;have H:=Qh R;have H1:=Qh h1;have H2:=Qh h2;have H3:=Qh l;have H4:=Qh r;have HQ:=Qh hq;have HM:=Qh V;have HN:=Qh hn;clear hh ad T W R h1 h2 l r hq V hn;go_in;go_wp2_with fail;(refine (cI _ s al s.length HN.out).mono ?_);rintro e w1 ⟨rfl,N⟩;have q1:Below w.heap.size w w1:=((ae w).alloc Qr _).trans (N.mono (by simp));have a:Blk w1 w.heap.size 54 #[.bool false,.slice none 0 0,.slice none 0 0]:=(ak _ _ _ (by simp)).below N (by simp);clear N;go_wp2_with fail;(refine (DF _ s m B HH.out.1 HH.out.2).mono ?_);rintro e w2 ⟨rfl,J⟩;replace a:=a.b J;replace q1:=q1.trans (J.mono q1.size);clear J;go_wp2_with fail;(refine (CF _ B 47 a1 b1 f1 (HM.out.belw q1) (by omega) S.out).mono ?_);rintro e w3 ⟨rfl,K⟩;replace a:=a.b K;replace q1:=q1.trans (K.mono q1.size);clear K;go_upto_if 47 with fail;go_cut [7,8] (fun s7 s8 t=>s7=aa D1/\s8=aa N1/\w3=t)
 case first =>
  cases f1
  ·have e:=E.out
   simp only [Bool.false_eq_true,if_false,Prod.mk.injEq] at e;obtain ⟨rfl,rfl⟩:=e;go_wp2_with fail;go_meet;exact ⟨rfl,rfl,rfl⟩
  have e:=E.out;simp only [if_true,Prod.mk.injEq] at e;obtain ⟨rfl,rfl⟩:=e;go_wp2_with fail;go_meet;exact ⟨rfl,rfl,rfl⟩
 case rest =>
  obtain ⟨rfl,rfl,rfl⟩:=hcut;clear E S;go_wp2_with fail;(refine (CF _ B 46 Q A f2 (HM.out.belw q1) (by omega) U.out).mono ?_);rintro e w4 ⟨rfl,M⟩;replace a:=a.b M;replace q1:=q1.trans (M.mono q1.size);clear M;go_upto_if 56 with fail;go_cut [7,8] (fun s7 s8 t=>s7=aa DT/\s8=aa NT/\Blk t w.heap.size 54 #[.bool false,.slice none 0 0,.slice none 0 0]/\Below w.heap.size w t)
  case first =>
   cases f2
   ·have e:=H.out
    simp only [Bool.false_eq_true,if_false,Prod.mk.injEq] at e;obtain ⟨rfl,rfl⟩:=e;go_wp2_with fail;go_meet;exact ⟨rfl,rfl,a,q1⟩
   have e:=H.out;simp only [if_true,Prod.mk.injEq] at e;obtain ⟨rfl,rfl⟩:=e;obtain ⟨Z,hZ⟩:∃ Z:List UInt8,List.replicate A.length 48=Z:=⟨_,rfl⟩;have ao:Z.length=A.length:=by rw [<- hZ];simp
   have HZ:=Qh hZ;have a3:=cR Q A;have bb:=cR [49] Z;have a9:(9223372036854775807<Q.length+A.length)=False:=eq_false (by omega);have a4:(9223372036854775807<1+Z.length)=False:=eq_false (by omega);clear hZ ao;go_wp2_with fail;(refine (EZ _ A.length (by omega) Z HZ.out).mono ?_);rintro e w5 ⟨rfl,Y⟩;go_wp2_with fail;go_meet;exact ⟨by rw [HZ.out],rfl,a.below Y a.lt,q1.trans (Y.mono q1.size)⟩
  case rest =>
   clear a q1 H U;obtain ⟨rfl,rfl,a,q1⟩:=hcut;rename World=>w6;go_wp2_with fail;(refine (uB _ NT TN H1.out).mono ?_);rintro e w7 ⟨rfl,L⟩;replace a:=a.b L;replace q1:=q1.trans (L.mono q1.size);clear L;go_wp2_with fail;(refine (uz _ TN C H2.out.1 H2.out.2.1 H2.out.2.2).mono ?_);rintro e P ⟨b3,A3,n3,c3,rfl,l,G⟩;replace a:=a.b G;replace q1:=q1.trans (G.mono q1.size);clear G;go_upto_region 16 with fail;refine cQ ?_;intro w9 D;have q9:Below P.heap.size P w9:=by rw [D];exact (ae P).alloc Qr _
   have f:Blk w9 P.heap.size 134 #[.bool b3,.slice A3 n3 c3]:=by rw [D];exact Blk.new P _ _
   have l9:=a.lt;replace a:=a.b q9;replace l:=l.belw q9;replace q1:=q1.trans (q9.mono q1.size);obtain ⟨g,hg⟩:∃ g,P.heap.size=g:=⟨_,rfl⟩;rw [hg] at f l9 ⊢;clear D q9 hg;go_wp2_with fail;(refine (uB _ DT TD H3.out).mono ?_);rintro e a8 ⟨rfl,k⟩;replace a:=a.b k;replace f:=f.b k;replace l:=l.belw k;replace q1:=q1.trans (k.mono q1.size);clear k;go_wp2_with fail;(refine (uz _ TD O H4.out.1 H4.out.2.1 H4.out.2.2).mono ?_);rintro e o ⟨b4,A4,n4,c4,rfl,r,i⟩;replace a:=a.b i;replace f:=f.b i;replace l:=l.belw i;replace q1:=q1.trans (i.mono q1.size);clear i;go_upto_region 19 with fail;refine cQ ?_;intro ac u;have n:Below o.heap.size o ac:=by rw [u];exact (ae o).alloc Qr _
   have j:Blk ac o.heap.size 134 #[.bool b4,.slice A4 n4 c4]:=by rw [u];exact Blk.new o _ _
   have aC:=f.lt;replace a:=a.b n;replace f:=f.b n;replace l:=l.belw n;replace r:=r.belw n;replace q1:=q1.trans (n.mono q1.size);obtain ⟨g2,ab⟩:∃ g,o.heap.size=g:=⟨_,rfl⟩;rw [ab] at j aC ⊢;clear u n ab;go_upto_if 84 with fail;obtain ⟨zs,F⟩:∃ z,(if m then -C else C)=z:=⟨_,rfl⟩;rw [F] at HQ;have X:=Qh F;clear F;go_cut [] (fun t=>∃ b5 I n5 c5,Blk t w.heap.size 54 #[.bool false,.slice none 0 0,.slice none 0 0]/\Blk t g 134 #[.bool b5,.slice I n5 c5]/\Blk t g2 134 #[.bool b4,.slice A4 n4 c4]/\IZ t b5 I n5 c5 zs 130/\IZ t b4 A4 n4 c4 O 130/\Below w.heap.size w t)
   case first =>
    cases m
    ·obtain rfl:C=zs:=X.out
     go_wp2_with fail;go_meet;exact ⟨_,_,_,_,a,f,j,l.iz,r.iz,q1⟩
    obtain rfl:-C=zs:=X.out;have y:=f.v2;go_wp2_with fail;(refine (ud _ b3 A3 n3 c3 C 130 l.iz (by decide)).mono ?_);rintro e a7 ⟨b5,I,n5,c5,rfl,h5,d⟩;replace a:=a.b d;replace f:=f.b d;replace j:=j.b d;replace r:=r.belw d;replace q1:=q1.trans (d.mono q1.size);clear d y;have y:=f.v2;go_wp2_with fail;go_meet;have kp:=f.k2 (by decide) (.bool b5) (.slice I n5 c5);exact ⟨_,_,_,_,(a.far (p:=⟨g,0,none⟩) (by show w.heap.size≠g;omega) _).far (p:=⟨g,1,none⟩) (by show w.heap.size≠g;omega) _,(f.set_ 0 _).set_ 1 _,(j.far (p:=⟨g,0,none⟩) (by show g2≠g;omega) _).far (p:=⟨g,1,none⟩) (by show g2≠g;omega) _,h5.iz.keep kp,r.iz.keep kp,(q1.setCell (p:=⟨g,0,none⟩) (by show w.heap.size<=g;omega) _).setCell (p:=⟨g,1,none⟩) (by show w.heap.size<=g;omega) _⟩
   case rest =>
    clear a f j l r q1;obtain ⟨b5,I,n5,c5,a,f,j,h5,r,q1⟩:=hcut;rename World=>w14;have y:=And.intro f.v2 j.v2;go_wp2_with fail;rcases HQ.out with ⟨hd,rfl,rfl⟩ | ⟨hd,rfl,hq,hs⟩
    ·(refine (yX _ b5 I n5 c5 zs 130 h5 b4 A4 n4 c4 O 130 r hd (by decide)).mono ?_);rintro e an ⟨b6,A6,n6,c6,D6,m6,e6,rfl,h6,c⟩
     replace a:=a.b c;replace q1:=q1.trans (c.mono q1.size);clear c y;have y:=a.v3;go_wp2_with fail;refine bodyPost_ret (v:=.tuple #[.agg #[.bool b6,.slice A6 n6 c6,.slice D6 m6 e6],bo 8]) (by simp [results,Tryz.results78,go_sem,zu, *] <;> trivial) rfl ?_;exact ⟨_,_,_,_,_,_,_,rfl,(h6.keep (a.k3 (by decide) _ _ _)).mono (by decide),((q1.setCell (p:=⟨w.heap.size,0,none⟩) Qr _).setCell (p:=⟨w.heap.size,1,none⟩) Qr _).setCell (p:=⟨w.heap.size,2,none⟩) Qr _⟩
    (refine (Dd _ b5 I n5 c5 zs 130 h5 b4 A4 n4 c4 O 130 r q 130 hd hq hs (by decide)).mono ?_);rintro e an ⟨b6,A6,n6,c6,D6,m6,e6,rfl,h6,c⟩;replace a:=a.b c;replace q1:=q1.trans (c.mono q1.size);clear c y;have y:=a.v3;go_wp2_with fail;refine bodyPost_ret (v:=.tuple #[.agg #[.bool b6,.slice A6 n6 c6,.slice D6 m6 e6],bo 0]) (by simp [results,Tryz.results78,go_sem,aO, *] <;> trivial) rfl ?_;exact ⟨_,_,_,_,_,_,_,rfl,h6.keep (a.k3 (by decide) _ _ _),((q1.setCell (p:=⟨w.heap.size,0,none⟩) Qr _).setCell (p:=⟨w.heap.size,1,none⟩) Qr _).setCell (p:=⟨w.heap.size,2,none⟩) Qr _⟩
theorem mZ.dg {D:List UInt8}(h:D.all aX=true) (c:D.length<=120):mZ (cV D) ((ar D:Nat):Int):=by
 obtain ⟨b,a,d⟩:=zo h;exact ⟨b,a,by omega⟩
theorem oX.val {m:Bool}{a b:Nat}(c:a<4294967296^60) (hd:b<4294967296^60) (d:b≠0):oX (if m then -(a:Int) else a) b 0 (Rat.divInt (sgI m a) b):=by
 have e:(if m then -(a:Int) else (a:Int))=sgI m a:=by cases m <;> rfl
 rw [e];exact .ok (by omega) rfl rfl (oh (by rw [BO];exact Nat.lt_trans c (Nat.pow_lt_pow_right (by decide) (by decide))) (by rw [Int.natAbs_natCast];exact Nat.lt_trans hd (Nat.pow_lt_pow_right (by decide) (by decide))) (by decide))
theorem tC {D E:List UInt8}(g:isD D) (b:isD E) {c d:UInt8}(a:aX c=false) (hd:c≠d):c ∉ D++d::E:=by
 intro f;rcases List.mem_append.1 f with e | e
 ·exact gC g a e
 rcases List.mem_cons.1 e with e | e
 ·exact absurd e hd
 exact gC b a e
theorem wI (w:World) (s:List UInt8) (x:Int) (q:Rat) (f:Mx w) (h:dY s x q) (v:¬ 60<s.length) (hb:¬ (s.length=0\/bJ s≠s.length)):Calls Tryz.prog 78 #[aa s] w (jJ w (bo x) q 130):=by
 have d1:(10:Nat)^60<4294967296^60:=by decide
 rcases h with ⟨h,_,_⟩ | ⟨_,h,_,_⟩ | ⟨m,D,h,g,a,c,rfl,rfl⟩ | ⟨m,D,E,h,g,a,d,c,k,rfl,rfl⟩ | ⟨m,D,E,h,g,a,d,c,k,rfl,rfl⟩ | ⟨m,D,E,h,g,a,d,c,rfl,rfl⟩
 ·exact absurd h v
 ·exact absurd h hb
 ·have b:=fX (m:=m) (r:=[]) a
  rw [List.append_nil,<- c] at b;have j:D.length<=s.length:=by rw [c];cases m <;> simp [sg]
  have l:=oX.val (m:=m) (kb a.2 (by omega)) (show 1<4294967296^60 by decide) (by decide);rw [show ((1:Nat):Int)=1 from rfl,Cy] at l;exact iX w s m D D [49] _ _ _ 1 0 _ f h (by omega) g b (by omega) D [] D [] D [49] false false (mN (gC a (by decide))) (mN (gC a (by decide))) (by simp;omega) rfl rfl rfl (mZ.dg a.2 (by omega)) rfl ⟨by decide,by decide,by decide⟩ l
 ·have b:=fX (m:=m) (r:=47::E) a
  rw [<- c] at b;have j:(D++47::E).length<=s.length:=by rw [c];cases m <;> simp [sg]
  have i:(D++47::E).length=D.length+(E.length+1):=by simp
  exact iX w s m (D++47::E) D E _ _ _ _ 8 0 f h (by omega) g b (by omega) D E (D++47::E) [] D E true false (tm (gC a (by decide))) (mN (tC a d (by decide) (by decide))) (by show (D++47::E).length+0<=60;omega) rfl rfl rfl (mZ.dg a.2 (by omega)) rfl (mZ.dg d.2 (by omega)) (.zero (by rw [k];rfl) rfl rfl)
 ·have b:=fX (m:=m) (r:=47::E) a
  rw [<- c] at b;have j:(D++47::E).length<=s.length:=by rw [c];cases m <;> simp [sg]
  have i:(D++47::E).length=D.length+(E.length+1):=by simp
  exact iX w s m (D++47::E) D E _ _ _ _ 0 _ f h (by omega) g b (by omega) D E (D++47::E) [] D E true false (tm (gC a (by decide))) (mN (tC a d (by decide) (by decide))) (by show (D++47::E).length+0<=60;omega) rfl rfl rfl (mZ.dg a.2 (by omega)) rfl (mZ.dg d.2 (by omega)) (oX.val (kb a.2 (by omega)) (kb d.2 (by omega)) k)
 have b:=fX (m:=m) (r:=46::E) a;rw [<- c] at b;have j:(D++46::E).length<=s.length:=by rw [c];cases m <;> simp [sg]
 have i:(D++46::E).length=D.length+(E.length+1):=by simp
 have hN:(D++E).all aX=true:=by rw [List.all_append,a.2,d.2];rfl
 have p:(D++E).length=D.length+E.length:=List.length_append;obtain ⟨z,t,u⟩:=rS E.length;have o:=mZ.dg u (by simp;omega);rw [t] at o;have y:(10:Nat)^E.length<4294967296^60:=Nat.lt_of_le_of_lt (Nat.pow_le_pow_right (by decide) (by omega)) d1;exact iX w s m (D++46::E) (D++E) (49::List.replicate E.length 48) _ _ _ _ 0 _ f h (by omega) g b (by omega) (D++46::E) [] D E (D++46::E) [49] false true (mN (tC a d (by decide) (by decide))) (tm (gC a (by decide))) (by omega) rfl rfl rfl (mZ.dg hN (by omega)) rfl o (oX.val (kb hN (by omega)) y (by have:=Nat.pow_pos (n:=E.length) (show 0<10 by decide);omega))
theorem DG {m:Bool}{B:List UInt8}(h:B≠[]):(sg m B).length≠0:=by
 have:=List.length_pos_iff.2 h;cases m <;> simp [sg];exact h
theorem li (w:World) (s:List UInt8) (x:Int) (q:Rat) (j:Mx w) (h:dY s x q):Calls Tryz.prog 78 #[aa s] w (jJ w (bo x) q 130):=by
 have l:∀ {v:Value}{e:Ending}{k:World},jJ w v q 1 e k->jJ w v q 130 e k:=fun h=>by
  obtain ⟨b,A,n,c,t,m,o,d,a,p⟩:=h;exact ⟨b,A,n,c,t,m,o,d,a.mono (by decide),p⟩
 by_cases d:60<s.length
 ·rcases h with ⟨_,rfl,rfl⟩ | ⟨h,_⟩ | ⟨_,_,h,_⟩ | ⟨_,_,_,h,_⟩ | ⟨_,_,_,h,_⟩ | ⟨_,_,_,h,_⟩ <;> first | (rw [DE];exact (nV w s d).mono fun _ _ r=>l r) | omega
 by_cases a:s.length=0\/bJ s≠s.length
 ·rcases h with ⟨h,_⟩ | ⟨_,_,rfl,rfl⟩ | ⟨_,D,_,i,g,f,_⟩ | ⟨_,D,_,_,i,g,_,f,_⟩ | ⟨_,D,_,_,i,g,_,f,_⟩ | ⟨_,D,_,_,i,g,_,f,_⟩
  ·exact absurd h d
  ·rw [DC];exact (rX w s (by omega) a).mono fun _ _ r=>l r
  all_goals
   exfalso;rcases a with a | a
   ·rw [f] at a
    exact DG (by first | exact g.1 | simp) a
   exact a i
 exact wI w s x q j h d a
theorem lj (w:World) (s:List UInt8) (x:Int) (l:List Tkn) (h:bh s x l):Calls Tryz.prog 68 #[aa s] w (zc w (bo x) l) :=
 (BK w s).mono fun _ _ ⟨c,b,a,r⟩=>by
  obtain ⟨rfl,rfl⟩:=h.uniq a;exact r
theorem BR (w:World) (A:Option Addr) (n c:Nat) (B:Option Addr) (p d:Nat) (C:Option Addr) (q e:Nat) (nm:List UInt8) (j:aD) (L:ag) (k:Nat) (h:SlS (dV k) 2 w A n c L.bodies) (i:k<=10000000) (f:0<k) (l:n<=1000) (x:Int) (g:bj L j=x) :
 Calls Tryz.prog 96 #[.agg #[aa nm,.slice A n c,.slice B p d,.slice C q e],.agg #[aa j.name,.int .i64 j.kind,.int .i64 j.a,.int .i64 j.point,.int .i64 j.b,.int .i64 j.on,.int .i64 j.to_]] w (ax w (bo x)):=by
 by_cases h0:j.kind=0
 ·exact wE w A n c B p d C q e nm j L k h i f l h0 x g
 by_cases h1:j.kind=1
 ·exact wF w A n c B p d C q e nm j L k h i f l h1 x g
 subst g;rw [show bj L j=7 from if_pos ⟨h0,h1⟩];exact wD w A n c B p d C q e nm j ⟨h0,h1⟩
theorem zv (w:World) (A:Option Addr) (n c:Nat) (B:Option Addr) (p d:Nat) (C:Option Addr) (q e:Nat) (L:ag) (k:Nat) (h:LkS k w A n c B p d C q e L) (hk:k<=10000000) (a1:0<k) (hn:n<=1000) (x:Int) (Q:(if 16<L.joints.length then 4 else bt (aK L) [] L.joints)=x):Calls Tryz.prog 56 #[.agg #[aa L.name,.slice A n c,.slice B p d,.slice C q e]] w (ax w (bo x)):=by
 have r:=h.joints.1;have I:=h.bodies.1;by_cases h8:16<p
 ·have f8:((16:Int)<(p:Int))=True:=eq_true (by omega)
  have h4:x=4:=by rw [<- Q,if_pos (by rw [r];exact h8)]
  clear r I;go_in;go_wp2;go_ret;exact ⟨by rw [h4];rfl,(ae w).alloc Qr _⟩
 have f8:((16:Int)<(p:Int))=False:=eq_false (by omega);have bg:p<=16:=by omega
 rw [if_neg (by rw [r];exact h8)] at Q;have bn:=h.joints.2.1;have J:=Qh (cK Q);have aC:=Qh r;have bb:=Qh I;clear Q r I h8;go_in;go_wp2_with fail;go_loopw [16] (fun Y wr=>∃ i:Nat,Y=.int .i64 (i:Nat)/\i<=p/\Hid (bt (aK L) (L.joints.take i) (L.joints.drop i)=x)/\Blk wr w.heap.size 26 #[aa L.name,.slice A n c,.slice B p d,.slice C q e]/\Below w.heap.size w wr) (fun Y _=>p-(intOf Y).toNat)
 case atStart=>exact ⟨0,rfl,Nat.zero_le _,J,ak _ _ _ (by simp),(ae w).alloc Qr _⟩
 case round =>
  clear J;obtain ⟨i,rfl,hi,J,xL,hb⟩:=hrel;rename World=>wa;rcases Nat.lt_or_ge i p with ac | a0
  ·have ab:((i:Int)<(p:Int))=True:=by simp;omega
   have hL:=h.belw hb;obtain ⟨g,o,b,e1,hg,_,M,hB⟩:=hL.joints.at_ ac;subst e1;have s:=cX J.out M;obtain ⟨c0,c1,c2,c3,c4,c5,c6,N⟩:=hB;have HL:=Qh hL;have HS:=Qh s;have HN:=Qh N;obtain ⟨v,hv⟩:∃ v,aQ b.name=v:=⟨_,rfl⟩;have T:=Qh hv;have bl:w.heap.size<wa.heap.size:=xL.lt;clear h hL s N M hv J;go_wp2_with fail;refine (mP _ b.name HN.out v T.out).mono ?_;rintro e' S ⟨rfl,H⟩;have q1:=H.q1;have x1:Blk S wa.heap.size 81 #[aa b.name,.int .i64 b.kind,.int .i64 b.a,.int .i64 b.point,.int .i64 b.b,.int .i64 b.on,.int .i64 b.to_]:=(ak _ _ _ (by simp)).below H (by simp);have F:=xL.below q1 xL.lt;have G:=hb.trans (q1.mono hb.size);clear H c0 c1 c2 c3 c4 c5 c6
   have E:∀ z:Int,z≠0->(aK L) (L.joints.take i) b=z->x=z:=fun z hz hm=>by
    rcases HS.out with ⟨u,_⟩ | ⟨_,u⟩
    ·exact absurd (hm.symm.trans u) hz
    exact u.symm.trans hm
   cases v
   ·have h5:x=5:=E 5 (by decide) (if_pos T.out)
    clear E;go_wp2;go_ret;exact ⟨by rw [h5];rfl,G⟩
   have P:=Qh E;clear E;have cL:=F.cell 2;go_wp2_with fail;clear cL;go_loopw [31] (fun jv wr=>∃ j:Nat,jv=.int .i64 (j:Nat)/\j<=i/\Hid (twN ((L.joints.take j).map aD.name) b.name=false)/\Below S.heap.size S wr) (fun jv _=>i-(intOf jv).toNat)
   case atStart=>exact ⟨0,rfl,Nat.zero_le _,Qh rfl,ae S⟩
   case round =>
    obtain ⟨j,rfl,hj,HT,f⟩:=hrel;rename World=>w2;have D:=x1.below f x1.lt;have l:=F.below f F.lt;have t:=G.trans (f.mono G.size);have a3:=D.cell 0;have bf:wa.heap.size<w2.heap.size:=D.lt;have a6:w.heap.size<w2.heap.size:=l.lt;rcases Nat.lt_or_ge j i with V | bs
    ·have ad:((j:Int)<(i:Int))=True:=by simp;omega
     have W:j<p:=by omega
     obtain ⟨a,R,hA⟩:=((HL.out.joints.jt q1).jt f).rowAt W;obtain ⟨d0,d1,d2,d3,d4,d5,d6,a4⟩:=hA;have a9:g<w2.heap.size:=by have:=f.size;have:=q1.size;omega
     clear a4;have a8:¬ wa.heap.size=w2.heap.size:=by omega
     have a7:¬ g=w2.heap.size:=by omega
     have br:=aF b.name;by_cases m:a.name=b.name
     ·have h6:x=6:=P.out 6 (by decide) (by
       show aK L (L.joints.take i) b=6;unfold aK
       rw [T.out,if_neg (by decide),if_pos (dH R V m)])
      rw [m] at d0;have aS:(b.name==b.name)=true:=by simp
      clear m R;go_wp2;go_ret;exact ⟨by rw [h6];rfl,t.alloc t.size _⟩
     have bk:=aF a.name;have Z:=Qh (dU R HT.out m);have aS:(a.name==b.name)=false:=beq_eq_false_iff_ne.2 m;clear m R HT;go_wp2_with fail;go_roundw
     case rel=>exact ⟨j+1,by go_num,by omega,Z,f.alloc f.size _⟩
     case measure=>simp [intOf];omega
    have ad:((j:Int)<(i:Int))=False:=by simp;omega
    obtain rfl:j=i:=by omega
    clear a3;have a5:=l.cell 0;have ao:=l.cell 1;have an:=l.cell 2;have U:=l.cell 3;have z0:=D.cell 0;have z1:=D.cell 1;have z2:=D.cell 2;have z3:=D.cell 3;have z4:=D.cell 4;have z5:=D.cell 5;have z6:=D.cell 6;obtain ⟨y,hy⟩:∃ y,bj L b=y:=⟨_,rfl⟩
    have HE:Hid (aK L (L.joints.take j) b=y):=Qh (by
     unfold aK
     rw [T.out,if_neg (by decide),HT.out,if_neg (by decide)];exact hy)
    have HY:=Qh hy;clear hy;go_wp2_with fail;refine (BR _ A n c _ p d C q e L.name b L k ((HL.out.bodies.bd q1).bd f) hk a1 hn y HY.out).mono ?_;rintro e' w3 ⟨rfl,O⟩;have K:=t.trans (O.mono t.size);have aT:=l.below O l.lt;clear a5 ao an U z0 z1 z2 z3 z4 z5 z6;by_cases hy0:y=0
    ·have a2:Hid (bt (aK L) (L.joints.take (j+1)) (L.joints.drop (j+1))=x):=Qh (by
      rcases HS.out with ⟨_,u⟩ | ⟨u,_⟩
      ·exact u
      exact absurd (HE.out.trans hy0) u)
     subst hy0;rw [show bo 0=.nilIface from if_pos rfl];go_wp2_with fail;go_roundw
     case rel=>exact ⟨j+1,by go_num,by omega,a2,aT,K⟩
     case measure=>simp [intOf];omega
    have al:x=y:=P.out y hy0 HE.out;rw [show bo y=.iface 58 (.int .i64 y) from if_neg hy0];go_wp2;go_ret;exact ⟨by rw [al,show bo y=.iface 58 (.int .i64 y) from if_neg hy0];rfl,K⟩
  have ab:((i:Int)<(p:Int))=False:=by simp;omega
  have X:x=0:=dT J.out (by rw [aC.out];exact a0);go_wp2;go_ret;exact ⟨by rw [X];rfl,hb⟩
theorem wJ (w:World) (A:Option Addr) (n c:Nat) (B:Option Addr) (p d:Nat) (C:Option Addr) (q e:Nat) (L:ag) (k:Nat) (h:LkS k w A n c B p d C q e L) (hk:k<=10000000) (bY:0<k) (hn:n<=1000) (x:Int) (hx:(if 2<L.drivers.length then 4 else bt (aA n) [] L.drivers)=x):Calls Tryz.prog 57 #[.agg #[aa L.name,.slice A n c,.slice B p d,.slice C q e]] w (ax w (bo x)):=by
 have t:=h.drivers.1;have X:=h.bodies.1;by_cases h8:2<q
 ·have f8:((2:Int)<(q:Int))=True:=eq_true (by omega)
  have h4:x=4:=by rw [<- hx,if_pos (by rw [t];exact h8)]
  clear t X;go_in;go_wp2;go_ret;exact ⟨by rw [h4];rfl,(ae w).alloc Qr _⟩
 have f8:((2:Int)<(q:Int))=False:=eq_false (by omega);have bs:q<=2:=by omega
 rw [if_neg (by rw [t];exact h8)] at hx;have bz:=h.drivers.2.1;have Y:=Qh (cK hx);have bd:=Qh t;have bn:=Qh X;clear hx t X h8;go_in;go_wp2_with fail;go_loopw [17] (fun iv wr=>∃ i:Nat,iv=.int .i64 (i:Nat)/\i<=q/\Hid (bt (aA n) (L.drivers.take i) (L.drivers.drop i)=x)/\Blk wr w.heap.size 26 #[aa L.name,.slice A n c,.slice B p d,.slice C q e]/\Below w.heap.size w wr) (fun iv _=>q-(intOf iv).toNat)
 case atStart=>exact ⟨0,rfl,Nat.zero_le _,Y,ak _ _ _ (by simp),(ae w).alloc Qr _⟩
 case round =>
  clear Y;obtain ⟨i,rfl,hi,Y,xL,hb⟩:=hrel;rename World=>wa;rcases Nat.lt_or_ge i q with a5 | bf
  ·have a4:((i:Int)<(q:Int))=True:=by simp;omega
   have hL:=h.belw hb;obtain ⟨g,o,b,e1,hg,_,Z,hB⟩:=hL.drivers.at_ a5;subst e1;have y:=cX Y.out Z;obtain ⟨c0,c1,ab⟩:=hB;have HL:=Qh hL;have HS:=Qh y;have HN:=Qh ab;obtain ⟨v,hv⟩:∃ v,aQ b.name=v:=⟨_,rfl⟩;have W:=Qh hv;have bw:w.heap.size<wa.heap.size:=xL.lt;clear h hL y ab Z hv Y;go_wp2_with fail;refine (mP _ b.name HN.out v W.out).mono ?_;rintro e' w1 ⟨rfl,V⟩;have q1:=V.q1;have x1:Blk w1 wa.heap.size 86 #[aa b.name,.int .i64 b.body]:=(ak _ _ _ (by simp)).below V (by simp);have N:=xL.below q1 xL.lt;have O:=hb.trans (q1.mono hb.size);clear V c0 c1
   have K:∀ z:Int,z≠0->(aA n) (L.drivers.take i) b=z->x=z:=fun z hz hm=>by
    rcases HS.out with ⟨u,_⟩ | ⟨_,u⟩
    ·exact absurd (hm.symm.trans u) hz
    exact u.symm.trans hm
   cases v
   ·have h5:x=5:=K 5 (by decide) (if_pos W.out)
    clear K;go_wp2;go_ret;exact ⟨by rw [h5];rfl,O⟩
   have M:=Qh K;clear K;have cL:=N.cell 3;go_wp2_with fail;clear cL;go_loopw [32] (fun R wr=>∃ j:Nat,R=.int .i64 (j:Nat)/\j<=i/\Hid (twN ((L.drivers.take j).map aE.name) b.name=false)/\Below w1.heap.size w1 wr) (fun R _=>i-(intOf R).toNat)
   case atStart=>exact ⟨0,rfl,Nat.zero_le _,Qh rfl,ae w1⟩
   case round =>
    obtain ⟨j,rfl,hj,HT,l⟩:=hrel;rename World=>w2;have x2:=x1.below l x1.lt;have H:=N.below l N.lt;have G:=O.trans (l.mono O.size);have bk:=x2.cell 0;have br:wa.heap.size<w2.heap.size:=x2.lt;have bl:w.heap.size<w2.heap.size:=H.lt;rcases Nat.lt_or_ge j i with aT | b2
    ·have a6:((j:Int)<(i:Int))=True:=by simp;omega
     have a0:j<q:=by omega
     obtain ⟨a,J,hA⟩:=((HL.out.drivers.dr q1).dr l).rowAt a0;obtain ⟨d0,d1,U⟩:=hA;have aC:g<w2.heap.size:=by have:=l.size;have:=q1.size;omega
     clear U;have an:¬ wa.heap.size=w2.heap.size:=by omega
     have al:¬ g=w2.heap.size:=by omega
     have b0:=aF b.name;by_cases f:a.name=b.name
     ·have h6:x=6:=M.out 6 (by decide) (by
       show aA n (L.drivers.take i) b=6;unfold aA
       rw [W.out,if_neg (by decide),if_pos (dH J aT f)])
      rw [f] at d0;have Q:(b.name==b.name)=true:=by simp
      clear f J;go_wp2;go_ret;exact ⟨by rw [h6];rfl,G.alloc G.size _⟩
     have bv:=aF a.name;have a3:=Qh (dU J HT.out f);have Q:(a.name==b.name)=false:=beq_eq_false_iff_ne.2 f;clear f J HT;go_wp2_with fail;go_roundw
     case rel=>exact ⟨j+1,by go_num,by omega,a3,l.alloc l.size _⟩
     case measure=>simp [intOf];omega
    have a6:((j:Int)<(i:Int))=False:=by simp;omega
    obtain rfl:j=i:=by omega
    clear bk;have bb:=H.cell 1;have z1:=x2.cell 1;obtain ⟨v1,ac⟩:∃ v,inI b.body n=v:=⟨_,rfl⟩;have E:=Qh ac;have I:=HT;clear ac;go_wp2_with fail;refine (wC _ b.body n v1 E.out).mono ?_;rintro e' w3 ⟨rfl,D⟩;have F:=G.trans (D.mono G.size);have S:=H.below D H.lt;have x3:=x2.below D x2.lt;clear bb z1;cases v1
    ·have h9:x=9:=M.out 9 (by decide) (by
      show aA n (L.drivers.take j) b=9;unfold aA
      rw [W.out,if_neg (by decide),I.out,if_neg (by decide),if_pos E.out])
     go_wp2;go_ret;exact ⟨by rw [h9];rfl,F⟩
    have z1:=x3.cell 1;have aS:=S.cell 3;have bu:wa.heap.size<w3.heap.size:=x3.lt;by_cases s:b.body=0
    ·have e0:(b.body==0)=true:=beq_iff_eq.2 s
     have h7:x=7:=M.out 7 (by decide) (by
      show aA n (L.drivers.take j) b=7;unfold aA
      rw [W.out,if_neg (by decide),I.out,if_neg (by decide),E.out,if_neg (by decide),if_pos s])
     clear s;go_wp2;go_ret;exact ⟨by rw [h7];rfl,F⟩
    have e0:(b.body==0)=false:=beq_eq_false_iff_ne.2 s;have ad:=Qh s;clear s;go_wp2_with fail;clear z1 aS;go_loopw [60] (fun R wr=>∃ r:Nat,R=.int .i64 (r:Nat)/\r<=j/\Hid (((L.drivers.take r).any fun p=>p.body==b.body)=false)/\Below w3.heap.size w3 wr) (fun R _=>j-(intOf R).toNat)
    case atStart=>exact ⟨0,rfl,Nat.zero_le _,Qh rfl,ae w3⟩
    case round =>
     obtain ⟨r,rfl,hr,HR,m⟩:=hrel;rename World=>w4;have x4:=x3.below m x3.lt;have a8:=S.below m S.lt;have P:=F.trans (m.mono F.size);have z1:=x4.cell 1;have bx:wa.heap.size<w4.heap.size:=x4.lt;rcases Nat.lt_or_ge r j with a9 | b1
     ·have a1:((r:Int)<(j:Int))=True:=by simp;omega
      have ao:r<q:=by omega
      obtain ⟨a,J,hA⟩:=((((HL.out.drivers.dr q1).dr l).dr D).dr m).rowAt ao;obtain ⟨d0,d1,U⟩:=hA;have aC:g<w4.heap.size:=by have:=m.size;have:=D.size;have:=l.size;have:=q1.size;omega
      clear U;have an:¬ wa.heap.size=w4.heap.size:=by omega
      have al:¬ g=w4.heap.size:=by omega
      have T:L.drivers.take (r+1)=L.drivers.take r++[a]:=by rw [List.take_add_one,J];rfl
      by_cases f:a.body=b.body
      ·have h6:x=6:=M.out 6 (by decide) (by
        show aA n (L.drivers.take j) b=6;unfold aA;rw [W.out,if_neg (by decide),I.out,if_neg (by decide),E.out,if_neg (by decide),if_neg ad.out,if_pos];rw [List.any_eq_true]
        exact ⟨a,List.mem_of_getElem? (i:=r) (by rw [List.getElem?_take,if_pos a9];exact J),by simpa using f⟩)
       have Q:(a.body==b.body)=true:=beq_iff_eq.2 f;clear f J T;go_wp2;go_ret;exact ⟨by rw [h6];rfl,P.alloc P.size _⟩
      ·have a7:Hid (((L.drivers.take (r+1)).any fun p=>p.body==b.body)=false):=Qh (by
        rw [T,List.any_append,HR.out]
        simpa using f)
       have Q:(a.body==b.body)=false:=beq_eq_false_iff_ne.2 f;clear f J T HR;go_wp2_with fail;go_roundw
       case rel=>exact ⟨r+1,by go_num,by omega,a7,m.alloc m.size _⟩
       case measure=>simp [intOf];omega
     have a1:((r:Int)<(j:Int))=False:=by simp;omega
     obtain rfl:r=j:=by omega
     have h0:aA n (L.drivers.take r) b=0:=by
      unfold aA;rw [W.out,if_neg (by decide),I.out,if_neg (by decide),E.out,if_neg (by decide),if_neg ad.out,HR.out];rfl
     have bg:Hid (bt (aA n) (L.drivers.take (r+1)) (L.drivers.drop (r+1))=x):=Qh (by
      rcases HS.out with ⟨_,u⟩ | ⟨u,_⟩
      ·exact u
      exact absurd h0 u)
     clear h0 z1;go_wp2_with fail;go_roundw
     case rel=>exact ⟨r+1,by go_num,by omega,bg,a8,P⟩
     case measure=>simp [intOf];omega
  have a4:((i:Int)<(q:Int))=False:=by simp;omega
  have a2:x=0:=dT Y.out (by rw [bd.out];exact bf);go_wp2;go_ret;exact ⟨by rw [a2];rfl,hb⟩
theorem eVp {x:Int}(h:x≠0):bo x=.iface 58 (.int .i64 x):=if_neg h
theorem eV0:bo 0=.nilIface:=if_pos rfl
theorem dJ (w:World) (A:Option Addr) (n c:Nat) (B:Option Addr) (p d:Nat) (C:Option Addr) (q e:Nat) (L:ag) (k:Nat) (h:LkS k w A n c B p d C q e L) (hk:k<=10000000) (D:0<k) (x:Int) (hx:aG L=x) :
 Calls Tryz.prog 31 #[.agg #[aa L.name,.slice A n c,.slice B p d,.slice C q e]] w (ax w (bo x)):=by
 have J:=h.bodies.1;obtain ⟨v,hv⟩:∃ v,aQ L.name=v:=⟨_,rfl⟩;have Z:=Qh hv;have HX:=Qh hx;have HL:=Qh J;have H:=Qh h;clear hv hx J h;go_in;go_wp2_with fail;refine (mP _ L.name H.out.name v Z.out).mono ?_;rintro V w1 ⟨rfl,u⟩;have q1:=u.q1;have x1:Blk w1 w.heap.size 26 #[aa L.name,.slice A n c,.slice B p d,.slice C q e]:=(ak _ _ _ (by simp)).below u (by simp);clear u;cases v
 ·have h5:x=5:=by rw [<- HX.out];unfold aG;rw [if_pos Z.out]
  go_wp2;go_ret;exact ⟨by rw [h5];rfl,q1⟩
 have E:x=if n=0 then 10 else if 8<n then 4 else if bt aL [] L.bodies≠0 then bt aL [] L.bodies
  else if 16<L.joints.length then 4 else if bt (aK L) [] L.joints≠0 then bt (aK L) [] L.joints
  else if 2<L.drivers.length then 4 else bt (aA n) [] L.drivers:=by
  rw [<- HX.out];unfold aG;rw [if_neg (by rw [Z.out];decide),HL.out]
 obtain ⟨j,g⟩:∃ y,bt aL [] L.bodies=y:=⟨_,rfl⟩;obtain ⟨f,i⟩:∃ y,(if 16<L.joints.length then (4:Int) else bt (aK L) [] L.joints)=y:=⟨_,rfl⟩;obtain ⟨R,m⟩:∃ y,(if 2<L.drivers.length then (4:Int) else bt (aA n) [] L.drivers)=y:=⟨_,rfl⟩
 have G:x=if n=0 then 10 else if 8<n then 4 else if j≠0 then j else if f≠0 then f else R:=by
  rw [E,g,<- i,<- m];by_cases a:16<L.joints.length
  ·simp [a]
  simp [a]
 have l:=Qh G;have ab:=Qh g;have T:=Qh i;have X:=Qh m;clear E G g i m;have b:=x1.cell 1;by_cases I:n=0
 ·have e0:((n:Int)==0)=true:=beq_iff_eq.2 (by omega)
  have W:((n:Int)=0)=True:=eq_true (by omega);have U:x=10:=by rw [l.out,if_pos I]
  clear I;go_wp2;go_ret;exact ⟨by rw [U];rfl,q1⟩
 have e0:((n:Int)==0)=false:=beq_eq_false_iff_ne.2 (by omega);have W:((n:Int)=0)=False:=eq_false (by omega);by_cases h8:8<n
 ·have e8:((8:Int)<(n:Int))=True:=eq_true (by omega)
  have h4:x=4:=by rw [l.out,if_neg I,if_pos h8]
  go_wp2;go_ret;exact ⟨by rw [h4];rfl,q1⟩
 have e8:((8:Int)<(n:Int))=False:=eq_false (by omega);have N:x=if j≠0 then j else if f≠0 then f else R:=by rw [l.out,if_neg I,if_neg h8]
 have F:=Qh N;clear N I;go_wp2_with fail;refine (zl _ A n c L.bodies k (H.out.bodies.bd q1) (by omega) (by omega) j ab.out).mono ?_;rintro V w2 ⟨rfl,M⟩;have q2:=q1.trans (M.mono q1.size);have z:=x1.below M x1.lt;clear b;by_cases h1:j=0
 case neg =>
  have o:x=j:=by rw [F.out,if_pos h1]
  rw [eVp h1];go_wp2;go_ret;exact ⟨by rw [o,eVp h1];rfl,q2⟩
 have K:x=if f≠0 then f else R:=by rw [F.out,if_neg (by simp [h1])]
 have P:=Qh K;clear K;subst h1;rw [eV0];have r:=z.cell 0;have b:=z.cell 1;have s:=z.cell 2;have t:=z.cell 3;go_wp2_with fail;refine (zv _ A n c B p d C q e L k (H.out.belw q2) hk D (by omega) f T.out).mono ?_;rintro V w3 ⟨rfl,O⟩;have q3:=q2.trans (O.mono q2.size);have Q:=z.below O z.lt;clear r b s t;by_cases h2:f=0
 case neg =>
  have o:x=f:=by rw [P.out,if_pos h2]
  rw [eVp h2];go_wp2;go_ret;exact ⟨by rw [o,eVp h2];rfl,q3⟩
 have S:x=R:=by rw [P.out,if_neg (by simp [h2])]
 subst S;subst h2;rw [eV0];have r:=Q.cell 0;have b:=Q.cell 1;have s:=Q.cell 2;have t:=Q.cell 3;go_wp2_with fail;refine (wJ _ A n c B p d C q e L k (H.out.belw q3) hk D (by omega) x X.out).mono ?_;rintro V w4 ⟨rfl,Y⟩;have q4:=q3.trans (Y.mono q3.size);clear r b s t;go_wp2;go_ret;exact ⟨rfl,q4⟩
/-! Only the block gr has turned. -/
section
variable {w w' w2:World}{gr:Nat}
theorem rg_refl (gr:Nat) (w:World):w.grownBy w (some gr):=⟨rfl,rfl,rfl,Qr,fun _ _ _=>rfl⟩
theorem aH (h:w.grownBy w' (some gr)) (k:w'.grownBy w2 (some gr)):w.grownBy w2 (some gr) :=
 ⟨k.os.trans h.os,k.tape.trans h.tape,k.output.trans h.output,Nat.le_trans h.size k.size,fun i b a=>(k.block i (Nat.lt_of_lt_of_le b h.size) a).trans (h.block i b a)⟩
theorem eZ (h:w.grownBy w' (some gr)) (i:Nat) (u:Value):w.grownBy (w'.setCell ⟨gr,i,none⟩ u) (some gr) :=
 aH h ⟨rfl,rfl,rfl,by simp [World.setCell],fun k _ a=>Below.heap_setCell w' ⟨gr,i,none⟩ u k (fun e=>a (by rw [e]))⟩
theorem fZ (h:w.grownBy w' (some gr)) (k:Below w'.heap.size w' w2):w.grownBy w2 (some gr) :=
 aH h ⟨k.os,k.tape,k.output,k.size,fun i a _=>k.block i a⟩
theorem bE (h:w.grownBy w' (some gr)) (o:Obj):w.grownBy (w'.alloc o) (some gr):=fZ h ((Below.refl _ _).alloc Qr o)
theorem BS (h:w.grownBy w' (some gr)):w.grownBy w'.drew (some gr):=⟨h.os,h.tape,h.output,h.size,h.block⟩
theorem jy {B:Nat}(h:w.grownBy w' (some gr)) (hB:B<=w.heap.size) (a:B<=gr):Below B w w':=(Below.refl B w).grown h hB (fun k e=>by injection e with e;omega)
theorem bZ {g t:Nat}{cs:Array Value}(h:w.grownBy w' (some gr)) (x:Blk w g t cs) (a:g≠gr):Blk w' g t cs:=(h.block g x.lt (fun e=>a (by injection e))).trans x
theorem uC {g t:Nat}{cs:Array Value}(h:w.grownBy w' (some gr)) (x:w.heap[g]?=some (.cells cs t (0,0))) (a:g≠gr):w'.heap[g]?=some (.cells cs t (0,0)):=(h.block g (lt_of_block x) (fun e=>a (by injection e))).trans x
end
def TkA (B:Nat) (w:World) (A:Option Addr) (n c:Nat) (l:List Tkn):Prop:=l.length=n/\n<=c/\(0<n->∃ g o,A=some ⟨g,o,none⟩/\g<B/\∀ i v,(cJ l)[i]?=some v->w.cell? ⟨g,o+i,none⟩=some v)
def MxA (B:Nat) (w:World):Prop:=0<B/\Mx w
section
variable {B:Nat}{w w':World}{A:Option Addr}{n c gr:Nat}{l:List Tkn}
theorem TkA.rg (h:TkA B w A n c l) (hB:B<=gr) (k:w.grownBy w' (some gr)):TkA B w' A n c l:=by
 refine ⟨h.1,h.2.1,fun f=>?_⟩;obtain ⟨g,o,e,b,d⟩:=h.2.2 f;exact ⟨g,o,e,b,fun i v a=>k.cell (d i v a) (fun e=>by injection e with e;simp only at e;omega)⟩
theorem TkA.belB (h:TkA B w A n c l) (k:Below B w w'):TkA B w' A n c l:=by
 refine ⟨h.1,h.2.1,fun f=>?_⟩;obtain ⟨g,o,e,a,d⟩:=h.2.2 f;exact ⟨g,o,e,a,fun i v b=>(k.cell (p:=⟨g,o+i,none⟩) a).trans (d i v b)⟩
theorem TkA.of_tks (h:TkS w A n c l):TkA w.heap.size w A n c l:=by
 refine ⟨h.1,?_,fun m=>?_⟩
 ·rcases h.2 with ⟨a,_,k⟩ | ⟨g,_,a,_⟩
  ·omega
  exact a
 rcases h.2 with ⟨a,_,k⟩ | ⟨g,e,a,d⟩
 ·omega
 have b:0<(cJ l).length:=by rw [vV,h.1];omega
 have j:(cJ l)[0]?=some ((cJ l)[0]' b):=List.getElem?_eq_getElem b;exact ⟨g,0,e,World.block_lt_of_cell? w ⟨g,0,none⟩ (d 0 _ j),fun i v f=>by rw [Nat.zero_add];exact d i v f⟩
theorem TkA.head {t:Tkn}(h:TkA B w A n c (t::l)):∃ g o,A=some ⟨g,o,none⟩/\g<B/\w.cell? ⟨g,o,none⟩=some (.int .i64 (t.kind:Nat))/\w.cell? ⟨g,o+1,none⟩=some (aa t.text)/\w.cell? ⟨g,o+2,none⟩=some (.int .i64 (t.line:Nat))/\w.cell? ⟨g,o+3,none⟩=some (.int .i64 (t.col:Nat)):=by
 obtain ⟨g,o,e,b,a⟩:=h.2.2 (by rw [<- h.1];simp);exact ⟨g,o,e,b,a 0 _ rfl,a 1 _ rfl,a 2 _ rfl,a 3 _ rfl⟩
theorem TkA.tail {t:Tkn}{f:Option Addr}{d j:Nat}(h:TkA B w A n c (t::l)) (k:f=if c=1 then A else A.map (·.add 4)) (m:d=n-1) (a:j=c-1):TkA B w f d j l:=by
 subst m a;have s:l.length+1=n:=by rw [<- h.1];simp
 refine ⟨by omega,by have:=h.2.1;omega,fun m=>?_⟩;obtain ⟨g,o,e,r,a⟩:=h.2.2 (by omega);have b:¬ c=1:=by have:=h.2.1;omega
 rw [if_neg b,e] at k;refine ⟨g,o+4,k,r,fun i v p=>?_⟩
 have q:(cJ (t::l))[i+4]?=some v:=by
  have:cJ (t::l)=rI t++cJ l:=rfl;rw [this,List.getElem?_append_right (by simp [rI])];simpa [rI] using p
 have:=a _ _ q;rwa [show o+(i+4)=o+4+i by omega] at this
theorem MxA.rg (h:MxA B w) (hB:B<=gr) (k:w.grownBy w' (some gr)):MxA B w':=by
 obtain ⟨a,m,b⟩:=h;exact ⟨a,m,k.cell b (fun e=>by injection e with e;simp only at e;omega)⟩
theorem MxA.belB (h:MxA B w) (k:Below B w w'):MxA B w':=by
 obtain ⟨a,m,b⟩:=h;exact ⟨a,m,(k.cell (p:=⟨_,0,none⟩) a).trans b⟩
theorem MxA.out (h:MxA B w):Mx w:=h.2
theorem MxA.of_mx (h:Mx w):MxA w.heap.size w:=by
 obtain ⟨m,a⟩:=h;exact ⟨World.block_lt_of_cell? w ⟨_,0,none⟩ a,m,a⟩
end
structure RdP (B:Nat) (w:World) (gr:Nat) (c1 c2 c3 c4:Value) (s:PS):Prop where
  blk:∃ A n c,Blk w gr 118 #[.slice A n c,c1,c2,c3,c4,bo s.x]/\TkA B w A n c s.toks
  mx:MxA B w
  hB:B<=gr
  len:s.toks.length<=65536
  txt:∀ t∈s.toks,NmL t.text
  hw:noW c1=true/\noW c2=true/\noW c3=true/\noW c4=true
def tD (B:Nat) (w:World) (gr:Nat) (c1 c2 c3 c4:Value) (v:Value) (s:PS) (e:Ending) (w':World):Prop:=e=.returned v/\RdP B w' gr c1 c2 c3 c4 s/\w.grownBy w' (some gr)
section
variable {B:Nat}{w w':World}{gr:Nat}{c1 c2 c3 c4:Value}{s:PS}
theorem RdP.lt (h:RdP B w gr c1 c2 c3 c4 s):gr<w.heap.size:=by obtain ⟨A,n,c,hb,_⟩:=h.blk;exact hb.lt
theorem RdP.bel1 (h:RdP B w gr c1 c2 c3 c4 s) (k:Below (gr+1) w w'):RdP B w' gr c1 c2 c3 c4 s:=by
 obtain ⟨A,n,c,hb,b⟩:=h.blk;have hB:=h.hB;have a:Below B w w':=k.mono (by omega);exact ⟨⟨A,n,c,hb.below k (by omega),b.belB a⟩,h.mx.belB a,h.hB,h.len,h.txt,h.hw⟩
theorem RdP.belw (h:RdP B w gr c1 c2 c3 c4 s) (k:Below w.heap.size w w'):RdP B w' gr c1 c2 c3 c4 s:=by
 obtain ⟨A,n,c,hb,d⟩:=h.blk;have a:=hb.lt;have hB:=h.hB;have b:Below B w w':=k.mono (by omega);exact ⟨⟨A,n,c,hb.below k a,d.belB b⟩,h.mx.belB b,h.hB,h.len,h.txt,h.hw⟩
theorem RdP.alloc (h:RdP B w gr c1 c2 c3 c4 s) (o:Obj):RdP B (w.alloc o) gr c1 c2 c3 c4 s:=h.belw ((Below.refl _ _).alloc Qr o)
theorem RdP.far (h:RdP B w gr c1 c2 c3 c4 s) {p:Addr}(d:gr<p.block) (u:Value):RdP B (w.setCell p u) gr c1 c2 c3 c4 s:=by
 obtain ⟨A,n,c,hb,b⟩:=h.blk;have hB:=h.hB;have a:Below B w (w.setCell p u):=(Below.refl B w).setCell (by omega) u;exact ⟨⟨A,n,c,hb.far (by omega) u,b.belB a⟩,h.mx.belB a,h.hB,h.len,h.txt,h.hw⟩
theorem dm {b:World}(h:w.grownBy w' (some gr)) (k:Below w.heap.size w' b):w.grownBy b (some gr) :=
 ⟨k.os.trans h.os,k.tape.trans h.tape,k.output.trans h.output,Nat.le_trans h.size k.size,fun i c a=>(k.block i c).trans (h.block i c a)⟩
theorem aq.rg {α:Type}{T0:TypeId}{Pc:World->List Value->α->Prop}{sz base n:Nat}{v:Value}{l:List α}(h:aq T0 Pc sz w base v n l) (c:gr<base) (k:w.grownBy w' (some gr)) (b:∀ cs a,Pc w cs a->Pc w' cs a):aq T0 Pc sz w' base v n l :=
 h.same (fun g _ f d=>uC k d (by omega)) b
theorem BT (x:Int):noW (bo x)=true:=by unfold bo;split <;> rfl
theorem RdP.tch {T:TypeId->Bool}(h:RdP B w gr c1 c2 c3 c4 s) (k:w.grownBy w' (some gr)) (j:T 118=true):Tch T w w':=by
 obtain ⟨A,n,c,hb,_⟩:=h.blk;obtain ⟨l,d,f,i⟩:=h.hw;refine Tch.of_ne k.size hb j ?_ fun g a b=>k.block g a (fun e=>b (by injection e))
 simp only [List.all_cons,List.all_nil,l,d,f,i,BT,Bool.and_true];rfl
end
def TA:TypeId->Bool:=fun _=>true
theorem ii {w:World}{g t:Nat}{cs:Array Value}(z:Blk w g t cs) (f:cs.toList.all noW=true) (i j k:Nat) (c d b:Value):Tch TA w (((w.setCell ⟨g,i,none⟩ c).setCell ⟨g,j,none⟩ d).setCell ⟨g,k,none⟩ b) :=
 Tch.of_ne (by simp [World.setCell]) z rfl f fun h _ a=>by
  rw [Below.heap_setCell _ _ _ _ a,Below.heap_setCell _ _ _ _ a,Below.heap_setCell _ _ _ _ a]
theorem cq {B g:Nat}(w:World) (hB:B<=g) (i j k:Nat) (b c a:Value):Below B w (((w.setCell ⟨g,i,none⟩ b).setCell ⟨g,j,none⟩ c).setCell ⟨g,k,none⟩ a) :=
 (((Below.refl B w).setCell (p:=⟨g,i,none⟩) hB b).setCell (p:=⟨g,j,none⟩) hB c).setCell (p:=⟨g,k,none⟩) hB a
theorem fd {w b:World}{gr:Nat}(h:w.grownBy b (some gr)) {p:Addr}(d:w.heap.size<=p.block) (u:Value):w.grownBy (b.setCell p u) (some gr) :=
 ⟨h.os,h.tape,h.output,by simp [World.setCell,h.size],fun k c a=>(Below.heap_setCell b p u k (by omega)).trans (h.block k c a)⟩
def mOf (gr:Nat) (w:World):Nat:=(match w.cell? ⟨gr,0,none⟩ with | some (.slice _ n _)=>2*n | _=>0)+(match w.cell? ⟨gr,5,none⟩ with | some .nilIface=>1 | _=>0)
theorem RdP.meas {B:Nat}{w:World}{gr:Nat}{c1 c2 c3 c4:Value}{s:PS}(h:RdP B w gr c1 c2 c3 c4 s):mOf gr w=2*s.toks.length+if s.x=0 then 1 else 0:=by
 obtain ⟨A,n,c,hb,a⟩:=h.blk;unfold mOf;rw [hb.cell 0,hb.cell 5];show 2*n+(match some (bo s.x) with | some .nilIface=>1 | _=>0)=_;rw [a.1];by_cases hx:s.x=0
 ·rw [if_pos hx,hx,aO]
 rw [if_neg hx,eVp hx]
theorem uE:(Tryz.prog.info? 56).map (fun i=>(i.zero,i.size,i.bytes))=some (some (.agg #[.string ⟨#[]⟩,.bool false,.slice none 0 0,.slice none 0 0,.bool false,.slice none 0 0,.slice none 0 0]),7,128):=by kernel_rfl
theorem pW:(Tryz.prog.info? 51).map (fun i=>(i.zero,i.size,i.bytes))=some (some (.agg #[.string ⟨#[]⟩,.slice none 0 0]),2,40):=by kernel_rfl
theorem pX:(Tryz.prog.info? 81).map (fun i=>(i.zero,i.size,i.bytes))=some (some (.agg #[.string ⟨#[]⟩,.int .i64 0,.int .i64 0,.int .i64 0,.int .i64 0,.int .i64 0,.int .i64 0]),7,64):=by kernel_rfl
theorem pY:(Tryz.prog.info? 86).map (fun i=>(i.zero,i.size,i.bytes))=some (some (.agg #[.string ⟨#[]⟩,.int .i64 0]),2,24):=by kernel_rfl
end Go.Proofs.YtndhgcfajlalhaaGreatDoor
