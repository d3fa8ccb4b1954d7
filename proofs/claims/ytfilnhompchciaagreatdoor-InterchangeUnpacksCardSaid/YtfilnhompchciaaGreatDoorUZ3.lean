/- Part UZ3: lemmas and walks that the claim rests on. No claim is made here. -/
import Derived.Test.YtfilnhompchciaaGreatDoorUZ2
set_option linter.unusedVariables false
set_option maxHeartbeats 8000000
set_option maxRecDepth 100000
/- Walks: integer.Text. -/
namespace Go.Proofs.YtfilnhompchciaaGreatDoor
open Go Go.RowKit Bn
attribute [local go_sem ↓] Go.wp_at_zero Go.wp_at_succ

def Tab(w : World): Prop := Lib.TabIs Tryz.prog w "internal/strconv.uint64pow10" .u64 Lib.pow10Tab
theorem Tab.belw{w a:World}(h:Tab w)(hb:Below w.heap.size w a):Tab a:=Lib.tabBelow_of_tabIs h a hb
abbrev ae(l:List UInt8):Value:=.string ⟨l.toArray⟩
def strs(ps:List (List UInt8)):List Value:=ps.map ae
theorem kF(a:List (List UInt8)):(strs a).length=a.length:=by simp[strs]
theorem rc(b:List (List UInt8)):∀u∈strs b,u.oneCell'=true:=by
 intro u a;simp only[strs,List.mem_map]at a;obtain⟨x,_,rfl⟩:=a;rfl
theorem re:(Tryz.prog.info? 9).map (fun i=>(i.zero,i.size,i.bytes))=some (some (.string ⟨#[]⟩),1,16):=by kernel_rfl
theorem sO(w:World)(k:Nat)(os:Array Obj):Below w.heap.size w (Sort.grow (w.drewN k) os) :=
 ⟨rfl,rfl,rfl,by simp[Sort.grow],fun j a=>by simp[Sort.grow,Array.getElem?_append_left a]⟩
theorem mz(w:World)(n:Int)(c:-9223372036854775808<=n)(b:n<=9223372036854775807)(d:Tab w):
 Calls Tryz.prog 28 #[.int .i64 n] w (av w (ae (Lib.itoa n))) :=
 (Tryz.strconv_Itoa n c b w d).mono fun e f ⟨a,k,os,hw⟩=>⟨a,by rw[hw];exact sO w k os⟩
def nK(w:World)(p:Value)(ps:List (List UInt8)):Prop:=(ps=[]/\p=.slice none 0 0)\/(ps≠[]/\∃g cap,p=.slice (some ⟨g,0,none⟩) ps.length cap/\g<w.heap.size/\ps.length<=cap/\∀j,j<ps.length->w.cell? ⟨g,j,none⟩=(strs ps)[j]?)
theorem yD(w:World)(p:Value)(b:List (List UInt8))(h:nK w p b)(d:b.flatten.length<=140737488355328)(n:b.length<=140737488355328):
 Calls Tryz.prog 62 #[p,.string ⟨#[]⟩] w (av w (ae b.flatten)):=by
 rcases h with⟨rfl,rfl⟩|⟨u,g,cap,rfl,k,m,s⟩
 ·exact(Tryz.strings_Join_none none 0 ⟨#[]⟩ w).mono fun e t ⟨r,hw⟩=>⟨r,hw ▸ kz _ _⟩
 ·have o:(b.map fun l=>(⟨l.toArray⟩:ByteArray)).map (·.data.toList)=b:=by
   rw[List.map_map];exact(List.map_congr_left (fun a _=>by simp)).trans (List.map_id b)
  have f:(b.map fun l=>(⟨l.toArray⟩:ByteArray)).length=b.length:=by simp
  have i:Lib.join ((b.map fun l=>(⟨l.toArray⟩:ByteArray)).map (·.data.toList)) (⟨#[]⟩:ByteArray).data.toList=b.flatten:=by rw[o];exact vE b
  have:=Tryz.strings_Join g 0 cap (b.map fun l=>⟨l.toArray⟩) ⟨#[]⟩ w (fun j x c=>by
   have q:j<b.length:=by have:=(ts.1 c).1;rw[f]at this;exact this
   rw[Nat.zero_add,s j q];rw[GZ]at c;unfold strs;rw[GZ]
   cases hp:b[j]? with
   |none=>rw[hp]at c;simp at c
   |some y=>rw[hp]at c;simp at c;subst c;rfl) k (by rw[f];exact n) (by rw[f];exact m) (by rw[i];exact d)
  rw[i,f]at this;exact this
theorem lG(a b:List UInt8):((⟨a.toArray⟩:ByteArray)++⟨b.toArray⟩)=⟨(a++b).toArray⟩:=by
 apply ByteArray.ext;simp[ByteArray.data_append]
theorem pB(w:World)(z:Int)(r:Nat)(d:List UInt8)(b:z=r)(c:r<1000000000)(hd:Lib.decDigits r=d)(a:Tab w):
 Calls Tryz.prog 28 #[.int .i64 z] w (av w (ae d)):=by
 subst b hd;rw[<-GB];exact mz w r (by omega) (by omega) a
theorem mA(w:World)(z:Int)(j:Nat)(d:List UInt8)(a:z=j)(b:j<1000000)(hd:Lib.repeatL [48] j=d):
 Calls Tryz.prog 65 #[.string ⟨#[48]⟩,.int .i64 z] w (av w (ae d)):=by
 subst a hd;exact Tryz.strings_Repeat ⟨#[48]⟩ j w (by omega) (by show 1*j<=_;omega)
theorem lS(w:World)(A:Option Addr)(n c q r b:Nat)(g:Wd w A n c (au q))(h:n<=1099511627776)(f:q%1000000000=r)(d:q/1000000000=b):
 Calls Tryz.prog 220 #[.slice A n c,.int .u32 1000000000] w fun e a=>∃A1 n1 c1,e=.returned (.tuple #[.slice A1 n1 c1,.int .u32 (r:Nat)])/\Wd a A1 n1 c1 (au b)/\Below w.heap.size w a:=by
 have:=tS w A n c (au q) g h 1000000000 (by omega) (by omega);rw[ai,f,d]at this;exact this
theorem nK.one(w:World)(S:List UInt8):nK (w.alloc (.cells #[ae S] 9)) (.slice (some ⟨w.heap.size,0,none⟩) 1 1) [S]:=by
 refine .inr ⟨by simp,_,_,rfl,by simp,Qr,fun j a=>?_⟩;rw[World.cell?_alloc_new];have:j=0:=by simpa using a
 subst this;rfl
theorem nK.own{w:World}{base g cap:Nat}{S:List UInt8}{a:List (List UInt8)}(h:w.ownsRow base 9 1 (.slice (some ⟨g,0,none⟩) (1+a.length) cap) (1+a.length) ([ae S]++strs a))(d:g<w.heap.size):
 nK w (.slice (some ⟨g,0,none⟩) (1+a.length) cap) (S::a):=by
 refine .inr ⟨by simp,g,cap,by rw[oP,Nat.add_comm],d,?_,fun j c=>?_⟩
 ·rcases h.2 with⟨e,_⟩|⟨g',f,b,e,_,_,i,_⟩
  ·exact absurd e (by simp)
  injection e with _ _ e2;rw[oP];omega
 rw[h.cellAt j (by rw[oP]at c;omega)];rfl
def EN(N:Nat)(W0 wr:World)(m p:Value):Prop:=∃A1 n1 c1 q ps,m=.slice A1 n1 c1/\n1<=1099511627000/\uX (Wd wr A1 n1 c1 (au q)/\lM N q ps/\nK wr p ps)/\Below W0.heap.size W0 wr
theorem Dq(w:World)(b:Bool)(A n c l)(wa:Wd w A n c l)(hn:n<=1000000000)(ht:Tab w):
 Calls Tryz.prog 182 #[.agg #[.bool b,.slice A n c]] w (av w (ae (Lib.itoa (WD.z ⟨b,l⟩)))):=by
 have HL:=Qh wa.2.1;have a7:aX (WD.m ⟨b,l⟩):=WD.canon_m wa.1;obtain⟨i0,ba,a2,bb,a9⟩:=Gb re;obtain⟨M,hM⟩:∃M,WD.m ⟨b,l⟩=au M:=⟨_,(eY a7).symm⟩;have U:(WD.z ⟨b,l⟩).natAbs=M:=by rw[lD,hM,ai]
 obtain⟨T,hT⟩:∃T,T=Lib.itoa (WD.z ⟨b,l⟩):=⟨_,rfl⟩;rw[iR,U]at hT;rw[iR,U,<-hT];have HT:=Qh hT;have J:=Qh ht;have HM:=Qh hM;have HA:=Qh U;clear hT ht hM U a7;have b0:Below w.heap.size w (w.alloc (.cells #[.bool b,.slice A n c] 194)):=(kz _ _).alloc Qr _;have x0:Blk (w.alloc (.cells #[.bool b,.slice A n c] 194)) w.heap.size 194 #[.bool b,.slice A n c]:=aj _ _ _ rfl;by_cases al:M=0
 ·subst al
  have hz:(WD.z ⟨b,l⟩)<0->False:=by have:=HA.out;omega
  have bk:T=[48]:=by rw[HT.out,kl (fun h=>hz h)];exact Lib.decDigits_one (by omega)
  subst bk;go_in;go_wp2_with (go_at_call 194;refine(cU _ b A n c l ?_ ?_).mono ?_;(exact wa.belw b0);(omega);rintro e w1⟨A1,n1,c1,rfl,V,I⟩;rw[HM.out,ax]at V;obtain rfl:n1=0:=V.2.1);go_ret;exact⟨rfl,b0.trans (I.mono b0.size)⟩
 have a6:0<M:=Nat.pos_of_ne_zero al;have an:=Qh a6;clear al a6;go_in;go_wp2_with (go_at_call 194;refine(cU _ b A n c l ?_ ?_).mono ?_;(exact wa.belw b0);(omega);rintro e w1⟨A1,n1,c1,rfl,V,I⟩;have aS:n1<=1000000000:=V.m_len (by rw[<-HL.out];exact hn);rw[HM.out]at V;have e1:((n1:Int)==0)=false:=(by have h9:n1≠0:=(fun e=>by have h8:=V.2.1;rw[e]at h8;exact absurd (aV.1 (lq h8.symm)) (by have:=an.out;omega));simp;exact h9));clear e1;go_loopw [3,4] (fun mv pv wr=>EN M w1 wr mv pv) (fun mv _ wr=>valOf wr mv)
 case atStart=>exact⟨A1,n1,c1,M,[],rfl,by omega,⟨V,lM.start an.out,.inl ⟨rfl,rfl⟩⟩,aa _⟩
 case round =>
  obtain⟨A3,Y,c3,q,i,rfl,a3,t,B⟩:=hrel;have Q:valOf wr (.slice A3 Y c3)=q:=by rw[t.1.valOf,ai]
  by_cases R:q=0
  ·subst R
   have h0:Y=0:=by have:=t.1.2.1;rw[ax]at this;exact this
   subst h0;have a4:M=M/\Lib.decDigits M=i.flatten:=⟨rfl,t.2.1.2.1 rfl⟩;have a0:=t.2.1.len;have bo:Lib.nDigits M<=10*1000000000:=gf aS (by omega) (by have:=V.vlt Qr;rw[ai]at this;exact this);have x1:Blk w1 w.heap.size 194 #[.bool b,.slice A n c]:=x0.below I (by simp);have x2:=x1.below B x1.lt;have y:=((b0.trans (I.mono b0.size)).trans (B.mono (by have:=I.size;have:=b0.size;omega)));have HX:=Qh x2;have HP:=Qh a4.2;have a5:=Qh (show (WD.z ⟨b,l⟩)=sgn (WD.s ⟨b,l⟩) M by rw[WD.z_eq,HM.out,ai]);clear a4 x1 x2;cases hs:WD.s ⟨b,l⟩
   ·have HS:=Qh hs
    have ac:=Qh (show T=i.flatten by rw[HT.out,HP.out,a5.out,hs,kl (by simp[sgn])];rfl);clear hs
    go_wp2_with (first
     |(go_at_call 62;(with_reducible refine(yD _ _ i ?_ ?_ ?_).mono ?_);(exact t.2.2);omega;omega;rintro e N⟨rfl,a⟩;have x3:=HX.out.below a HX.out.lt;obtain⟨c0,c1⟩:=x3.c2)
     |(go_at_call 195;(with_reducible refine(gV _ b A n c l false ?_ ?_ HS.out).mono ?_);(exact wa.belw (y.trans (a.mono y.size)));omega;rintro e C⟨rfl,f⟩))
    go_ret;refine⟨by rw[ac.out];rfl,(y.trans (a.mono y.size)).trans (f.mono (by have:=a.size;have:=y.size;omega))⟩
   have HS:=Qh hs;have ac:=Qh (show T=45::i.flatten by rw[HT.out,HP.out,a5.out,hs,kZ (by simp[sgn];have:=an.out;omega)];rfl);clear hs;have bs:(i.map List.length).sum<=Lib.nDigits M:=by rw[<-List.length_flatten];exact a0.1
   go_wp2_with (first
    |(go_at_call 62;(with_reducible refine(yD _ _ i ?_ ?_ ?_).mono ?_);(exact t.2.2);omega;omega;rintro e N⟨rfl,a⟩;have x3:=HX.out.below a HX.out.lt;obtain⟨c0,c1⟩:=x3.c2)
    |(go_at_call 195;(with_reducible refine(gV _ b A n c l true ?_ ?_ HS.out).mono ?_);(exact wa.belw (y.trans (a.mono y.size)));omega;rintro e C⟨rfl,f⟩))
   go_ret;refine⟨?_,(y.trans (a.mono y.size)).trans (f.mono (by have:=a.size;have:=y.size;omega))⟩;rw[ac.out];exact mo (fun x=>Ending.returned (.string x)) (lG [45] i.flatten)
  have be:0<q:=Nat.pos_of_ne_zero R;have aT:Y≠0:=fun e=>R (aV.1 (lq (by rw[<-t.1.2.1];exact e)))
  have e1:decide (0<Y)=true:=by simp;omega
  obtain⟨r,hr⟩:=Z9 (q%1000000000);have br:r<1000000000:=by rw[<-hr];exact Nat.mod_lt _ (by omega)
  obtain⟨d,hd⟩:=Z9 (Lib.decDigits r);obtain⟨k,hk⟩:=Z9 (d.length);have ab:Lib.nDigits r=k:=by rw[<-hk,<-hd,GQ]
  have bv:k<=9:=by rw[<-ab];exact py (by omega) br
  obtain⟨j,hj⟩:∃j,k+j=9:=⟨9-k,by omega⟩;obtain⟨z,hz⟩:=Z9 (Lib.repeatL [48] j);have bu:z.length=j:=by rw[<-hz,Lib.repeatL_length];simp
  obtain⟨W,ao⟩:=Z9 (q/1000000000);have Z:=Qh hr;have X:=Qh hd;have HZ:=Qh hz;have O:=Qh ao;have aF:=Qh be;have a8:=Qh ab;have a1:W<q:=by rw[<-ao];omega
  have E:=Qh a1;have y:=((b0.trans (I.mono b0.size)).trans (B.mono (by have:=I.size;have:=b0.size;omega)));have bo:Lib.nDigits M<=10*1000000000:=gf aS (by omega) (by have:=V.vlt Qr;rw[ai]at this;exact this);have a0:=t.2.1.len;clear hr hd hz ao R be aT ab a1;by_cases h0:W=0
  ·subst h0
   by_cases hp0:i=[]
   ·subst hp0
    have F:u4=.slice none 0 0:=by
     rcases t.2.2 with h|h
     ·exact h.2
     exact absurd rfl h.1
    subst F
    go_wp2_with (first
     |(go_at_call 220;(with_reducible refine(lS _ A3 Y c3 q r 0 ?_ ?_ Z.out O.out).mono ?_);(exact t.1);omega;rintro e N⟨A5,n5,c5,rfl,D,a⟩;obtain rfl:n5=0:=(by have h9:=D.2.1;rw[ax]at h9;exact h9))
     |(go_at_call 28;(with_reducible refine(pB _ _ r d ?_ ?_ X.out ?_).mono ?_);(first|rfl|omega);omega;(exact J.out.belw (y.trans (a.mono y.size)));rintro e C⟨rfl,f⟩)
    )
    have H:Below wr.heap.size wr C:=(a.mono Qr).trans (f.mono a.size);have b5:Below N.heap.size N C:=f;go_roundw
    case rel =>
     refine⟨A5,0,c5,0,[d],rfl,?_,⟨(D.belw b5).belw ((kz _ _).alloc Qr _),by have:=t.2.1.last aF.out O.out;rw[O.out,Z.out,X.out]at this;exact this,?_⟩,(B.trans (H.mono B.size)).alloc (Nat.le_trans B.size H.size) _⟩
     ·omega
     have:=nK.one C d;exact this
    case measure =>
     rw[((D.belw b5).belw ((kz _ _).alloc Qr _)).valOf,Q,ai];exact E.out
   have aC:0<i.length:=FW.2 hp0
   obtain⟨g,cap,F,hg,aZ,o⟩:∃g cap,u4=.slice (some ⟨g,0,none⟩) i.length cap/\g<wr.heap.size/\i.length<=cap/\∀j,j<i.length->wr.cell? ⟨g,j,none⟩=(strs i)[j]?:=by
    rcases t.2.2 with h|h
    ·exact absurd h.1 hp0
    exact h.2
   subst F
   have v:∀w',Below wr.heap.size wr w'->∀S j u,(strs i)[j]?=some u->(w'.alloc (.cells #[S] 9)).cell? ((⟨g,0,none⟩:Addr).add j)=some u:=by
    intro w' hb S j u hu;have hj:j<i.length:=by have:=(ts.1 hu).1;rw[kF]at this;exact this
    rw[Lib.add_plain,Nat.zero_add,<-hu,<-o j hj];simp only[World.cell?,GR _ _ _ (Nat.lt_of_lt_of_le hg hb.size),hb.block g hg]
   go_wp2_with (first
    |(go_at_call 220;(with_reducible refine(lS _ A3 Y c3 q r 0 ?_ ?_ Z.out O.out).mono ?_);(exact t.1);omega;rintro e N⟨A5,n5,c5,rfl,D,a⟩;obtain rfl:n5=0:=(by have h9:=D.2.1;rw[ax]at h9;exact h9))
    |(go_at_call 28;(with_reducible refine(pB _ _ r d ?_ ?_ X.out ?_).mono ?_);(first|rfl|omega);omega;(exact J.out.belw (y.trans (a.mono y.size)));rintro e C⟨rfl,f⟩)
    |(at_builtin;refine Gc _ rfl _ _ _ rfl C.heap.size 9 i0 (.string ⟨#[]⟩) 1 16 Tryz.underlying113 ba a2 bb a9 rfl (by omega) _ 1 [ae d] rfl (F4 C #[ae d] 1 Qr (by unfold maxLen;omega) rfl) ⟨g,0,none⟩ i.length cap (strs i) rfl (by rw[kF,Nat.mul_one]) ?_ (rc i) aC (by unfold maxLen;omega) (by omega) (by simp) (C.heap.size+1) (by simp) ?_;(exact v _ ((a.mono Qr).trans (f.mono a.size)) _);intro gx bd w5 G p bn P)
   )
   have H:Below wr.heap.size wr C:=(a.mono Qr).trans (f.mono a.size);have b5:Below N.heap.size N C:=f;have bg:Below C.heap.size C w5:=((kz _ _).alloc Qr _).grown p (by simp) (da (F4 (e:=9) (size:=1) C #[ae d] 1 Qr (by unfold maxLen;omega) rfl));have ad:Below w1.heap.size w1 w5:=((B.trans (H.mono B.size)).alloc (Nat.le_trans B.size H.size) _).grown p (by have:=B.size;have:=H.size;simp;omega) (fun k hk=>Nat.le_trans (Nat.le_trans B.size H.size) ((da (F4 (e:=9) (size:=1) C #[ae d] 1 Qr (by unfold maxLen;omega) rfl)) k hk));go_roundw
   case rel =>
    refine⟨A5,0,c5,0,d::i,rfl,?_,⟨(D.belw b5).belw bg,by have:=t.2.1.last aF.out O.out;rw[O.out,Z.out,X.out]at this;exact this,?_⟩,ad⟩
    ·omega
    refine nK.own (base:=C.heap.size) ?_ P;exact G
   case measure =>
    rw[((D.belw b5).belw bg).valOf,Q,ai];exact E.out
  by_cases hp0:i=[]
  ·subst hp0
   have F:u4=.slice none 0 0:=by
    rcases t.2.2 with h|h
    ·exact h.2
    exact absurd rfl h.1
   subst F
   go_wp2_with (first
    |(go_at_call 220;(with_reducible refine(lS _ A3 Y c3 q r W ?_ ?_ Z.out O.out).mono ?_);(exact t.1);omega;rintro e N⟨A5,n5,c5,rfl,D,a⟩;have e5:decide (0<n5)=true:=(by have:n5≠0:=(fun e=>h0 (aV.1 (lq (by rw[<-D.2.1];exact e))));simp;omega))
    |(go_at_call 28;(with_reducible refine(pB _ _ r d ?_ ?_ X.out ?_).mono ?_);(first|rfl|omega);omega;(exact J.out.belw (y.trans (a.mono y.size)));rintro e C⟨rfl,f⟩)
    |(go_at_call 65;(with_reducible refine(mA _ _ j z ?_ ?_ HZ.out).mono ?_);omega;omega;rintro e K⟨rfl,L⟩)
   )
   have H:Below wr.heap.size wr K:=((a.mono Qr).trans (f.mono a.size)).trans (L.mono (Nat.le_trans a.size f.size));have b5:Below N.heap.size N K:=f.trans (L.mono f.size);go_roundw
   case rel =>
    refine⟨A5,n5,c5,W,[(z++d)],rfl,?_,⟨(D.belw b5).belw ((kz _ _).alloc Qr _),by have:=t.2.1.more (by rw[O.out];omega);rw[O.out,Z.out,a8.out,X.out,show 9-k=j by omega,HZ.out]at this;exact this,?_⟩,(B.trans (H.mono B.size)).alloc (Nat.le_trans B.size H.size) _⟩
    ·rw[D.2.1];exact Nat.le_trans (ay (Nat.lt_trans (by first|exact E.out|(have:=E.out;omega)) (by have:=t.1.vlt Qr;rw[ai]at this;exact this))) a3
    have:=nK.one K (z++d);rw[show ae (z++d)=.string (⟨z.toArray⟩++⟨d.toArray⟩) by rw[lG]]at this;exact this
   case measure =>
    rw[((D.belw b5).belw ((kz _ _).alloc Qr _)).valOf,Q,ai];exact E.out
  have aC:0<i.length:=FW.2 hp0
  obtain⟨g,cap,F,hg,aZ,o⟩:∃g cap,u4=.slice (some ⟨g,0,none⟩) i.length cap/\g<wr.heap.size/\i.length<=cap/\∀j,j<i.length->wr.cell? ⟨g,j,none⟩=(strs i)[j]?:=by
   rcases t.2.2 with h|h
   ·exact absurd h.1 hp0
   exact h.2
  subst F
  have v:∀w',Below wr.heap.size wr w'->∀S j u,(strs i)[j]?=some u->(w'.alloc (.cells #[S] 9)).cell? ((⟨g,0,none⟩:Addr).add j)=some u:=by
   intro w' hb S j u hu;have hj:j<i.length:=by have:=(ts.1 hu).1;rw[kF]at this;exact this
   rw[Lib.add_plain,Nat.zero_add,<-hu,<-o j hj];simp only[World.cell?,GR _ _ _ (Nat.lt_of_lt_of_le hg hb.size),hb.block g hg]
  go_wp2_with (first
   |(go_at_call 220;(with_reducible refine(lS _ A3 Y c3 q r W ?_ ?_ Z.out O.out).mono ?_);(exact t.1);omega;rintro e N⟨A5,n5,c5,rfl,D,a⟩;have e5:decide (0<n5)=true:=(by have:n5≠0:=(fun e=>h0 (aV.1 (lq (by rw[<-D.2.1];exact e))));simp;omega))
   |(go_at_call 28;(with_reducible refine(pB _ _ r d ?_ ?_ X.out ?_).mono ?_);(first|rfl|omega);omega;(exact J.out.belw (y.trans (a.mono y.size)));rintro e C⟨rfl,f⟩)
   |(go_at_call 65;(with_reducible refine(mA _ _ j z ?_ ?_ HZ.out).mono ?_);omega;omega;rintro e K⟨rfl,L⟩)
   |(at_builtin;refine Gc _ rfl _ _ _ rfl K.heap.size 9 i0 (.string ⟨#[]⟩) 1 16 Tryz.underlying113 ba a2 bb a9 rfl (by omega) _ 1 [.string (⟨z.toArray⟩++⟨d.toArray⟩)] rfl (F4 K #[.string (⟨z.toArray⟩++⟨d.toArray⟩)] 1 Qr (by unfold maxLen;omega) rfl) ⟨g,0,none⟩ i.length cap (strs i) rfl (by rw[kF,Nat.mul_one]) ?_ (rc i) aC (by unfold maxLen;omega) (by omega) (by simp) (K.heap.size+1) (by simp) ?_;(exact v _ (((a.mono Qr).trans (f.mono a.size)).trans (L.mono (Nat.le_trans a.size f.size))) _);intro gx bd w5 G p bn P)
  )
  have H:Below wr.heap.size wr K:=((a.mono Qr).trans (f.mono a.size)).trans (L.mono (Nat.le_trans a.size f.size));have b5:Below N.heap.size N K:=f.trans (L.mono f.size);have bg:Below K.heap.size K w5:=((kz _ _).alloc Qr _).grown p (by simp) (da (F4 (e:=9) (size:=1) K #[.string (⟨z.toArray⟩++⟨d.toArray⟩)] 1 Qr (by unfold maxLen;omega) rfl));have ad:Below w1.heap.size w1 w5:=((B.trans (H.mono B.size)).alloc (Nat.le_trans B.size H.size) _).grown p (by have:=B.size;have:=H.size;simp;omega) (fun k hk=>Nat.le_trans (Nat.le_trans B.size H.size) ((da (F4 (e:=9) (size:=1) K #[.string (⟨z.toArray⟩++⟨d.toArray⟩)] 1 Qr (by unfold maxLen;omega) rfl)) k hk));go_roundw
  case rel =>
   refine⟨A5,n5,c5,W,(z++d)::i,rfl,?_,⟨(D.belw b5).belw bg,by have:=t.2.1.more (by rw[O.out];omega);rw[O.out,Z.out,a8.out,X.out,show 9-k=j by omega,HZ.out]at this;exact this,?_⟩,ad⟩
   ·rw[D.2.1];exact Nat.le_trans (ay (Nat.lt_trans E.out (by have:=t.1.vlt Qr;rw[ai]at this;exact this))) a3
   refine nK.own (base:=K.heap.size) ?_ P;rw[show ae (z++d)=.string (⟨z.toArray⟩++⟨d.toArray⟩) by rw[lG]];exact G
  case measure =>
   rw[((D.belw b5).belw bg).valOf,Q,ai];exact E.out

theorem aK(l:List UInt8):(⟨l.toArray⟩:ByteArray).toList=l:=by rw[Lib.toList_data]
theorem ah(l:List UInt8):(⟨l.toArray⟩:ByteArray).size=l.length:=rfl
theorem dc(l:List UInt8)(a b:Nat):(⟨l.toArray⟩:ByteArray).extract a b=⟨((l.drop a).take (b-a)).toArray⟩:=by
 apply ByteArray.ext;rw[ByteArray.data_extract];simp
theorem ci(w:World)(l:List UInt8)(m:Bool)(a:dE l=m):Calls Tryz.prog 105 #[ae l,.string ⟨#[45]⟩] w (av w (.bool m)):=by
 subst a;refine(Tryz.strings_HasPrefix ⟨l.toArray⟩ ⟨#[45]⟩ w).mono fun e c ⟨b,hw⟩=>⟨?_,hw ▸ aa _⟩
 rw[b];exact mo (fun x=>Ending.returned (.bool x)) (iU l)
theorem oo(w:World)(l t:List UInt8)(b:cX l=t):Calls Tryz.prog 223 #[ae l,.string ⟨#[45]⟩] w (av w (ae t)):=by
 subst b;refine(Tryz.strings_TrimPrefix ⟨l.toArray⟩ ⟨#[45]⟩ w).mono fun e c ⟨a,hw⟩=>⟨?_,hw ▸ aa _⟩
 rw[a];exact mo (fun x:List UInt8=>Ending.returned (ae x)) (kE l)
theorem yE(w:World)(t x:List UInt8)(b:t.length<=1000000)(a:Lib.trimS t mw=x):Calls Tryz.prog 91 #[ae t,.string ⟨#[48,49,50,51,52,53,54,55,56,57]⟩] w (av w (ae x)):=by
 subst a;exact Any.strings_Trim_laid Tryz.lays160 (by kernel_rfl) ⟨t.toArray⟩ ⟨#[48,49,50,51,52,53,54,55,56,57]⟩ w (by show t.length<=_;omega) (by decide) (ascii_of_all (by decide))
theorem sQ(w:World)(t:List UInt8)(x:Nat)(h:t.length<=9)(d:t≠[])(c:t.all aU=true)(f:ap t=x):Calls Tryz.prog 90 #[ae t] w (av w (.tuple #[.int .i64 (x:Nat),.nilIface])):=by
 subst f;refine(Tryz.strconv_Atoi ⟨t.toArray⟩ (ap t:Nat) (by show t.length<=18;omega) (yw c d) w).mono fun e g ⟨a,t,hw⟩=>⟨a,?_⟩
 rw[hw];exact⟨rfl,rfl,rfl,by rw[Lib.bytesWorld_size];omega,fun j b=>Lib.bytesWorld_at_old _ _ _ j b⟩
def yF(T:List UInt8)(W0 wr:World)(tv mv:Value):Prop:=∃pre rest A1 n1 c1,tv=ae rest/\mv=.slice A1 n1 c1/\n1<=65536/\rest.length<=65536/\uX (nI T pre rest/\pre.all aU=true/\rest.all aU=true/\Wd wr A1 n1 c1 (au (ap pre)))/\Below W0.heap.size W0 wr
def yG:Value->Nat
  | .string s=>s.size
  |_=>0
theorem yH(w:World)(A:Option Addr)(n c x:Nat)(h:Wd w A n c (au x))(i:n<=1099511627776)(f:Option Addr)(a d y:Nat)(g:Wd w f a d (au y))(b:a<=1099511627776):
 Calls Tryz.prog 224 #[.slice A n c,.slice f a d] w (gS w (au (x+y))):=by
 have:=xN w A n c (au x) h i f a d (au y) g b;rw[ai,ai]at this;exact this
theorem ue(w:World)(A:Option Addr)(n c x:Nat)(f:Wd w A n c (au x))(b:n<=1099511627776)(g:Nat)(z:Int)(y:Nat)(h:z=y)(i:y<4294967296)(hb:Blk w g 58 #[.int .u32 z]):
 Calls Tryz.prog 225 #[.slice A n c,.slice (some ⟨g,0,none⟩) 1 1] w (gS w (au (x*y))):=by
 subst h;have d:Wd w (some ⟨g,0,none⟩) 1 1 [y]:=Blk.wdN (l:=[y]) hb (by intro x a;simp at a;omega) rfl;have:=tR w A n c (au x) f b (some ⟨g,0,none⟩) 1 1 [y] d (by omega);rw[ai,show val [y]=y by simp[val]]at this;exact this
theorem yI(w:World)(g:Nat)(z:Int)(y:Nat)(c:z=y)(d:y<4294967296)(hb:Blk w g 58 #[.int .u32 z]):
 Calls Tryz.prog 226 #[.slice (some ⟨g,0,none⟩) 1 1] w (gS w (au y)):=by
 subst c;have b:Wd w (some ⟨g,0,none⟩) 1 1 [y]:=Blk.wdN (l:=[y]) hb (by intro x a;simp at a;omega) rfl;have:=gB w (some ⟨g,0,none⟩) 1 1 [y] b (by omega);rw[show val [y]=y by simp[val]]at this;exact this
theorem sR(w:World)(l:List UInt8)(hl:l.length<=65536)(hb:okZ l=true):
 Calls Tryz.prog 188 #[ae l] w (CI w .nilIface (im l) l.length):=by
 have bb:=ah l;have y:=vG l;have a0:=Nat.le_trans y hl;obtain⟨m,hm⟩:=Z9 (dE l);obtain⟨t,ht⟩:=Z9 (cX l);obtain⟨h0,h1,h2⟩:=vH hb;have hv:im l=if m then -(ap t:Int) else ap t:=by unfold im;rw[hm,ht]
 rw[hm,ht]at h2;rw[ht]at a0 y h0 h1;have HM:=Qh (And.intro hm ht);have HV:=Qh hv;have b0:Below w.heap.size w (w.alloc (.cells #[.bool false,.slice none 0 0] 194)):=(aa w).alloc Qr _;have x0:Blk (w.alloc (.cells #[.bool false,.slice none 0 0] 194)) w.heap.size 194 #[.bool false,.slice none 0 0]:=aj _ _ _ rfl;clear hb hm ht hv;obtain⟨c,r,rfl⟩:=Ia h0;have R:=aK (c::r);have Q:=aK [];have aS:=ah (c::r);have HX:=Qh (BC.2 h1);have aZ:=Qh (show (c::r:List UInt8).length<=1000000 by omega);have S:=Qh h1
 have aC:c≠48\/(c=48/\r=[]/\m=false):=by
  by_cases W:c=48
  ·refine .inr ⟨W,?_,?_⟩
   ·cases r with
    |nil=>rfl
    |cons d rs=>exact absurd ⟨by rw[W];rfl,.inl (by simp)⟩ h2
   cases m with
   |false=>rfl
   |true=>exact absurd ⟨by rw[W];rfl,.inr rfl⟩ h2
  exact .inl W
 have a1:=Qh a0
 have aT:=Qh (show (im l).natAbs<4294967296^l.length by
  rw[HV.out]
  refine Nat.lt_of_lt_of_le (show (if m=true then -(ap (c::r):Int) else (ap (c::r):Int)).natAbs<4294967296^(c::r).length by
   have:=pA h1
   split<;>omega) (Nat.pow_le_pow_right (by omega) y))
 clear h0 h1 h2;rcases aC with W|⟨rfl,rfl,rfl⟩
 ·have a2:c.toNat≠48:=fun e=>W (GC e)
  have a4:¬(c.toNat:Int)=48:=by omega
  have a8:((c.toNat:Int)==48)=false:=by simp;omega
  have aF:∀h,(⟨(c::r).toArray⟩:ByteArray)[0]' h=c:=fun h=>rfl
  go_in
  go_wp2_with (first
   |(go_at_call 105;(with_reducible refine(ci _ l _ HM.out.1).mono ?_);rintro e w1⟨rfl,K⟩;have b1:=b0.trans (K.mono b0.size);have x1:=x0.below K x0.lt)
   |(go_at_call 223;(with_reducible refine(oo _ l _ HM.out.2).mono ?_);rintro e w2⟨rfl,A⟩;have b2:=b1.trans (A.mono b1.size);have x2:=x1.below A x1.lt)
   |(go_at_call 91;(with_reducible refine(yE _ _ [] ?_ HX.out).mono ?_);(exact aZ.out);rintro e w3⟨rfl,B⟩;have b3:=b2.trans (B.mono b2.size);have x3:=x2.below B x2.lt))
  clear aF a4 a8 a2 W R Q aS;go_loopw [5,6] (fun T mv wr=>yF (c::r) w3 wr T mv) (fun T _ _=>yG T)
  case atStart=>exact⟨[],(c::r),none,0,0,rfl,rfl,by omega,a1.out,⟨nI.start _,rfl,S.out,by rw[show ap []=0 from rfl,ax];exact Wd.nil_ _⟩,aa _⟩
  case round =>
   obtain⟨pre,rest,A1,n1,c1,rfl,rfl,a3,ab,g,P⟩:=hrel;have bw:=b3.trans (P.mono b3.size);have x4:=x3.below P x3.lt;by_cases o:rest=[]
   ·subst o
    have I:=g.1.fin;subst I;have z:=ah [];go_wp2_with (go_at_call 197;refine(pg _ m A1 n1 c1 (au (ap (c::r))) ?_ ?_).mono ?_;(exact g.2.2.2);omega;rintro e M⟨A5,n5,c5,rfl,Z,a⟩;have b5:=bw.trans (a.mono bw.size);have x5:=x4.below a x4.lt;obtain⟨d0,d1⟩:=x5.c2;obtain⟨f0,f1⟩:=x5.f2);rw[ai]at Z;have hz:sgn m (ap (c::r))=im l:=by rw[HV.out];rfl
    rw[hz]at Z;refine zr1 (.tuple #[.agg #[.bool _,.slice A5 n5 c5],.nilIface]) ?_;exact⟨_,_,_,_,rfl,IV.mk_ (Z.keep (kp2 x5.box (by decide) _ _ _ _)) (by rw[ai,hz]) aT.out,(b5.setCell (by dsimp only;omega) _).setCell (by dsimp only;omega) _⟩
   have N:0<rest.length:=FW.2 o;obtain⟨L,i⟩:=Z9 (rest.length);obtain⟨k,Y⟩:=Z9 ((L-1)%9);have a9:k<9:=by rw[<-Y];exact Nat.mod_lt _ (by omega)
   have b:=g.1.step (n:=k+1) N (by rw[i,Y]);rw[i]at b N ab;have a5:=b.1;have z:(⟨rest.toArray⟩:ByteArray).size=L:=i;have e1:((L:Int)-1)%9=(k:Int):=by omega
   have e2:(⟨rest.toArray⟩:ByteArray).extract 0 (k+1)=⟨(rest.take (k+1)).toArray⟩:=by rw[dc];simp
   have e3:(⟨rest.toArray⟩:ByteArray).extract (k+1) L=⟨(rest.drop (k+1)).toArray⟩:=by rw[dc,ms];rw[vu,i];exact Qr
   obtain⟨x,U⟩:=Z9 (ap (rest.take (k+1)));have f:=qY g.2.2.1 (k+1)
   have a7:x<1000000000:=by
    have j:=dQ f;rw[U]at j;refine Nat.lt_of_lt_of_le j (Nat.le_trans (Nat.pow_le_pow_right (by omega) (show (rest.take (k+1)).length<=9 by rw[vq];omega)) (by decide))
   have ac:=qZ g.2.2.1 (k+1);have p:=Qh b;have F:=Qh U;have q:=Qh f;have ad:=Qh i;have H:(rest.drop (k+1)).length=L-(k+1):=by rw[vu,i]
   have s:=Qh H;have G:(rest.take (k+1)).length<=9:=by rw[vq];omega
   have u:rest.take (k+1)≠[]:=fun e=>by have:=mo List.length e;rw[vq,i]at this;simp at this;omega
   have E:=Qh (And.intro G u);have al:=dQ (show (pre++rest.take (k+1)).all aU=true by rw[Gv,g.2.1,f];rfl);clear Y b U f i o H G u
   go_wp2_with (first
    |(go_at_call 90;(with_reducible refine(sQ _ (rest.take (k+1)) x ?_ ?_ ?_ F.out).mono ?_);(exact E.out.1);(exact E.out.2);(exact q.out);rintro e M⟨rfl,a⟩;have b5:Below wr.heap.size wr (M.alloc (.cells #[.int .u32 1000000000] 58)):=a.alloc a.size _;have y5:Blk (M.alloc (.cells #[.int .u32 1000000000] 58)) M.heap.size 58 #[.int .u32 1000000000]:=aj _ _ _ rfl)
    |(go_at_call 225;(with_reducible refine(ue _ A1 n1 c1 (ap pre) ?_ ?_ M.heap.size 1000000000 1000000000 ?_ ?_ ?_).mono ?_);(exact g.2.2.2.belw b5);omega;rfl;omega;(exact y5);rintro e O⟨A6,n6,c6,rfl,h6,an⟩;have X:=b5.trans (an.mono b5.size);have a6:n6<=1000000000:=(by have j:=h6.2.1;rw[j];refine Nat.le_trans (ay (k:=n1+1) ?_) (by omega);have D:=(g.2.2.2).vlt Qr;rw[ai]at D;rw[Nat.pow_succ];exact Nat.mul_lt_mul'' D (by omega)))
    |(go_at_call 226;(with_reducible refine(yI _ O.heap.size (x:Int) x ?_ ?_ ?_).mono ?_);(first|rfl|omega);omega;(exact aj _ _ _ rfl);rintro e w7⟨A7,n7,c7,rfl,h7,J⟩;have b7:Below wr.heap.size wr w7:=(X.alloc X.size _).trans (J.mono (by have:=X.size;simp;omega));have ao:Below O.heap.size O w7:=((aa O).alloc Qr _).trans (J.mono (by simp));have ba:n7<=1000000000:=(by have j:=h7.2.1;rw[j];exact Nat.le_trans (ay (k:=1) (by omega)) (by omega)))
    |(go_at_call 224;(with_reducible refine(yH _ A6 n6 c6 (ap pre*1000000000) ?_ ?_ A7 n7 c7 x ?_ ?_).mono ?_);(exact h6.belw ao);omega;(exact h7);omega;rintro e w8⟨A8,n8,c8,rfl,D,V⟩;have b8:=b7.trans (V.mono b7.size)))
   have C:ap pre*1000000000+x=ap (pre++rest.take (k+1)):=by rw[p.out.2.2.2.2,F.out]
   go_roundw
   case rel =>
    refine⟨pre++rest.take (k+1),rest.drop (k+1),A8,n8,c8,rfl,rfl,?_,by rw[s.out];omega,⟨p.out.2.2.2.1,by rw[Gv,g.2.1,q.out];rfl,ac,by rw[<-C];exact D⟩,P.trans (b8.mono P.size)⟩;rw[D.2.1,C];refine Nat.le_trans (ay (Nat.lt_of_lt_of_le al (pz _))) ?_;have j:=mo List.length p.out.2.2.2.1.1;rw[kc]at j;omega
   case measure =>
    show (rest.drop (k+1)).length<rest.length;rw[s.out,ad.out];omega
 go_in
 go_wp2_with (first
  |(go_at_call 105;(with_reducible refine(ci _ l _ HM.out.1).mono ?_);rintro e w1⟨rfl,K⟩;have b1:=b0.trans (K.mono b0.size);have x1:=x0.below K x0.lt)
  |(go_at_call 223;(with_reducible refine(oo _ l _ HM.out.2).mono ?_);rintro e w2⟨rfl,A⟩;have b2:=b1.trans (A.mono b1.size);have x2:=x1.below A x1.lt)
  |(go_at_call 91;(with_reducible refine(yE _ _ [] ?_ HX.out).mono ?_);(exact aZ.out);rintro e w3⟨rfl,B⟩;have b3:=b2.trans (B.mono b2.size);have x3:=x2.below B x2.lt))
 clear R Q;go_loopw [5,6] (fun T mv wr=>yF [48] w3 wr T mv) (fun T _ _=>yG T)
 case atStart=>exact⟨[],[48],none,0,0,rfl,rfl,by omega,a1.out,⟨nI.start _,rfl,S.out,by rw[show ap []=0 from rfl,ax];exact Wd.nil_ _⟩,aa _⟩
 case round =>
  obtain⟨pre,rest,A1,n1,c1,rfl,rfl,a3,ab,g,P⟩:=hrel;have bw:=b3.trans (P.mono b3.size);have x4:=x3.below P x3.lt;by_cases o:rest=[]
  ·subst o
   have I:=g.1.fin;subst I;have z:=ah [];go_wp2_with (go_at_call 197;refine(pg _ false A1 n1 c1 (au (ap [48])) ?_ ?_).mono ?_;(exact g.2.2.2);omega;rintro e M⟨A5,n5,c5,rfl,Z,a⟩;have b5:=bw.trans (a.mono bw.size);have x5:=x4.below a x4.lt;obtain⟨d0,d1⟩:=x5.c2;obtain⟨f0,f1⟩:=x5.f2);rw[ai]at Z;have hz:sgn false (ap [48])=im l:=by rw[HV.out];rfl
   rw[hz]at Z;refine zr1 (.tuple #[.agg #[.bool _,.slice A5 n5 c5],.nilIface]) ?_;exact⟨_,_,_,_,rfl,IV.mk_ (Z.keep (kp2 x5.box (by decide) _ _ _ _)) (by rw[ai,hz]) aT.out,(b5.setCell (by dsimp only;omega) _).setCell (by dsimp only;omega) _⟩
  have N:0<rest.length:=FW.2 o;obtain⟨L,i⟩:=Z9 (rest.length);obtain⟨k,Y⟩:=Z9 ((L-1)%9);have a9:k<9:=by rw[<-Y];exact Nat.mod_lt _ (by omega)
  have b:=g.1.step (n:=k+1) N (by rw[i,Y]);rw[i]at b N ab;have a5:=b.1;have z:(⟨rest.toArray⟩:ByteArray).size=L:=i;have e1:((L:Int)-1)%9=(k:Int):=by omega
  have e2:(⟨rest.toArray⟩:ByteArray).extract 0 (k+1)=⟨(rest.take (k+1)).toArray⟩:=by rw[dc];simp
  have e3:(⟨rest.toArray⟩:ByteArray).extract (k+1) L=⟨(rest.drop (k+1)).toArray⟩:=by rw[dc,ms];rw[vu,i];exact Qr
  obtain⟨x,U⟩:=Z9 (ap (rest.take (k+1)));have f:=qY g.2.2.1 (k+1)
  have a7:x<1000000000:=by
   have j:=dQ f;rw[U]at j;refine Nat.lt_of_lt_of_le j (Nat.le_trans (Nat.pow_le_pow_right (by omega) (show (rest.take (k+1)).length<=9 by rw[vq];omega)) (by decide))
  have ac:=qZ g.2.2.1 (k+1);have p:=Qh b;have F:=Qh U;have q:=Qh f;have ad:=Qh i;have H:(rest.drop (k+1)).length=L-(k+1):=by rw[vu,i]
  have s:=Qh H;have G:(rest.take (k+1)).length<=9:=by rw[vq];omega
  have u:rest.take (k+1)≠[]:=fun e=>by have:=mo List.length e;rw[vq,i]at this;simp at this;omega
  have E:=Qh (And.intro G u);have al:=dQ (show (pre++rest.take (k+1)).all aU=true by rw[Gv,g.2.1,f];rfl);clear Y b U f i o H G u
  go_wp2_with (first
   |(go_at_call 90;(with_reducible refine(sQ _ (rest.take (k+1)) x ?_ ?_ ?_ F.out).mono ?_);(exact E.out.1);(exact E.out.2);(exact q.out);rintro e M⟨rfl,a⟩;have b5:Below wr.heap.size wr (M.alloc (.cells #[.int .u32 1000000000] 58)):=a.alloc a.size _;have y5:Blk (M.alloc (.cells #[.int .u32 1000000000] 58)) M.heap.size 58 #[.int .u32 1000000000]:=aj _ _ _ rfl)
   |(go_at_call 225;(with_reducible refine(ue _ A1 n1 c1 (ap pre) ?_ ?_ M.heap.size 1000000000 1000000000 ?_ ?_ ?_).mono ?_);(exact g.2.2.2.belw b5);omega;rfl;omega;(exact y5);rintro e O⟨A6,n6,c6,rfl,h6,an⟩;have X:=b5.trans (an.mono b5.size);have a6:n6<=1000000000:=(by have j:=h6.2.1;rw[j];refine Nat.le_trans (ay (k:=n1+1) ?_) (by omega);have D:=(g.2.2.2).vlt Qr;rw[ai]at D;rw[Nat.pow_succ];exact Nat.mul_lt_mul'' D (by omega)))
   |(go_at_call 226;(with_reducible refine(yI _ O.heap.size (x:Int) x ?_ ?_ ?_).mono ?_);(first|rfl|omega);omega;(exact aj _ _ _ rfl);rintro e w7⟨A7,n7,c7,rfl,h7,J⟩;have b7:Below wr.heap.size wr w7:=(X.alloc X.size _).trans (J.mono (by have:=X.size;simp;omega));have ao:Below O.heap.size O w7:=((aa O).alloc Qr _).trans (J.mono (by simp));have ba:n7<=1000000000:=(by have j:=h7.2.1;rw[j];exact Nat.le_trans (ay (k:=1) (by omega)) (by omega)))
   |(go_at_call 224;(with_reducible refine(yH _ A6 n6 c6 (ap pre*1000000000) ?_ ?_ A7 n7 c7 x ?_ ?_).mono ?_);(exact h6.belw ao);omega;(exact h7);omega;rintro e w8⟨A8,n8,c8,rfl,D,V⟩;have b8:=b7.trans (V.mono b7.size)))
  have C:ap pre*1000000000+x=ap (pre++rest.take (k+1)):=by rw[p.out.2.2.2.2,F.out]
  go_roundw
  case rel =>
   refine⟨pre++rest.take (k+1),rest.drop (k+1),A8,n8,c8,rfl,rfl,?_,by rw[s.out];omega,⟨p.out.2.2.2.1,by rw[Gv,g.2.1,q.out];rfl,ac,by rw[<-C];exact D⟩,P.trans (b8.mono P.size)⟩;rw[D.2.1,C];refine Nat.le_trans (ay (Nat.lt_of_lt_of_le al (pz _))) ?_;have j:=mo List.length p.out.2.2.2.1.1;rw[kc]at j;omega
  case measure =>
   show (rest.drop (k+1)).length<rest.length;rw[s.out,ad.out];omega
end Go.Proofs.YtfilnhompchciaaGreatDoor
namespace Bn
def dj(c:UInt8):Bool:=(decide (97<=c.toNat)&&decide (c.toNat<=122))||(decide (65<=c.toNat)&&decide (c.toNat<=90))
def bG(c:UInt8):Bool:=dj c||aU c||c==95
def dR(c:UInt8):Bool:=c==123||c==125||c==59||c==46
def fj(c:UInt8):Bool:=c==32||c==9||c==13
def cG:List UInt8->Nat
  |[]=>0
  |c::t=>if dj c then 1+(t.takeWhile bG).length else 0
def d9(r:List UInt8):Nat:=(r.takeWhile aU).length
def kG:List UInt8->Nat
  |45::_=>1
  |_=>0
def uf:List UInt8->Nat
  |c::t=>if (c==46||c==47)&&decide (0<d9 t) then 1+d9 t else 0
  |[]=>0
def cT(r:List UInt8):Nat:=if d9 (r.drop (kG r))=0 then 0 else kG r+d9 (r.drop (kG r))+uf (r.drop (kG r+d9 (r.drop (kG r))))
def sS:List UInt8->Bool
  |c::_=>dj c||c==95||c==46||c==47
  |[]=>false
inductive ot where
  |ok (kind n:Nat)
  |err (x:Nat)
def bQ(r:List UInt8):ot:=match r with
  |[]=>.err 2
  | c::_=>if dR c then .ok 2 1 else if 0<cG r then (if 24<cG r then .err 5 else .ok 0 (cG r))
    else if cT r=0 then .err 2 else if 60<cT r then .err 4 else if sS (r.drop (cT r)) then .err 2 else .ok 1 (cT r)
structure Tkn where
  kind:Nat
  text:List UInt8
  line:Nat
  col:Nat
deriving DecidableEq
inductive lg where
  |ok (l:List Tkn)
  |err (x:Nat)
def lg.push(t:Tkn):lg->lg
  | .ok l=>.ok (t::l)
  | .err x=>.err x
def eB(r:List UInt8):Nat:=(r.takeWhile (fun c=>c != 10)).length
def toks:Nat->List UInt8->Nat->Nat->lg
  |0,_,_,_=>.ok []
  |_+1,[],_,_=>.ok []
  | f+1,c::t,line,col =>
    if c=10 then toks f t (line+1) 1
    else if fj c then toks f t line (col+1)
    else if c=37 then toks f ((c::t).drop (eB (c::t))) line (col+eB (c::t))
    else match bQ (c::t) with
      | .err x=>.err x
      | .ok k n=>(toks f ((c::t).drop n) line (col+n)).push ⟨k,(c::t).take n,line,col⟩
theorem yJ(p:UInt8->Bool)(l:List UInt8):(l.takeWhile p).length<=l.length:=(List.takeWhile_sublist p).length_le
theorem pC(r:List UInt8):d9 r<=r.length:=yJ _ _
theorem kH:∀(r:List UInt8),cG r<=r.length
 |[]=>Qr
 |c::t=>by
  rw[cG];have:=yJ bG t;simp only[oP];split<;>omega
theorem yK:∀(r:List UInt8),uf r<=r.length
 |[]=>Qr
 |c::t=>by
  rw[uf];have:=pC t;simp only[oP];split<;>omega
theorem BF:∀(r:List UInt8),kG r<=r.length
 |[]=>Qr
 |c::t=>by unfold kG;split<;>simp
theorem pD(r:List UInt8):cT r<=r.length:=by
 unfold cT;split
 ·omega
 have a:=pC (r.drop (kG r));have b:=yK (r.drop (kG r+d9 (r.drop (kG r))));have c:=BF r;rw[vu]at a b;omega
theorem ug(r:List UInt8):eB r<=r.length:=yJ _ _
theorem mB{t:List UInt8}:0<eB (37::t):=by unfold eB;simp
theorem eC{r:List UInt8}{k n:Nat}(h:bQ r=.ok k n):0<n/\n<=r.length:=by
 unfold bQ at h;split at h
 ·cases h
 rename_i c t;split at h
 ·injection h with _ h;subst h;simp
 split at h
 ·split at h
  ·cases h
  injection h with _ h;subst h;exact⟨by assumption,kH _⟩
 split at h
 ·cases h
 split at h
 ·cases h
 split at h
 ·cases h
 injection h with _ h;subst h;exact⟨by omega,pD _⟩
theorem ox:∀(f g:Nat) (r:List UInt8) (line col:Nat),r.length<f->r.length<g->toks f r line col=toks g r line col:=by
 intro f
 induction f with
 |zero=>intro g r _ _ h;omega
 |succ f ih =>
  intro g r line col d j
  cases g with
  |zero=>omega
  |succ g =>
   cases r with
   |nil=>rfl
   |cons c t =>
    simp only[oP]at d j;unfold toks;split
    ·exact ih g t _ _ (by omega) (by omega)
    split
    ·exact ih g t _ _ (by omega) (by omega)
    split
    ·rename_i a
     subst a;have b:=mB (t:=t);have i:=ug (37::t);simp only[oP]at i;exact ih g _ _ _ (by rw[vu];simp only[oP];omega) (by rw[vu];simp only[oP];omega)
    split
    ·rfl
    rename_i k n h;have b:=eC h;simp only[oP]at b;rw[ih g _ _ _ (by rw[vu];simp only[oP];omega) (by rw[vu];simp only[oP];omega)]
def iV(s:List UInt8):lg:=toks (s.length+1) s 1 1
end Bn

/- Tokens of joined texts: plain. -/
namespace Bn
theorem yL{p:UInt8->Bool}:∀(l:List UInt8),(l.takeWhile p).all p=true:=by
 intro l
 induction l with
 |nil=>rfl
 |cons x r ih =>
  rw[Gj];split
  ·rename_i h;rw[Gd,h,ih];rfl
  rfl
theorem yM(p:UInt8->Bool)(l:List UInt8):∃d,l=l.takeWhile p++d/\(∀c t,d=c::t->p c=false):=by
 refine⟨l.dropWhile p,(List.takeWhile_append_dropWhile).symm,fun c t h=>?_⟩
 induction l with
 |nil=>simp at h
 |cons x r ih =>
  rw[List.dropWhile_cons]at h;split at h
  ·exact ih h
  injection h with h1 _;subst h1;simp_all
end Bn

/- Tokens of joined texts, blanks and comments between them: plain. -/
namespace Bn
def tk(r:List UInt8)(line col:Nat):lg:=toks (r.length+1) r line col
theorem yN(line col:Nat):tk [] line col=.ok []:=rfl
theorem BG(t:List UInt8)(line col:Nat):tk (10::t) line col=tk t (line+1) 1:=by
 unfold tk;rw[oP]
 conv=>lhs;unfold toks
 rw[kZ rfl]
theorem vI{c:UInt8}(h:fj c=true):c≠10:=by
 rintro rfl;exact absurd h (by decide)
theorem yO{c:UInt8}(h:fj c=true)(t:List UInt8)(line col:Nat):tk (c::t) line col=tk t line (col+1):=by
 unfold tk;rw[oP]
 conv=>lhs;unfold toks
 rw[kl (vI h),kZ h]
theorem Dr(t:List UInt8)(line col:Nat):tk (37::t) line col=tk ((37::t).drop (eB (37::t))) line (col+eB (37::t)):=by
 have b:=mB (t:=t);have a:=ug (37::t);unfold tk
 conv=>lhs;rw[oP];unfold toks
 rw[kl (by decide),kl (by decide),kZ rfl];simp only[oP]at a;refine ox _ _ _ _ _ ?_ ?_<;>rw[vu,oP]<;>omega
theorem rf{c:UInt8}{t:List UInt8}{k n:Nat}(h:bQ (c::t)=.ok k n):c≠10/\fj c=false/\c≠37:=by
 have key:∀c:UInt8,dR c=false->dj c=false->aU c=false->c≠45->∀t k n,bQ (c::t)≠.ok k n:=by
  intro c j b d i t k n h;have hw:cG (c::t)=0:=by rw[cG,b];rfl
  have g:kG (c::t)=0:=by
   unfold kG;split
   ·rename_i a;injection a with a _;exact absurd a i
   rfl
  have f:cT (c::t)=0:=by
   unfold cT;rw[g,Gl,kZ (by unfold d9;rw[Gj,d];rfl)]
  unfold bQ at h;simp[j,hw,f]at h
 refine⟨?_,?_,?_⟩
 ·rintro rfl;exact key 10 (by decide) (by decide) (by decide) (by decide) t k n h
 ·cases hb:fj c
  ·rfl
  exfalso;unfold fj at hb;simp only[Io,xm]at hb;rcases hb with(e|e)|e<;>subst e
  ·exact key 32 (by decide) (by decide) (by decide) (by decide) t k n h
  ·exact key 9 (by decide) (by decide) (by decide) (by decide) t k n h
  exact key 13 (by decide) (by decide) (by decide) (by decide) t k n h
 rintro rfl;exact key 37 (by decide) (by decide) (by decide) (by decide) t k n h
theorem Ds{c:UInt8}{t:List UInt8}{k n:Nat}(h:bQ (c::t)=.ok k n)(line col:Nat):
 tk (c::t) line col=(tk ((c::t).drop n) line (col+n)).push ⟨k,(c::t).take n,line,col⟩:=by
 obtain⟨d,a,f⟩:=rf h;have b:=eC h;unfold tk
 conv=>lhs;rw[oP];unfold toks
 rw[kl d,kl (by rw[a];simp),kl f,h];simp only[oP]at b;dsimp only;rw[ox (t.length+1) (((c::t).drop n).length+1) _ _ _ (by rw[vu,oP];omega) (by omega)]
theorem Dt{c:UInt8}{t:List UInt8}{x:Nat}(h:bQ (c::t)=.err x)(b:c≠10)(a:fj c=false)(d:c≠37)(line col:Nat):tk (c::t) line col=.err x:=by
 unfold tk;rw[oP];unfold toks;rw[kl b,kl (by rw[a];simp),kl d,h]
def shape:lg->Option (List (Nat × List UInt8))
  | .ok l=>some (l.map fun t=>(t.kind,t.text))
  | .err _=>none
def iE(k:Nat)(x:List UInt8):Prop:=∃r n,bQ r=.ok k n/\x=r.take n
theorem vJ:∀(f:Nat) (r:List UInt8) (line col:Nat) (l:List Tkn),toks f r line col=.ok l->∀t∈l,iE t.kind t.text:=by
 intro f
 induction f with
 |zero=>intro r line col l h t a;unfold toks at h;injection h with h;subst h;cases a
 |succ f ih =>
  intro r line col l h t a
  cases r with
  |nil=>unfold toks at h;injection h with h;subst h;cases a
  |cons c s =>
   unfold toks at h;split at h
   ·exact ih _ _ _ _ h t a
   split at h
   ·exact ih _ _ _ _ h t a
   split at h
   ·exact ih _ _ _ _ h t a
   split at h
   ·cases h
   rename_i k n b
   cases hx:toks f ((c::s).drop n) line (col+n) with
   |err x=>rw[hx]at h;cases h
   |ok l' =>
    rw[hx]at h;injection h with h;subst h;rcases Gh.1 a with e|e
    ·subst e;exact⟨_,_,b,rfl⟩
    exact ih _ _ _ _ hx t e
end Bn

/- Walks: tokens: what a byte is. -/
namespace Go.Proofs.YtfilnhompchciaaGreatDoor
open Go Go.RowKit Bn
attribute [local go_sem ↓] Go.wp_at_zero Go.wp_at_succ
def iW(c:UInt8):Bool:=c==32||c==9||c==10||c==13
theorem gh(c d:UInt8):(c==d)=decide (c.toNat=d.toNat):=by
 by_cases h:c=d
 ·subst h;simp
 rw[it.2 h,yB (fun e=>h (GC e))]
theorem oy(c:UInt8):dj c=((decide (97<=c.toNat)&&decide (c.toNat<=122))||(decide (65<=c.toNat)&&decide (c.toNat<=90))):=rfl
theorem rh(c:UInt8):aU c=(decide (48<=c.toNat)&&decide (c.toNat<=57)):=rfl
theorem lh(c:UInt8):dR c=(decide (c.toNat=123)||decide (c.toNat=125)||decide (c.toNat=59)||decide (c.toNat=46)):=by unfold dR;rw[gh,gh,gh,gh];rfl
theorem sT(c:UInt8):iW c=(decide (c.toNat=32)||decide (c.toNat=9)||decide (c.toNat=10)||decide (c.toNat=13)):=by unfold iW;rw[gh,gh,gh,gh];rfl
theorem bq{i:Nat}(w:World)(c:UInt8)(v:Bool)(j:dj c=v)(k:i=110\/i=117:=by first|exact .inl rfl|exact .inr rfl):Calls Tryz.prog i #[.int .u8 (c.toNat:Nat)] w (av w (.bool v)):=by
 rcases k with rfl|rfl
 all_goals
  have l:c.toNat<256:=c.toNat_lt;obtain⟨n,g⟩:=Z9 (c.toNat);rw[g]at l⊢;have hd:v=((decide (97<=n)&&decide (n<=122))||(decide (65<=n)&&decide (n<=90))):=by rw[<-j,oy,g]
  clear j;rcases (show (0<=n/\n<=64)\/(65<=n/\n<=90)\/(91<=n/\n<=96)\/(97<=n/\n<=122)\/(123<=n/\n<=255) by omega) with⟨h,hb⟩|⟨h,hb⟩|⟨h,hb⟩|⟨h,hb⟩|⟨h,hb⟩
  ·have b:((97:Int)<=(n:Int))=False:=by simp;omega
   have a:((n:Int)<=122)=True:=by simp;omega
   have d:((65:Int)<=(n:Int))=False:=by simp;omega
   have f:((n:Int)<=90)=True:=by simp;omega
   obtain rfl:v=false:=by rw[hd];simp;omega
   clear hd g;go_in;go_wp2;go_ret;exact cg rfl (aa w)
  ·have b:((97:Int)<=(n:Int))=False:=by simp;omega
   have a:((n:Int)<=122)=True:=by simp;omega
   have d:((65:Int)<=(n:Int))=True:=by simp;omega
   have f:((n:Int)<=90)=True:=by simp;omega
   obtain rfl:v=true:=by rw[hd];simp;omega
   clear hd g;go_in;go_wp2;go_ret;exact cg rfl (aa w)
  ·have b:((97:Int)<=(n:Int))=False:=by simp;omega
   have a:((n:Int)<=122)=True:=by simp;omega
   have d:((65:Int)<=(n:Int))=True:=by simp;omega
   have f:((n:Int)<=90)=False:=by simp;omega
   obtain rfl:v=false:=by rw[hd];simp;omega
   clear hd g;go_in;go_wp2;go_ret;exact cg rfl (aa w)
  ·have b:((97:Int)<=(n:Int))=True:=by simp;omega
   have a:((n:Int)<=122)=True:=by simp;omega
   have d:((65:Int)<=(n:Int))=True:=by simp;omega
   have f:((n:Int)<=90)=False:=by simp;omega
   obtain rfl:v=true:=by rw[hd];simp;omega
   clear hd g;go_in;go_wp2;go_ret;exact cg rfl (aa w)
  have b:((97:Int)<=(n:Int))=True:=by simp;omega
  have a:((n:Int)<=122)=False:=by simp;omega
  have d:((65:Int)<=(n:Int))=True:=by simp;omega
  have f:((n:Int)<=90)=False:=by simp;omega
  obtain rfl:v=false:=by rw[hd];simp;omega
  clear hd g;go_in;go_wp2;go_ret;exact cg rfl (aa w)
theorem eR{f:Nat}(w:World)(c:UInt8)(v:Bool)(g:aU c=v)(i:f=187\/f=134:=by first|exact .inl rfl|exact .inr rfl):Calls Tryz.prog f #[.int .u8 (c.toNat:Nat)] w (av w (.bool v)):=by
 rcases i with rfl|rfl
 all_goals
  have j:c.toNat<256:=c.toNat_lt;obtain⟨n,d⟩:=Z9 (c.toNat);rw[d]at j⊢;have hd:v=(decide (48<=n)&&decide (n<=57)):=by rw[<-g,rh,d]
  clear g;rcases (show (0<=n/\n<=47)\/(48<=n/\n<=57)\/(58<=n/\n<=255) by omega) with⟨h,hb⟩|⟨h,hb⟩|⟨h,hb⟩
  ·have b:((48:Int)<=(n:Int))=False:=by simp;omega
   have a:((n:Int)<=57)=True:=by simp;omega
   obtain rfl:v=false:=by rw[hd];simp;omega
   clear hd d;go_in;go_wp2;go_ret;exact cg rfl (aa w)
  ·have b:((48:Int)<=(n:Int))=True:=by simp;omega
   have a:((n:Int)<=57)=True:=by simp;omega
   obtain rfl:v=true:=by rw[hd];simp;omega
   clear hd d;go_in;go_wp2;go_ret;exact cg rfl (aa w)
  have b:((48:Int)<=(n:Int))=True:=by simp;omega
  have a:((n:Int)<=57)=False:=by simp;omega
  obtain rfl:v=false:=by rw[hd];simp;omega
  clear hd d;go_in;go_wp2;go_ret;exact cg rfl (aa w)
theorem rj(w:World)(c:UInt8)(v:Bool)(i:dR c=v):Calls Tryz.prog 118 #[.int .u8 (c.toNat:Nat)] w (av w (.bool v)):=by
 have j:c.toNat<256:=c.toNat_lt;obtain⟨n,g⟩:=Z9 (c.toNat);rw[g]at j⊢;have hd:v=(decide (n=123)||decide (n=125)||decide (n=59)||decide (n=46)):=by rw[<-i,lh,g]
 clear i;rcases (show (0<=n/\n<=45)\/(46<=n/\n<=46)\/(47<=n/\n<=58)\/(59<=n/\n<=59)\/(60<=n/\n<=122)\/(123<=n/\n<=123)\/(124<=n/\n<=124)\/(125<=n/\n<=125)\/(126<=n/\n<=255) by omega) with⟨h,hb⟩|⟨h,hb⟩|⟨h,hb⟩|⟨h,hb⟩|⟨h,hb⟩|⟨h,hb⟩|⟨h,hb⟩|⟨h,hb⟩|⟨h,hb⟩
 ·have b:((n:Int)==123)=false:=by simp;omega
  have a:((n:Int)==125)=false:=by simp;omega
  have f:((n:Int)==59)=false:=by simp;omega
  have d:((n:Int)==46)=false:=by simp;omega
  obtain rfl:v=false:=by rw[hd];simp;omega
  clear hd g;go_in;go_wp2;go_ret;exact cg rfl (aa w)
 ·have b:((n:Int)==123)=false:=by simp;omega
  have a:((n:Int)==125)=false:=by simp;omega
  have f:((n:Int)==59)=false:=by simp;omega
  have d:((n:Int)==46)=true:=by simp;omega
  obtain rfl:v=true:=by rw[hd];simp;omega
  clear hd g;go_in;go_wp2;go_ret;exact cg rfl (aa w)
 ·have b:((n:Int)==123)=false:=by simp;omega
  have a:((n:Int)==125)=false:=by simp;omega
  have f:((n:Int)==59)=false:=by simp;omega
  have d:((n:Int)==46)=false:=by simp;omega
  obtain rfl:v=false:=by rw[hd];simp;omega
  clear hd g;go_in;go_wp2;go_ret;exact cg rfl (aa w)
 ·have b:((n:Int)==123)=false:=by simp;omega
  have a:((n:Int)==125)=false:=by simp;omega
  have f:((n:Int)==59)=true:=by simp;omega
  have d:((n:Int)==46)=false:=by simp;omega
  obtain rfl:v=true:=by rw[hd];simp;omega
  clear hd g;go_in;go_wp2;go_ret;exact cg rfl (aa w)
 ·have b:((n:Int)==123)=false:=by simp;omega
  have a:((n:Int)==125)=false:=by simp;omega
  have f:((n:Int)==59)=false:=by simp;omega
  have d:((n:Int)==46)=false:=by simp;omega
  obtain rfl:v=false:=by rw[hd];simp;omega
  clear hd g;go_in;go_wp2;go_ret;exact cg rfl (aa w)
 ·have b:((n:Int)==123)=true:=by simp;omega
  have a:((n:Int)==125)=false:=by simp;omega
  have f:((n:Int)==59)=false:=by simp;omega
  have d:((n:Int)==46)=false:=by simp;omega
  obtain rfl:v=true:=by rw[hd];simp;omega
  clear hd g;go_in;go_wp2;go_ret;exact cg rfl (aa w)
 ·have b:((n:Int)==123)=false:=by simp;omega
  have a:((n:Int)==125)=false:=by simp;omega
  have f:((n:Int)==59)=false:=by simp;omega
  have d:((n:Int)==46)=false:=by simp;omega
  obtain rfl:v=false:=by rw[hd];simp;omega
  clear hd g;go_in;go_wp2;go_ret;exact cg rfl (aa w)
 ·have b:((n:Int)==123)=false:=by simp;omega
  have a:((n:Int)==125)=true:=by simp;omega
  have f:((n:Int)==59)=false:=by simp;omega
  have d:((n:Int)==46)=false:=by simp;omega
  obtain rfl:v=true:=by rw[hd];simp;omega
  clear hd g;go_in;go_wp2;go_ret;exact cg rfl (aa w)
 have b:((n:Int)==123)=false:=by simp;omega
 have a:((n:Int)==125)=false:=by simp;omega
 have f:((n:Int)==59)=false:=by simp;omega
 have d:((n:Int)==46)=false:=by simp;omega
 obtain rfl:v=false:=by rw[hd];simp;omega
 clear hd g;go_in;go_wp2;go_ret;exact cg rfl (aa w)
theorem kI(w:World)(c:UInt8)(v:Bool)(i:iW c=v):Calls Tryz.prog 79 #[.int .u8 (c.toNat:Nat)] w (av w (.bool v)):=by
 have j:c.toNat<256:=c.toNat_lt;obtain⟨n,f⟩:=Z9 (c.toNat);rw[f]at j⊢;have hd:v=(decide (n=32)||decide (n=9)||decide (n=10)||decide (n=13)):=by rw[<-i,sT,f]
 clear i;rcases (show (0<=n/\n<=8)\/(9<=n/\n<=9)\/(10<=n/\n<=10)\/(11<=n/\n<=12)\/(13<=n/\n<=13)\/(14<=n/\n<=31)\/(32<=n/\n<=32)\/(33<=n/\n<=255) by omega) with⟨h,hb⟩|⟨h,hb⟩|⟨h,hb⟩|⟨h,hb⟩|⟨h,hb⟩|⟨h,hb⟩|⟨h,hb⟩|⟨h,hb⟩
 ·have b:((n:Int)==32)=false:=by simp;omega
  have g:((n:Int)==9)=false:=by simp;omega
  have d:((n:Int)==10)=false:=by simp;omega
  have a:((n:Int)==13)=false:=by simp;omega
  obtain rfl:v=false:=by rw[hd];simp;omega
  clear hd f;go_in;go_wp2;go_ret;exact cg rfl (aa w)
 ·have b:((n:Int)==32)=false:=by simp;omega
  have g:((n:Int)==9)=true:=by simp;omega
  have d:((n:Int)==10)=false:=by simp;omega
  have a:((n:Int)==13)=false:=by simp;omega
  obtain rfl:v=true:=by rw[hd];simp;omega
  clear hd f;go_in;go_wp2;go_ret;exact cg rfl (aa w)
 ·have b:((n:Int)==32)=false:=by simp;omega
  have g:((n:Int)==9)=false:=by simp;omega
  have d:((n:Int)==10)=true:=by simp;omega
  have a:((n:Int)==13)=false:=by simp;omega
  obtain rfl:v=true:=by rw[hd];simp;omega
  clear hd f;go_in;go_wp2;go_ret;exact cg rfl (aa w)
 ·have b:((n:Int)==32)=false:=by simp;omega
  have g:((n:Int)==9)=false:=by simp;omega
  have d:((n:Int)==10)=false:=by simp;omega
  have a:((n:Int)==13)=false:=by simp;omega
  obtain rfl:v=false:=by rw[hd];simp;omega
  clear hd f;go_in;go_wp2;go_ret;exact cg rfl (aa w)
 ·have b:((n:Int)==32)=false:=by simp;omega
  have g:((n:Int)==9)=false:=by simp;omega
  have d:((n:Int)==10)=false:=by simp;omega
  have a:((n:Int)==13)=true:=by simp;omega
  obtain rfl:v=true:=by rw[hd];simp;omega
  clear hd f;go_in;go_wp2;go_ret;exact cg rfl (aa w)
 ·have b:((n:Int)==32)=false:=by simp;omega
  have g:((n:Int)==9)=false:=by simp;omega
  have d:((n:Int)==10)=false:=by simp;omega
  have a:((n:Int)==13)=false:=by simp;omega
  obtain rfl:v=false:=by rw[hd];simp;omega
  clear hd f;go_in;go_wp2;go_ret;exact cg rfl (aa w)
 ·have b:((n:Int)==32)=true:=by simp;omega
  have g:((n:Int)==9)=false:=by simp;omega
  have d:((n:Int)==10)=false:=by simp;omega
  have a:((n:Int)==13)=false:=by simp;omega
  obtain rfl:v=true:=by rw[hd];simp;omega
  clear hd f;go_in;go_wp2;go_ret;exact cg rfl (aa w)
 have b:((n:Int)==32)=false:=by simp;omega
 have g:((n:Int)==9)=false:=by simp;omega
 have d:((n:Int)==10)=false:=by simp;omega
 have a:((n:Int)==13)=false:=by simp;omega
 obtain rfl:v=false:=by rw[hd];simp;omega
 clear hd f;go_in;go_wp2;go_ret;exact cg rfl (aa w)
def atB(s:List UInt8)(i:Nat):UInt8:=s.getD i 0
theorem cO{s:List UInt8}{i:Nat}(h:i<s.length):atB s i=s[i]:=by unfold atB;rw[G7,sx h];rfl
theorem fM{s:List UInt8}{i:Nat}(h:s.length<=i):atB s i=0:=by unfold atB;rw[G7,Gz h];rfl
theorem ce{s:List UInt8}{i:Nat}(h:i<s.length):s.drop i=atB s i::s.drop (i+1):=by rw[cO h];exact Gp h
theorem io{p:UInt8->Bool}{s:List UInt8}{i:Nat}(b:p 0=false)(h:p (atB s i)=true):i<s.length/\((s.drop i).takeWhile p).length=1+((s.drop (i+1)).takeWhile p).length:=by
 have a:i<s.length:=by
  rcases Nat.lt_or_ge i s.length with x|x
  ·exact x
  rw[fM x,b]at h;cases h
 refine⟨a,?_⟩;rw[ce a,Gj,kZ h,oP];omega
theorem jy{p:UInt8->Bool}{s:List UInt8}{i:Nat}(h:p (atB s i)=false):((s.drop i).takeWhile p).length=0:=by
 rcases Nat.lt_or_ge i s.length with x|x
 ·rw[ce x,Gj,kl (by rw[h];decide)];rfl
 rw[FY x];rfl
theorem rk{s:List UInt8}{i:Nat}(h:dj (atB s i)=true):i<s.length/\cG (s.drop i)=1+((s.drop (i+1)).takeWhile bG).length:=by
 have a:i<s.length:=by
  rcases Nat.lt_or_ge i s.length with x|x
  ·exact x
  rw[fM x]at h;cases h
 refine⟨a,?_⟩;rw[ce a,cG,kZ h]
theorem mC{s:List UInt8}{i:Nat}(h:dj (atB s i)=false):cG (s.drop i)=0:=by
 rcases Nat.lt_or_ge i s.length with x|x
 ·rw[ce x,cG,kl (by rw[h];decide)]
 rw[FY x];rfl
theorem mD{c:UInt8}(h:dj c=true):bG c=true:=by unfold bG;rw[h];rfl
theorem rl{c:UInt8}(h:aU c=true):bG c=true:=by unfold bG;rw[h,Im];rfl
theorem rm{c:UInt8}(h:(c==95)=true):bG c=true:=by unfold bG;rw[h,Im]
theorem rn{c:UInt8}(a:dj c=false)(b:aU c=false)(d:(c==95)=false):bG c=false:=by unfold bG;rw[a,b,d];rfl
theorem ar(c d:UInt8):(((c.toNat:Nat):Int)==((d.toNat:Nat):Int))=(c==d):=by
 by_cases h:c=d
 ·subst h;simp
 rw[it.2 h,it];intro e;exact h (GC (by omega))
theorem yP(w:World)(c:UInt8)(v:Bool)(d:bG c=v):Calls Tryz.prog 148 #[.int .u8 (c.toNat:Nat)] w (av w (.bool v)):=by
 cases hl:dj c
 ·cases hd:aU c
  ·cases g:(c==95)
   ·obtain rfl:v=false:=by rw[<-d];exact rn hl hd g
    have j:(((c.toNat:Nat):Int)==95)=false:=(ar c 95).trans g;clear d g;go_in;go_wp2_with fail;refine(bq _ c false hl).mono ?_;rintro e i⟨rfl,q1⟩;have a:=(aa w).trans (q1.mono (aa w).size);have f:=q1.size;clear q1;go_wp2_with fail;refine(eR _ c false hd).mono ?_;rintro e k⟨rfl,q2⟩;have b:=a.trans (q2.mono a.size);have h:=q2.size;clear q2 a;go_wp2;go_ret;exact cg rfl b
   obtain rfl:v=true:=by rw[<-d];exact rm g
   have j:(((c.toNat:Nat):Int)==95)=true:=(ar c 95).trans g;clear d g;go_in;go_wp2_with fail;refine(bq _ c false hl).mono ?_;rintro e i⟨rfl,q1⟩;have a:=(aa w).trans (q1.mono (aa w).size);have f:=q1.size;clear q1;go_wp2_with fail;refine(eR _ c false hd).mono ?_;rintro e k⟨rfl,q2⟩;have b:=a.trans (q2.mono a.size);have h:=q2.size;clear q2 a;go_wp2;go_ret;exact cg rfl b
  obtain rfl:v=true:=by rw[<-d];exact rl hd
  clear d;go_in;go_wp2_with fail;refine(bq _ c false hl).mono ?_;rintro e i⟨rfl,q1⟩;have a:=(aa w).trans (q1.mono (aa w).size);have f:=q1.size;clear q1;go_wp2_with fail;refine(eR _ c true hd).mono ?_;rintro e k⟨rfl,q2⟩;have b:=a.trans (q2.mono a.size);have h:=q2.size;clear q2 a;go_wp2;go_ret;exact cg rfl b
 obtain rfl:v=true:=by rw[<-d];exact mD hl
 clear d;go_in;go_wp2_with fail;refine(bq _ c true hl).mono ?_;rintro e i⟨rfl,q1⟩;have a:=(aa w).trans (q1.mono (aa w).size);have f:=q1.size;clear q1;go_wp2;go_ret;exact cg rfl a
theorem kJ(w:World)(s:List UInt8)(i:Nat)(d:UInt8)(hd:atB s i=d):Calls Tryz.prog 116 #[ae s,.int .i64 (i:Nat)] w (av w (.int .u8 (d.toNat:Nat))):=by
 have b:=ah s;rcases Nat.lt_or_ge i s.length with a|a
 ·have f:∀h,(⟨s.toArray⟩:ByteArray)[i]' h=d:=fun h=>by rw[<-hd];exact(cO a).symm
  have c:i<s.length:=a;have j:(0:Int)<=((i:Nat):Int):=by omega
  have g:((i:Int)<(s.length:Int))=True:=by simp;omega
  clear hd;go_in;go_wp2;go_ret;exact⟨rfl,(aa w)⟩
 obtain rfl:d=0:=by rw[<-hd];exact fM a
 have g:((i:Int)<(s.length:Int))=False:=by simp;omega
 clear hd;go_in;go_wp2;go_ret;exact⟨rfl,(aa w)⟩
theorem vK(w:World)(s:List UInt8)(i:Nat)(R:i<=s.length)(U:s.length<4611686018427387904)(v:Nat)(A:i+cG (s.drop i)=v):Calls Tryz.prog 92 #[ae s,.int .i64 (i:Nat)] w (av w (.int .i64 (v:Nat))):=by
 obtain⟨d,hd⟩:=Z9 (atB s i);cases q:dj d
 ·obtain rfl:i=v:=by rw[<-A,mC (by rw[hd];exact q)];rfl
  clear A;go_in;go_wp2_with fail;refine(kJ _ (s) (i) d hd).mono ?_;rintro e P⟨rfl,q1⟩;have m:=(aa w).trans (q1.mono (aa w).size);have G:=q1.size;clear q1;go_wp2_with fail;refine(bq _ d false q).mono ?_;rintro e M⟨rfl,q2⟩;have x:=m.trans (q2.mono m.size);have L:=q2.size;clear q2 m;go_wp2;go_ret;exact⟨rfl,x⟩
 have A:i+((s.drop i).takeWhile bG).length=v:=by rw[<-A,(rk (by rw[hd];exact q)).2,(io (p:=bG) rfl (by rw[hd];exact mD q)).2]
 have S:=Qh A;clear A;go_in;go_wp2_with fail;refine(kJ _ (s) (i) d hd).mono ?_;rintro e P⟨rfl,q1⟩;have m:=(aa w).trans (q1.mono (aa w).size);have G:=q1.size;clear q1;go_wp2_with fail;refine(bq _ d true q).mono ?_;rintro e M⟨rfl,q2⟩;have x:=m.trans (q2.mono m.size);have L:=q2.size;clear q2 m;go_wp2_with fail;clear hd q;go_loopw [1] (fun K wr=>∃(j:Nat),K=.int .i64 (j:Nat)/\j<=s.length/\Hid (j+((s.drop j).takeWhile bG).length=v)/\Kp M wr/\Below w.heap.size w wr/\M.heap.size<=wr.heap.size) (fun K _=>s.length-(intOf K).toNat)
 case atStart=>exact⟨i,rfl,R,S,Kp.refl _,x,Qr⟩
 case round =>
  obtain⟨j,rfl,V,hw,a,l,T⟩:=hrel;obtain⟨d,hd⟩:=Z9 (atB s j);cases q:dj d
  ·cases hg:aU d
   ·cases hu:(d==95)
    ·have H:j=v:=by rw[<-hw.out,jy (p:=bG) (by rw[hd];exact rn q hg hu)];rfl
     subst H;have I:(((d.toNat:Nat):Int)==95)=false:=(ar d 95).trans hu;go_wp2_with fail;refine(kJ _ (s) (j) d hd).mono ?_;rintro e F⟨rfl,q3⟩;replace a:=a.below q3;have b:=l.trans (q3.mono l.size);have z:=q3.size;clear q3;go_wp2_with fail;refine(bq _ d false q).mono ?_;rintro e E⟨rfl,h⟩;replace a:=a.below h;have c:=b.trans (h.mono b.size);have y:=h.size;clear h b;go_wp2_with fail;refine(kJ _ (s) (j) d hd).mono ?_;rintro e O⟨rfl,o⟩;replace a:=a.below o;have f:=c.trans (o.mono c.size);have D:=o.size;clear o c;go_wp2_with fail;refine(eR _ d false hg).mono ?_;rintro e N⟨rfl,n⟩;replace a:=a.below n;have g:=f.trans (n.mono f.size);have C:=n.size;clear n f;go_wp2_with fail;refine(kJ _ (s) (j) d hd).mono ?_;rintro e Q⟨rfl,t⟩;replace a:=a.below t;have u:=g.trans (t.mono g.size);have J:=t.size;clear t g;go_wp2;go_ret;exact⟨rfl,u⟩
    obtain⟨B,k⟩:=io (p:=bG) (s:=s) (i:=j) rfl (by rw[hd];exact rm hu);have r:Hid (j+1+((s.drop (j+1)).takeWhile bG).length=v):=Qh (by rw[<-hw.out,k];omega);clear k;have I:(((d.toNat:Nat):Int)==95)=true:=(ar d 95).trans hu;go_wp2_with fail;refine(kJ _ (s) (j) d hd).mono ?_;rintro e F⟨rfl,q3⟩;replace a:=a.below q3;have b:=l.trans (q3.mono l.size);have z:=q3.size;clear q3;go_wp2_with fail;refine(bq _ d false q).mono ?_;rintro e E⟨rfl,h⟩;replace a:=a.below h;have c:=b.trans (h.mono b.size);have y:=h.size;clear h b;go_wp2_with fail;refine(kJ _ (s) (j) d hd).mono ?_;rintro e O⟨rfl,o⟩;replace a:=a.below o;have f:=c.trans (o.mono c.size);have D:=o.size;clear o c;go_wp2_with fail;refine(eR _ d false hg).mono ?_;rintro e N⟨rfl,n⟩;replace a:=a.below n;have g:=f.trans (n.mono f.size);have C:=n.size;clear n f;go_wp2_with fail;refine(kJ _ (s) (j) d hd).mono ?_;rintro e Q⟨rfl,t⟩;replace a:=a.below t;have u:=g.trans (t.mono g.size);have J:=t.size;clear t g;go_wp2_with fail;go_roundw
    case rel=>exact⟨j+1,by go_num,by omega,r,a,u,by omega⟩
    case measure=>simp[intOf];omega
   obtain⟨B,k⟩:=io (p:=bG) (s:=s) (i:=j) rfl (by rw[hd];exact rl hg);have r:Hid (j+1+((s.drop (j+1)).takeWhile bG).length=v):=Qh (by rw[<-hw.out,k];omega);clear k;go_wp2_with fail;refine(kJ _ (s) (j) d hd).mono ?_;rintro e F⟨rfl,q3⟩;replace a:=a.below q3;have b:=l.trans (q3.mono l.size);have z:=q3.size;clear q3;go_wp2_with fail;refine(bq _ d false q).mono ?_;rintro e E⟨rfl,h⟩;replace a:=a.below h;have c:=b.trans (h.mono b.size);have y:=h.size;clear h b;go_wp2_with fail;refine(kJ _ (s) (j) d hd).mono ?_;rintro e O⟨rfl,o⟩;replace a:=a.below o;have f:=c.trans (o.mono c.size);have D:=o.size;clear o c;go_wp2_with fail;refine(eR _ d true hg).mono ?_;rintro e N⟨rfl,n⟩;replace a:=a.below n;have g:=f.trans (n.mono f.size);have C:=n.size;clear n f;go_wp2_with fail;go_roundw
   case rel=>exact⟨j+1,by go_num,by omega,r,a,g,by omega⟩
   case measure=>simp[intOf];omega
  obtain⟨B,k⟩:=io (p:=bG) (s:=s) (i:=j) rfl (by rw[hd];exact mD q);have r:Hid (j+1+((s.drop (j+1)).takeWhile bG).length=v):=Qh (by rw[<-hw.out,k];omega);clear k;go_wp2_with fail;refine(kJ _ (s) (j) d hd).mono ?_;rintro e F⟨rfl,q3⟩;replace a:=a.below q3;have b:=l.trans (q3.mono l.size);have z:=q3.size;clear q3;go_wp2_with fail;refine(bq _ d true q).mono ?_;rintro e E⟨rfl,h⟩;replace a:=a.below h;have c:=b.trans (h.mono b.size);have y:=h.size;clear h b;go_wp2_with fail;go_roundw
  case rel=>exact⟨j+1,by go_num,by omega,r,a,c,by omega⟩
  case measure=>simp[intOf];omega
theorem ro(w:World)(s:List UInt8)(i:Nat)(t:i<=s.length)(z:s.length<4611686018427387904)(v:Nat)(o:i+d9 (s.drop i)=v):Calls Tryz.prog 156 #[ae s,.int .i64 (i:Nat)] w (av w (.int .i64 (v:Nat))):=by
 have u:=Qh o;clear o;go_in;go_wp2_with fail;go_loopw [1] (fun m wr=>∃(j:Nat),m=.int .i64 (j:Nat)/\j<=s.length/\Hid (j+((s.drop j).takeWhile aU).length=v)/\Kp w wr/\Below w.heap.size w wr/\w.heap.size<=wr.heap.size) (fun m _=>s.length-(intOf m).toNat)
 case atStart=>exact⟨i,rfl,t,u,Kp.refl _,(aa w),Qr⟩
 case round =>
  obtain⟨j,rfl,A,hw,a,c,y⟩:=hrel;obtain⟨d,hd⟩:=Z9 (atB s j);cases hg:aU d
  ·have l:j=v:=by rw[<-hw.out,jy (p:=aU) (by rw[hd];exact hg)];rfl
   subst l;go_wp2_with fail;refine(kJ _ (s) (j) d hd).mono ?_;rintro e q⟨rfl,q1⟩;replace a:=a.below q1;have b:=c.trans (q1.mono c.size);have k:=q1.size;clear q1;go_wp2_with fail;refine(eR _ d false hg).mono ?_;rintro e x⟨rfl,q2⟩;replace a:=a.below q2;have f:=b.trans (q2.mono b.size);have n:=q2.size;clear q2 b;go_wp2;go_ret;exact⟨rfl,f⟩
  obtain⟨r,g⟩:=io (p:=aU) (s:=s) (i:=j) rfl (by rw[hd];exact hg);have h:Hid (j+1+((s.drop (j+1)).takeWhile aU).length=v):=Qh (by rw[<-hw.out,g];omega);clear g;go_wp2_with fail;refine(kJ _ (s) (j) d hd).mono ?_;rintro e q⟨rfl,q1⟩;replace a:=a.below q1;have b:=c.trans (q1.mono c.size);have k:=q1.size;clear q1;go_wp2_with fail;refine(eR _ d true hg).mono ?_;rintro e x⟨rfl,q2⟩;replace a:=a.below q2;have f:=b.trans (q2.mono b.size);have n:=q2.size;clear q2 b;go_wp2_with fail;go_roundw
  case rel=>exact⟨j+1,by go_num,by omega,h,a,f,by omega⟩
  case measure=>simp[intOf];omega
theorem yQ(w:World)(s:List UInt8)(i:Nat)(y:i<=s.length)(D:s.length<4611686018427387904)(v:Nat)(r:d9 (s.drop i)=v):Calls Tryz.prog 149 #[ae s,.int .i64 (i:Nat)] w (av w (.int .i64 (v:Nat))):=by
 have z:Hid (0+((s.drop (i+0)).takeWhile aU).length=v):=Qh (by rw[<-r,Nat.zero_add];rfl);have q:=ah s;clear r;go_in;go_wp2_with fail;go_loopw [5] (fun o wr=>∃(j:Nat),o=.int .i64 (j:Nat)/\i+j<=s.length/\Hid (j+((s.drop (i+j)).takeWhile aU).length=v)/\Kp w wr/\Below w.heap.size w wr/\w.heap.size<=wr.heap.size) (fun o _=>s.length-(intOf o).toNat)
 case atStart=>exact⟨0,rfl,y,z,Kp.refl _,(aa w),Qr⟩
 case round =>
  obtain⟨j,rfl,E,hw,b,a,A⟩:=hrel;have x:IntKind.i64.wrap ((i:Int)+(j:Int))=(i:Int)+(j:Int):=ty _ ⟨by omega,by omega⟩;rcases Nat.lt_or_ge (i+j) s.length with n|n
  ·obtain⟨d,hd⟩:=Z9 (atB s (i+j))
   have B:(0:Int)<=(i:Int)+(j:Int):=by omega
   have k:(i:Int)+(j:Int)<(s.length:Int):=by omega
   have C:((i:Int)+(j:Int)).toNat=i+j:=by omega
   have t:∀h,(⟨s.toArray⟩:ByteArray)[i+j]' h=d:=fun h=>by rw[<-hd];exact(cO n).symm
   cases hg:aU d
   ·have f:j=v:=by rw[<-hw.out,jy (p:=aU) (by rw[hd];exact hg)];rfl
    subst f;clear hd;go_wp2_with fail;refine(eR _ d false hg).mono ?_;rintro e u⟨rfl,q1⟩;replace b:=b.below q1;have c:=a.trans (q1.mono a.size);have m:=q1.size;clear q1;go_wp2;go_ret;exact⟨rfl,c⟩
   obtain⟨_,g⟩:=io (p:=aU) (s:=s) (i:=i+j) rfl (by rw[hd];exact hg);have l:Hid (j+1+((s.drop (i+(j+1))).takeWhile aU).length=v):=Qh (by rw[<-hw.out,g,Nat.add_assoc i j 1];omega);clear g hd;go_wp2_with fail;refine(eR _ d true hg).mono ?_;rintro e u⟨rfl,q1⟩;replace b:=b.below q1;have c:=a.trans (q1.mono a.size);have m:=q1.size;clear q1;go_wp2_with fail;go_roundw
   case rel=>exact⟨j+1,by go_num,by omega,l,b,c,by omega⟩
   case measure=>simp[intOf];omega
  have f:j=v:=by rw[<-hw.out,jy (p:=aU) (by rw[fM n];rfl)];rfl
  subst f;have k:((i:Int)+(j:Int)<(s.length:Int))=False:=by simp;omega
  go_wp2;go_ret;exact⟨rfl,a⟩
theorem dY(w:World)(s:List UInt8)(H:s.length<4611686018427387904)(v:Nat)(r:cG s=v):Calls Tryz.prog 108 #[ae s] w (av w (.int .i64 (v:Nat))):=by
 have E:=ah s;rcases Nat.eq_zero_or_pos s.length with o|o
 ·obtain rfl:s=[]:=lq o
  obtain rfl:0=v:=r;clear H;go_in;go_wp2;go_ret;exact⟨rfl,(aa w)⟩
 obtain⟨y,F,f⟩:∃y F,s=y::F:=List.exists_cons_of_length_pos o;have B:((⟨s.toArray⟩:ByteArray)==⟨#[]⟩)=false:=by rw[f];rfl
 have u:(s==[])=false:=by rw[f];rfl
 have A:(s=[])=False:=by rw[f];simp
 clear f;obtain⟨d,hd⟩:=Z9 (atB s 0);have g:∀h,(⟨s.toArray⟩:ByteArray)[0]' h=d:=fun h=>by rw[<-hd];exact(cO o).symm
 have n:(0:Int)<(s.length:Int):=by omega
 cases c:dj d
 ·obtain rfl:0=v:=by rw[<-r];exact(mC (s:=s) (i:=0) (by rw[hd];exact c)).symm
  clear hd r;go_in;go_wp2_with fail;refine(bq _ d false c).mono ?_;rintro e t⟨rfl,q1⟩;have k:=(aa w).trans (q1.mono (aa w).size);have z:=q1.size;clear q1;go_wp2;go_ret;exact⟨rfl,k⟩
 have I:Hid (1+((s.drop 1).takeWhile bG).length=v):=Qh (by rw[<-r];exact((rk (s:=s) (i:=0) (by rw[hd];exact c)).2).symm);clear r hd;go_in;go_wp2_with fail;refine(bq _ d true c).mono ?_;rintro e t⟨rfl,q1⟩;have k:=(aa w).trans (q1.mono (aa w).size);have z:=q1.size;clear q1;go_wp2_with fail;clear g c n B u A;go_loopw [3] (fun C wr=>∃(j:Nat),C=.int .i64 (j:Nat)/\j<=s.length/\Hid (j+((s.drop j).takeWhile bG).length=v)/\Kp t wr/\Below w.heap.size w wr/\t.heap.size<=wr.heap.size) (fun C _=>s.length-(intOf C).toNat)
 case atStart=>exact⟨1,rfl,o,I,Kp.refl _,k,Qr⟩
 case round =>
  obtain⟨j,rfl,L,hw,b,a,K⟩:=hrel;rcases Nat.lt_or_ge j s.length with c|c
  ·obtain⟨d,hd⟩:=Z9 (atB s j)
   have g:∀h,(⟨s.toArray⟩:ByteArray)[j]' h=d:=fun h=>by rw[<-hd];exact(cO c).symm
   have G:j<s.length:=c;cases hg:bG d
   ·have m:j=v:=by rw[<-hw.out,jy (p:=bG) (by rw[hd];exact hg)];rfl
    subst m;clear hd;go_wp2_with fail;refine(yP _ d false hg).mono ?_;rintro e J⟨rfl,q2⟩;replace b:=b.below q2;have l:=a.trans (q2.mono a.size);have D:=q2.size;clear q2;go_wp2;go_ret;exact⟨rfl,l⟩
   obtain⟨_,q⟩:=io (p:=bG) (s:=s) (i:=j) rfl (by rw[hd];exact hg);have x:Hid (j+1+((s.drop (j+1)).takeWhile bG).length=v):=Qh (by rw[<-hw.out,q];omega);clear q hd;go_wp2_with fail;refine(yP _ d true hg).mono ?_;rintro e J⟨rfl,q2⟩;replace b:=b.below q2;have l:=a.trans (q2.mono a.size);have D:=q2.size;clear q2;go_wp2_with fail;go_roundw
   case rel=>exact⟨j+1,by go_num,by omega,x,b,l,by omega⟩
   case measure=>simp[intOf];omega
  have m:j=v:=by rw[<-hw.out,jy (p:=bG) (by rw[fM c];rfl)];rfl
  subst m;have n:((j:Int)<(s.length:Int))=False:=by simp;omega
  go_wp2;go_ret;exact⟨rfl,a⟩
theorem bh(w:World)(s:List UInt8)(x:Int)(i:Nat)(a:x=((i:Nat):Int))(d:UInt8)(hd:atB s i=d):Calls Tryz.prog 116 #[ae s,.int .i64 x] w (av w (.int .u8 (d.toNat:Nat))):=by
 subst a;exact kJ w s i d hd
theorem aA(w:World)(s:List UInt8)(x:Int)(i:Nat)(d:x=((i:Nat):Int))(b:i<=s.length)(c:s.length<4611686018427387904)(y:Int)(a:((i+d9 (s.drop i):Nat):Int)=y):Calls Tryz.prog 156 #[ae s,.int .i64 x] w (av w (.int .i64 y)):=by
 subst d a;exact ro w s i b c _ rfl
theorem bJ(w:World)(s:List UInt8)(x:Int)(i:Nat)(d:x=((i:Nat):Int))(b:i<=s.length)(c:s.length<4611686018427387904)(y:Int)(a:((i+cG (s.drop i):Nat):Int)=y):Calls Tryz.prog 92 #[ae s,.int .i64 x] w (av w (.int .i64 y)):=by
 subst d a;exact vK w s i b c _ rfl
theorem aP(w:World)(s:List UInt8)(x:Int)(i:Nat)(d:x=((i:Nat):Int))(b:i<=s.length)(c:s.length<4611686018427387904)(y:Int)(a:((d9 (s.drop i):Nat):Int)=y):Calls Tryz.prog 149 #[ae s,.int .i64 x] w (av w (.int .i64 y)):=by
 subst d a;exact yQ w s i b c _ rfl

theorem val_rep(m:Nat):val (List.replicate m 0)=0:=by
 induction m with
 |zero=>rfl
 |succ m ih=>rw[GD,val,ih]
theorem uh(m:Nat):Wds (List.replicate m 0):=by intro x a;rw[zD a];omega
theorem rq(l:List Nat):(cellsOf l).toList=bA l:=by simp[cellsOf,bA]
theorem OwS.made(w:World){B:Nat}(L:List Nat)(n:Nat)(hB:B<=w.heap.size)(c:n<=4398046511104)(b:L.length=n)(a:Wds L):OwS (w.alloc (.cells (cellsOf L) 58)) B w.heap.size n n L:=by
 refine⟨?_,a⟩;rw[<-rq];exact F4 w (cellsOf L) n hB (by unfold maxLen;omega) (by simp[cellsOf,b])
theorem OwS.far{w:World}{B g n cap:Nat}{l:List Nat}(h:OwS w B g n cap l){p:Addr}(f:g≠p.block)(u:Value):OwS (w.setCell p u) B g n cap l:=by
 refine⟨⟨h.1.1,?_⟩,h.2⟩;rcases h.1.2 with⟨e,_⟩|⟨g',c,a,e,hB,b,r⟩
 ·cases e
 have d:=e;injection e with e1 _ e2;injection e1 with e1;injection e1 with e1;subst e1;exact .inr ⟨g,c,a,d,hB,(so w p u g f).trans b,r⟩
theorem BH{u p s:Nat}(c:u+p<4294967296)(b:u ||| p=u+p)(a:2^s=p):bits .or .u32 (u:Int) ((2:Int)^s%4294967296)=((u+p:Nat):Int):=by
 have e:(2:Int)^s%4294967296=(p:Int):=by
  have h:(2:Int)^s=((2^s:Nat):Int):=by simp
  rw[h,a];omega
 rw[e,<-b];exact u32_or_nat u p (by omega) (by omega)
theorem FI{q m:Nat}:(2*q+1)*2^m=q*2^(m+1)+2^m:=by rw[Nat.pow_succ];grind
theorem EO{q m:Nat}:(2*q)*2^m=q*2^(m+1):=by rw[Nat.pow_succ];grind
def FJ(a b:Nat)(Lq Lr:List Nat)(k:Nat):Prop:=val Lq=a/2^k/b*2^k/\val Lr=a/2^k%b
theorem sU(w:World)(A n c l)(wa:Wd w A n c l)(hn:n<=1000000000000)(A' n' c' l')(wb:Wd w A' n' c' l')(bu:n'<=1000000000000)(h0:val l'≠0):
 Calls Tryz.prog 258 #[.slice A n c,.slice A' n' c'] w (sH w (val l) (val l')):=by
 have HL:=Qh wa.2.1;have a0:=Qh wb.2.1;obtain⟨va,al⟩:∃v,val l=v:=⟨_,rfl⟩;obtain⟨X,C⟩:∃v,val l'=v:=⟨_,rfl⟩;have HA:=Qh al;have HB:=Qh C;rw[C]at h0;have H0:=Qh (Nat.pos_of_ne_zero h0);rw[al,C]
 obtain⟨gb,ob,rfl,bx,_⟩:=wb.at2 (by
  rcases Nat.eq_zero_or_pos n' with e|e
  ·exfalso
   have h9:=a0.out;rw[e]at h9;rw[lq h9.symm]at C;exact h0 C.symm
  exact e)
 clear h0 al C;go_in
 go_wp2_with (first
  |(at_make;refine aQ _ rfl _ _ rfl _ _ _ _ n rfl rfl (by omega) (by omega) (by omega) ?_)
  |(at_make;refine aQ _ rfl _ _ rfl _ _ _ _ (n'+1) rfl rfl (by omega) (by omega) (by omega) ?_))
 refine(yC _ A n c l ?_ (by omega)).mono ?_;(exact wa.keep (((Kp.refl w).alloc _).alloc _));rintro e w1⟨N,rfl,ao,bn,rfl⟩;rw[HA.out]at ao;go_wp2_with fail
 have a5:OwS ((w.alloc (.cells (cellsOf (List.replicate n 0)) 58)).alloc (.cells (cellsOf (List.replicate (n'+1) 0)) 58)) w.heap.size w.heap.size n n (List.replicate n 0) :=
  (OwS.made w (List.replicate n 0) n Qr (by omega) (by simp) (uh n)).belw ((aa _).alloc Qr _)
 have aC:OwS ((w.alloc (.cells (cellsOf (List.replicate n 0)) 58)).alloc (.cells (cellsOf (List.replicate (n'+1) 0)) 58)) w.heap.size (w.heap.size+1) (n'+1) (n'+1) (List.replicate (n'+1) 0):=by
  have h:=OwS.made (w.alloc (.cells (cellsOf (List.replicate n 0)) 58)) (B:=w.heap.size) (List.replicate (n'+1) 0) (n'+1) (by simp) (by omega) (by simp) (uh _);simpa using h
 have HO:=Qh (And.intro a5 aC);clear a5 aC;go_loopw [8] (fun iv wr=>∃(k:Nat) (z:Int) (U S:List Nat),k<=N/\iv=.int .i64 z/\z+1=(k:Int)/\FJ va X U S k/\OwS wr w.heap.size w.heap.size n n U/\OwS wr w.heap.size (w.heap.size+1) (n'+1) (n'+1) S/\Below w.heap.size w wr) (fun iv _=>(intOf iv+1).toNat)
 case atStart =>
  refine⟨N,(N:Int)-1,_,_,Qr,by go_num,by omega,⟨?_,?_⟩,HO.out.1,HO.out.2,((aa w).alloc Qr _).alloc (by simp) _⟩
  ·rw[val_rep,Nat.div_eq_of_lt ao];simp
  rw[val_rep,Nat.div_eq_of_lt ao];simp
 case round =>
  obtain⟨k,z,U,S,hk,rfl,hz,hI,hq,hr,G⟩:=hrel;have HK:=Qh ((Kp.refl w).below G);have HI:=Qh hI;have HQ:=Qh hq;have HR:=Qh hr;have Y:=Qh G;clear hI hq hr G HO;by_cases aT:k=0
  ·subst aT
   have ez:z=-1:=by omega
   subst ez;go_wp2_with fail;refine(fh _ (some ⟨w.heap.size,0,none⟩) n n U ?_ (by omega)).mono ?_;(exact HQ.out.toWd);rintro e w1⟨A1,n1,c1,rfl,h1,D⟩;have i:=Qh (HR.out.belw D);have f:=Qh (Y.out.trans (D.mono Y.out.size));clear D;go_wp2_with fail;refine(fh _ (some ⟨w.heap.size+1,0,none⟩) (n'+1) (n'+1) S ?_ (by omega)).mono ?_;(exact i.out.toWd);rintro e w2⟨A2,n2,c2,rfl,h2,Z⟩;have R:=h1.keep ((Kp.refl w1).below Z);have j:=f.out.trans (Z.mono f.out.size);rw[HI.out.1]at R;rw[HI.out.2]at h2;simp only[Nat.pow_zero,Nat.div_one,Nat.mul_one]at R h2;have HF:=Qh (And.intro R (And.intro h2 j));clear h1 R h2 j Z;go_wp2;refine xD (v:=.tuple #[.slice A1 n1 c1,.slice A2 n2 c2]) (by simp[results,Tryz.results258,go_sem]) rfl ?_;exact⟨A1,n1,c1,A2,n2,c2,rfl,HF.out.1,HF.out.2.1,HF.out.2.2⟩
  obtain⟨m,rfl⟩:∃m,k=m+1:=⟨k-1,by omega⟩;have ez:z=(m:Int):=by omega
  subst ez;have F:m/32<n:=by omega
  obtain⟨ga,oa,rfl,bo,aF⟩:=(wa.keep HK.out).at2 (by omega);have a8:=aF (m/32) F;obtain⟨x,hx⟩:=Z9 (wd l (m/32));have bk:x<4294967296:=by rw[<-hx];exact wa.lt _
  rw[hx]at a8;have HX:=Qh hx;obtain⟨br,aZ⟩:∃d,bits .and .u32 ((x:Int)/2^(m%32)) 1=d:=⟨_,rfl⟩;obtain⟨b,hb⟩:=Z9 (va/2^m%2)
  have aS:br=(b:Int):=by
   rw[<-aZ,<-hb,<-HA.out,<-Dm wa.1 m,hx];have e:(x:Int)/2^(m%32)=((x/2^(m%32):Nat):Int):=by simp
   rw[e,pu _ (Nat.lt_of_le_of_lt (Nat.div_le_self _ _) bk)]
  have bg:=Qh hb;have D:b<=1:=by omega
  clear aF hx hz aT hb;go_wp2_with fail
  try rw[aS]
  clear aZ aS;go_loopw [9,36] (fun cv kv w2=>∃(k T:Nat) (J:List Nat),k<=n'+1/\kv=.int .i64 (k:Nat)/\cv=.int .u32 (T:Nat)/\T<=1/\nJ S J b k T/\OwS w2 w.heap.size w.heap.size n n U/\OwS w2 w.heap.size (w.heap.size+1) (n'+1) (n'+1) J/\Below w.heap.size w w2) (fun _ kv _=>n'+1-(intOf kv).toNat)
  case atStart=>exact⟨0,b,S,Nat.zero_le _,rfl,rfl,D,nJ.start _ _,HQ.out,HR.out,Y.out⟩
  case round =>
   obtain⟨k,T,J,bs,rfl,rfl,a6,a3,a2,t,H⟩:=hrel;have ab:=Qh a3;have I:=Qh a2;have i:=Qh t;have f:=Qh H;clear a3 a2 t H;by_cases hkk:k<n'+1
   ·obtain⟨y,hy⟩:=Z9 (wd S k)
    have V:y<4294967296:=by rw[<-hy];exact cf HR.out.2 _
    have bb:=i.out.cell k hkk;rw[ab.out.1 k Qr,hy]at bb;have bv:=i.out.frozen k;have HY:=Qh hy;obtain⟨s,hs⟩:=Z9 (bits .or .u32 ((y:Int)*2%4294967296) (T:Int))
    have he:s=((y*2%4294967296+T:Nat):Int):=by
     rw[<-hs,<-(rb a6 V).1];exact u32_or_nat (y*2%4294967296) T (Nat.mod_lt _ (by decide)) (by omega)
    have HE:=Qh he;have HS:=Qh (rb a6 V).2;clear hy he;go_wp2;go_region;clear hs;go_wp2;go_roundw
    case rel =>
     have bd:=ab.out.step HY.out V (by rw[<-i.out.len];exact hkk);refine⟨k+1,y/2147483648,J.set k (y*2%4294967296+T),by omega,by go_num,by go_num,HS.out.2,bd,?_,?_,?_⟩
     ·exact OwS.far (w:=wr) I.out (p:=⟨w.heap.size+1,k,none⟩) (by simp) _
     ·exact OwS.set (w:=wr) i.out k HS.out.1 HE.out
     exact(Below.setCell f.out (p:=⟨w.heap.size+1,k,none⟩) (by simp) _).drew
    case measure=>simp[intOf];omega
   have a7:k=n'+1:=by omega
   subst a7
   have P:val J=2*val S+b:=by
    have h3:=i.out.len;have h4:=HR.out.len;refine nJ.fin ab.out (by omega) (by omega) ?_;refine yz (v:=X) ?_ ?_ D
    ·rw[HI.out.2];exact Nat.mod_lt _ H0.out
    rw[<-HB.out,a0.out];exact dl wb.1
   rw[HI.out.2,<-bg.out]at P;obtain⟨r2,t⟩:∃r,val J=r:=⟨_,rfl⟩;rw[t]at P;have HV:=Qh P;have o:=Qh t;clear P t;by_cases hge:X<=r2
   ·have ac:0<=bS r2 X:=by unfold bS;(repeat' split)<;>omega
    obtain⟨cv,q⟩:=Z9 (bS r2 X);rw[q]at ac;have HC:=Qh q;clear q;go_wp2_with fail;refine(fi _ (some ⟨w.heap.size+1,0,none⟩) (n'+1) (n'+1) J ?_ ?_ (some ⟨gb,ob,none⟩) n' c' l' ?_ ?_).mono ?_;(exact i.out.toWd);(omega);(exact wb.keep ((Kp.refl w).below f.out));(omega);rintro e w1⟨rfl,g⟩;rw[o.out,HB.out,HC.out];have O:=Qh (I.out.belw g);have Q:=Qh (i.out.belw g);have j:=Qh (f.out.trans (g.mono f.out.size));clear g I i f;go_wp2_with fail;refine(iQ _ w.heap.size (w.heap.size+1) (n'+1) (n'+1) J ?_ ?_ (some ⟨gb,ob,none⟩) n' c' l' ?_ ?_ ?_ ?_).mono ?_
    ·exact Q.out
    ·omega
    ·exact wb.keep ((Kp.refl w).below j.out)
    ·intro ad e;injection e with e;subst e;show gb≠_;omega
    ·omega
    ·rw[o.out,HB.out];exact hge
    rintro e w2⟨L3,rfl,a1,an,W⟩;rw[o.out,HB.out]at an;have K:=W.own O.out (by omega);have a4:=Qh (j.out.trans (W.1.mono (by omega)));have ba:=Qh a1;have a9:=Qh an;obtain⟨u,hu⟩:=Z9 (wd U (m/32));have be:=K.cell (m/32) F;have bw:=K.frozen (m/32);rw[hu]at be;have L:=Dn HQ.out.2 m (by rw[<-HQ.out.len];exact F) HI.out.1;rw[hu]at L;obtain⟨p,hp⟩:=Z9 (2^(m%32));rw[hp]at L;have bl:=Qh K;have M:=Qh L;have HU:=Qh hu;have HP:=Qh hp;clear a1 an W K O Q j hu L hp;go_wp2;go_region;go_wp2;go_roundw
    case rel =>
     have E:=Dp (a:=va) (k:=m) HV.out hge H0.out;have he:=BH M.out.2.1 M.out.1 HP.out;refine⟨m,(m:Int)-1,U.set (m/32) (u+p),L3,by omega,by go_num,by omega,⟨?_,?_⟩,?_,?_,?_⟩
     ·rw[M.out.2.2,HI.out.1,E.1,FI]
     ·rw[a9.out,E.2]
     ·exact OwS.set (w:=w2) bl.out (m/32) M.out.2.1 he
     ·exact OwS.far (w:=w2) ba.out (p:=⟨w.heap.size,m/32,none⟩) (by simp) _
     exact(Below.setCell a4.out (p:=⟨w.heap.size,m/32,none⟩) (by simp) _).drew
    case measure=>simp[intOf]<;>omega
   have ac:bS r2 X<0:=by unfold bS;(repeat' split)<;>omega
   obtain⟨cv,q⟩:=Z9 (bS r2 X);rw[q]at ac;have HC:=Qh q;clear q;go_wp2_with fail;refine(fi _ (some ⟨w.heap.size+1,0,none⟩) (n'+1) (n'+1) J ?_ ?_ (some ⟨gb,ob,none⟩) n' c' l' ?_ ?_).mono ?_;(exact i.out.toWd);(omega);(exact wb.keep ((Kp.refl w).below f.out));(omega);rintro e w1⟨rfl,g⟩;rw[o.out,HB.out,HC.out];have O:=Qh (I.out.belw g);have Q:=Qh (i.out.belw g);have j:=Qh (f.out.trans (g.mono f.out.size));clear g I i f;go_wp2;go_roundw
   case rel =>
    have E:=BE (a:=va) (k:=m) HV.out (by omega);refine⟨m,(m:Int)-1,U,J,by omega,by go_num,by omega,⟨?_,?_⟩,O.out,Q.out,j.out⟩
    ·rw[HI.out.1,E.1,EO]
    rw[o.out,E.2]
   case measure=>simp[intOf]<;>omega
theorem ip(w:World)(b:Bool)(A:Option Addr)(n c:Nat)(l:List Nat)(s:Bool)(a:Wd w A n c l)(f:n<=1099511627776)(d:WD.s ⟨b,l⟩=s):
 Calls Tryz.prog 222 #[.agg #[.bool b,.slice A n c]] w (av w (.bool s)):=by subst d;exact fX w b A n c l a f
theorem yR(w:World)(b:Bool)(A:Option Addr)(n c:Nat)(l:List Nat)(s:Int)(a:Wd w A n c l)(f:n<=1099511627000)(d:(WD.z ⟨b,l⟩).sign=s):
 Calls Tryz.prog 211 #[.agg #[.bool b,.slice A n c]] w (av w (.int .i64 s)):=by subst d;exact qO w b A n c l a f
theorem sV(w:World)(A n c l)(g:Wd w A n c l)(i:n<=1000000000000)(A' n' c' l')(b:Wd w A' n' c' l')(a:n'<=1000000000000)(x y:Nat)(h:val l=x)(d:val l'=y)(f:y≠0):
 Calls Tryz.prog 258 #[.slice A n c,.slice A' n' c'] w (sH w x y):=by subst h d;exact sU w A n c l g i A' n' c' l' b a f
def BI(w:World)(q r:Int)(e:Ending)(w':World):Prop:=∃A1 n1 c1 A2 n2 c2,e=.returned (.tuple #[.agg #[.bool (wh q).neg,.slice A1 n1 c1],.agg #[.bool (wh r).neg,.slice A2 n2 c2],.int .i64 0])/\Wd w' A1 n1 c1 (wh q).mag/\Wd w' A2 n2 c2 (wh r).mag/\Below w.heap.size w w'
theorem BJ(w:World)(b:Bool)(A n c l)(h:Wd w A n c l)(hn:n<=1000000000000)(B:Bool)(A' n' c' l')(j:Wd w A' n' c' l')(ac:n'<=1000000000000)(h0:WD.z ⟨B,l'⟩≠0)(Z:WD.z ⟨b,l⟩%WD.z ⟨B,l'⟩=0):
 Calls Tryz.prog 254 #[.agg #[.bool b,.slice A n c],.agg #[.bool B,.slice A' n' c']] w (BI w (WD.z ⟨b,l⟩/WD.z ⟨B,l'⟩) (WD.z ⟨b,l⟩%WD.z ⟨B,l'⟩)):=by
 have HL:=Qh h.2.1;have ad:=Qh j.2.1;obtain⟨s0,F⟩:∃s,(WD.z ⟨B,l'⟩).sign=s:=⟨_,rfl⟩;have aZ:((s0:Int)==0)=false:=by simp;rintro rfl;exact h0 (Gy.1 F)
 have ab:=Qh F;clear F
 have O:val (WD.m ⟨B,l'⟩) ∣ val (WD.m ⟨b,l⟩):=by
  rw[<-lD ⟨b,l⟩,<-lD ⟨B,l'⟩];exact Int.natAbs_dvd_natAbs.2 (Int.dvd_of_emod_eq_zero Z)
 rw[WD.z_eq]at h0⊢;rw[WD.z_eq ⟨B,l'⟩];have Y:val (WD.m ⟨B,l'⟩)≠0:=by intro e;rw[e]at h0;exact h0 (by cases (WD.s ⟨B,l'⟩)<;>rfl)
 obtain⟨sa,L⟩:∃s,WD.s ⟨b,l⟩=s:=⟨_,rfl⟩;obtain⟨sb,M⟩:∃s,WD.s ⟨B,l'⟩=s:=⟨_,rfl⟩;rw[L,M];obtain⟨x,hx⟩:=Z9 (val (WD.m ⟨b,l⟩));obtain⟨y,W⟩:=Z9 (val (WD.m ⟨B,l'⟩));rw[hx,W];rw[hx,W]at O;have Q:=Qh (And.intro L M);have HX:=Qh (And.intro hx W);have HY:=Qh (show y≠0 from W ▸ Y);have K:=Qh (Nat.mod_eq_zero_of_dvd O);clear L M hx W Y h0 Z O;go_in;go_wp2_with fail;have b0:Below w.heap.size w ((((w.alloc (.cells #[.bool b,.slice A n c] 194)).alloc (.cells #[.bool B,.slice A' n' c'] 194)).alloc (.cells #[.bool false,.slice none 0 0] 194)).alloc (.cells #[.bool false,.slice none 0 0] 194)):=(((((kz _ _).alloc Qr _).alloc (by simp) _).alloc (by simp;omega) _).alloc (by simp;omega) _);generalize a:((((w.alloc (.cells #[.bool b,.slice A n c] 194)).alloc (.cells #[.bool B,.slice A' n' c'] 194)).alloc (.cells #[.bool false,.slice none 0 0] 194)).alloc (.cells #[.bool false,.slice none 0 0] 194))=W0 at b0⊢;have a1:W0.cell? ⟨w.heap.size,0,none⟩=some (.bool b):=by subst a;simp[go_sem]
 have aT:W0.frozen? ⟨w.heap.size,0,none⟩=false:=by subst a;simp[go_sem]
 have a3:W0.cell? ⟨w.heap.size,1,none⟩=some (.slice A n c):=by subst a;simp[go_sem]
 have a9:W0.frozen? ⟨w.heap.size,1,none⟩=false:=by subst a;simp[go_sem]
 have aF:W0.cell? ⟨w.heap.size+1,0,none⟩=some (.bool B):=by subst a;simp[go_sem]
 have a6:W0.frozen? ⟨w.heap.size+1,0,none⟩=false:=by subst a;simp[go_sem]
 have a7:W0.cell? ⟨w.heap.size+1,1,none⟩=some (.slice A' n' c'):=by subst a;simp[go_sem]
 have aS:W0.frozen? ⟨w.heap.size+1,1,none⟩=false:=by subst a;simp[go_sem]
 have ba:W0.cell? ⟨w.heap.size+1+1,0,none⟩=some (.bool false):=by subst a;simp[go_sem]
 have a8:W0.frozen? ⟨w.heap.size+1+1,0,none⟩=false:=by subst a;simp[go_sem]
 have a2:W0.cell? ⟨w.heap.size+1+1,1,none⟩=some (.slice none 0 0):=by subst a;simp[go_sem]
 have an:W0.frozen? ⟨w.heap.size+1+1,1,none⟩=false:=by subst a;simp[go_sem]
 have aC:W0.cell? ⟨w.heap.size+1+1+1,0,none⟩=some (.bool false):=by subst a;simp[go_sem]
 have a0:W0.frozen? ⟨w.heap.size+1+1+1,0,none⟩=false:=by subst a;simp[go_sem]
 have ao:W0.cell? ⟨w.heap.size+1+1+1,1,none⟩=some (.slice none 0 0):=by subst a;simp[go_sem]
 have a5:W0.frozen? ⟨w.heap.size+1+1+1,1,none⟩=false:=by subst a;simp[go_sem]
 have x0:Box W0 w.heap.size 194:=by subst a;exact(((bT _ _ _ (by simp)).alloc _).alloc _).alloc _
 have x1:Box W0 (w.heap.size+1) 194:=by subst a;exact((bT _ _ _ (by simp)).alloc _).alloc _
 have x2:Box W0 (w.heap.size+1+1) 194:=by subst a;exact(bT _ _ _ (by simp)).alloc _
 have x3:Box W0 (w.heap.size+1+1+1) 194:=by subst a;exact bT _ _ _ (by simp)
 have D:j7 (w.heap.size+1+1) (w.heap.size+1+1+1+1) 2 W0:=by subst a;exact CA (by simp) rfl
 have d:w.heap.size+1+1+1+1<=W0.heap.size:=by subst a;simp
 clear a;have h:=h.belw b0;have j:=j.belw b0;have r0:Below W0.heap.size W0 W0:=aa _
 go_wp2_with (first
  |(go_at_call 211;(with_reducible refine(yR _ B A' n' c' l' s0 ?_ ?_ ?_).mono ?_);(exact j);(omega);(exact ab.out);rintro e w1⟨rfl,P⟩;have r1:=ag r0 P;replace h:=h.belw P;replace j:=j.belw P;(try clear sc G C sz);obtain⟨⟨sc,G⟩,C,sz⟩:=bO.of (by omega) d D r1))
 (try clear sc G C sz);have g:w.heap.size+1+1<=w.heap.size+1+1+1+1:=by omega
 go_region_held3 (fun w'=>Sees (w.heap.size+1+1) W0 w') (first|exact Sees.of (Nat.le_trans g d) (by assumption)|exact Sees.of (Nat.le_trans g d) (af (by assumption) _))
  (first
   |(go_at_call 215;(with_reducible refine(cU _ b A n c l ?_ ?_).mono ?_);(exact h);(omega);rintro e w2⟨A2,n2,c2,rfl,q,E⟩;replace E:=ag (af (aa _) 1) E;have r2:=ag r1 E;replace h:=h.belw E;replace j:=j.belw E)
   |(go_at_call 215;(with_reducible refine(cU _ B A' n' c' l' ?_ ?_).mono ?_);(exact j);(omega);rintro e w3⟨A3,n3,c3,rfl,r,I⟩;have r3:=ag r2 I;replace h:=h.belw I;replace j:=j.belw I;replace q:=q.belw I)
   |(go_at_call 258;(with_reducible refine(sV _ A2 n2 c2 (WD.m ⟨b,l⟩) ?_ ?_ A3 n3 c3 (WD.m ⟨B,l'⟩) ?_ ?_ x y ?_ ?_ ?_).mono ?_);(exact q);(exact q.m_len (by rw[<-HL.out];exact hn));(exact r);(exact r.m_len (by rw[<-ad.out];exact ac));(exact HX.out.1);(exact HX.out.2);(exact HY.out);rintro e w4⟨A4,n4,c4,A5,n5,c5,rfl,u,t,H⟩;have r4:=ag r3 H;replace h:=h.belw H;replace j:=j.belw H;replace q:=q.belw H;replace r:=r.belw H))
 obtain⟨⟨sc,G⟩,C,sz⟩:=bO.of (by omega) d D r4;clear g
 have a4:n4<=1000000000000:=by
  rw[u.2.1];exact sC (Nat.lt_of_le_of_lt (Nat.div_le_self _ _) (HX.out.1 ▸ q.vlt Qr)) (q.m_len (by rw[<-HL.out];exact hn))
 have al:n5=0:=by rw[t.2.1,K.out,ax];rfl
 subst al;cases sa
 ·go_wp2_with (first
   |(go_at_call 222;(with_reducible refine(ip _ b A n c l false ?_ ?_ ?_).mono ?_);(exact h);(omega);(exact Q.out.1);rintro e w5⟨rfl,o⟩;have r5:=ag r4 o;replace h:=h.belw o;replace j:=j.belw o;replace q:=q.belw o;replace r:=r.belw o;replace u:=u.belw o;replace t:=t.belw o;(try clear sc G C sz);obtain⟨⟨sc,G⟩,C,sz⟩:=bO.of (by omega) d D r5))
  have T:=Qh (jq (sa:=false) (sb:=sb) (x:=x) HY.out (.inr K.out));(try clear sc G C sz);have g:w.heap.size+1+1<=w.heap.size+1+1+1+1:=by omega
  go_region_held3 (fun w'=>Sees (w.heap.size+1+1) W0 w') (first|exact Sees.of (Nat.le_trans g d) (by assumption)|exact Sees.of (Nat.le_trans g d) (af (by assumption) _)|exact(Sees.set (Sees.of (Nat.le_trans g d) (by assumption)) (by simp))|exact(Sees.set (Sees.set (Sees.of (Nat.le_trans g d) (by assumption)) (by simp)) (by simp))|exact(Sees.set (Sees.set (Sees.set (Sees.of (Nat.le_trans g d) (by assumption)) (by simp)) (by simp)) (by simp))|exact(Sees.set (Sees.set (Sees.set (Sees.set (Sees.of (Nat.le_trans g d) (by assumption)) (by simp)) (by simp)) (by simp)) (by simp)))
   (first
    |(go_at_call 222;(with_reducible refine(ip _ b A n c l false ?_ ?_ ?_).mono ?_);(exact h);(omega);(exact Q.out.1);rintro e w6⟨rfl,f⟩;replace f:=ag (af (aa _) 1) f;have r6:=ag r5 f;replace h:=h.belw f;replace j:=j.belw f;replace q:=q.belw f;replace r:=r.belw f;replace u:=u.belw f;replace t:=t.belw f)
    |(go_at_call 222;(with_reducible refine(ip _ B A' n' c' l' sb ?_ ?_ ?_).mono ?_);(exact j);(omega);(exact Q.out.2);rintro e w7⟨rfl,p⟩;have r7:=ag r6 p;replace h:=h.belw p;replace j:=j.belw p;replace q:=q.belw p;replace r:=r.belw p;replace u:=u.belw p;replace t:=t.belw p)
    |(go_at_call 213;(with_reducible refine(dW _ sb A4 n4 c4 (au (x/y)) (sgn false x/sgn sb y) ?_ ?_ ?_).mono ?_);(exact u);(omega);(rw[T.out.1,ai];cases sb<;>rfl);rintro e w8⟨X,n8,U,rfl,N,k⟩;have r8:=ag r7 k;replace h:=h.belw k;replace j:=j.belw k;replace q:=q.belw k;replace r:=r.belw k;replace u:=u.belw k;replace t:=t.belw k)
    |(go_at_call 213;(with_reducible refine(dW _ false A5 0 c5 (au (x%y)) (sgn false x%sgn sb y) ?_ ?_ ?_).mono ?_);(exact t);(omega);(rw[T.out.2,ai];rfl);rintro e w9⟨V,n9,R,rfl,h9,i⟩;have J:=ag r8 i;replace h:=h.belw i;replace j:=j.belw i;replace q:=q.belw i;replace r:=r.belw i;replace u:=u.belw i;replace t:=t.belw i;replace N:=N.belw i;obtain⟨⟨sc,G⟩,C,sz⟩:=bO.of (by omega) d D J))
  clear g;go_wp2_with fail;refine xD (v:=.tuple #[.agg #[.bool _,.slice X n8 U],.agg #[.bool _,.slice V n9 R],.int .i64 0]) (by simp[results,Tryz.results254,go_sem,C];first|rfl|exact⟨rfl,rfl⟩) rfl ?_;have y2:=x2.below J;have S:=x3.below J;refine⟨X,n8,U,V,n9,R,rfl,?_,?_,?_⟩
  ·exact N.keep (kp4 y2 S (by decide) (by decide) _ _ _ _ _ _ _ _)
  ·exact h9.keep (kp4 y2 S (by decide) (by decide) _ _ _ _ _ _ _ _)
  exact((((b0.trans (J.mono b0.size)).setCell (by dsimp only;omega) _).setCell (by dsimp only;omega) _).setCell (by dsimp only;omega) _).setCell (by dsimp only;omega) _
 ·go_wp2_with (first
   |(go_at_call 222;(with_reducible refine(ip _ b A n c l true ?_ ?_ ?_).mono ?_);(exact h);(omega);(exact Q.out.1);rintro e w5⟨rfl,o⟩;have r5:=ag r4 o;replace h:=h.belw o;replace j:=j.belw o;replace q:=q.belw o;replace r:=r.belw o;replace u:=u.belw o;replace t:=t.belw o;(try clear sc G C sz);obtain⟨⟨sc,G⟩,C,sz⟩:=bO.of (by omega) d D r5))
  have T:=Qh (jq (sa:=true) (sb:=sb) (x:=x) HY.out (.inr K.out));(try clear sc G C sz);have g:w.heap.size+1+1<=w.heap.size+1+1+1+1:=by omega
  go_region_held3 (fun w'=>Sees (w.heap.size+1+1) W0 w') (first|exact Sees.of (Nat.le_trans g d) (by assumption)|exact Sees.of (Nat.le_trans g d) (af (by assumption) _)|exact(Sees.set (Sees.of (Nat.le_trans g d) (by assumption)) (by simp))|exact(Sees.set (Sees.set (Sees.of (Nat.le_trans g d) (by assumption)) (by simp)) (by simp))|exact(Sees.set (Sees.set (Sees.set (Sees.of (Nat.le_trans g d) (by assumption)) (by simp)) (by simp)) (by simp))|exact(Sees.set (Sees.set (Sees.set (Sees.set (Sees.of (Nat.le_trans g d) (by assumption)) (by simp)) (by simp)) (by simp)) (by simp)))
   (first
    |(go_at_call 222;(with_reducible refine(ip _ b A n c l true ?_ ?_ ?_).mono ?_);(exact h);(omega);(exact Q.out.1);rintro e w6⟨rfl,f⟩;replace f:=ag (af (aa _) 1) f;have r6:=ag r5 f;replace h:=h.belw f;replace j:=j.belw f;replace q:=q.belw f;replace r:=r.belw f;replace u:=u.belw f;replace t:=t.belw f)
    |(go_at_call 222;(with_reducible refine(ip _ B A' n' c' l' sb ?_ ?_ ?_).mono ?_);(exact j);(omega);(exact Q.out.2);rintro e w7⟨rfl,p⟩;have r7:=ag r6 p;replace h:=h.belw p;replace j:=j.belw p;replace q:=q.belw p;replace r:=r.belw p;replace u:=u.belw p;replace t:=t.belw p)
    |(go_at_call 213;(with_reducible refine(dW _ (!sb) A4 n4 c4 (au (x/y)) (sgn true x/sgn sb y) ?_ ?_ ?_).mono ?_);(exact u);(omega);(rw[T.out.1,ai];cases sb<;>rfl);rintro e w8⟨X,n8,U,rfl,N,k⟩;have r8:=ag r7 k;replace h:=h.belw k;replace j:=j.belw k;replace q:=q.belw k;replace r:=r.belw k;replace u:=u.belw k;replace t:=t.belw k)
    |(go_at_call 213;(with_reducible refine(dW _ false A5 0 c5 (au (x%y)) (sgn true x%sgn sb y) ?_ ?_ ?_).mono ?_);(exact t);(omega);(rw[T.out.2,ai];rfl);rintro e w9⟨V,n9,R,rfl,h9,i⟩;have J:=ag r8 i;replace h:=h.belw i;replace j:=j.belw i;replace q:=q.belw i;replace r:=r.belw i;replace u:=u.belw i;replace t:=t.belw i;replace N:=N.belw i;obtain⟨⟨sc,G⟩,C,sz⟩:=bO.of (by omega) d D J))
  clear g;go_wp2_with fail;refine xD (v:=.tuple #[.agg #[.bool _,.slice X n8 U],.agg #[.bool _,.slice V n9 R],.int .i64 0]) (by simp[results,Tryz.results254,go_sem,C];first|rfl|exact⟨rfl,rfl⟩) rfl ?_;have y2:=x2.below J;have S:=x3.below J;refine⟨X,n8,U,V,n9,R,rfl,?_,?_,?_⟩
  ·exact N.keep (kp4 y2 S (by decide) (by decide) _ _ _ _ _ _ _ _)
  ·exact h9.keep (kp4 y2 S (by decide) (by decide) _ _ _ _ _ _ _ _)
  exact((((b0.trans (J.mono b0.size)).setCell (by dsimp only;omega) _).setCell (by dsimp only;omega) _).setCell (by dsimp only;omega) _).setCell (by dsimp only;omega) _
theorem ui(w:World)(b A n c z k)(h:IZ w b A n c z k)(b' A' n' c' z' k')(f:IZ w b' A' n' c' z' k')(C:k+k'<=1000000000)(a:z'≠0)(j:z%z'=0):Calls Tryz.prog 254 #[.agg #[.bool b,.slice A n c],.agg #[.bool b',.slice A' n' c']] w (CD w (.int .i64 0) (z/z') (z%z') (k+k')):=by
 have y:=h.mono (Nat.le_add_right k k') |>.lt
 have v:=f.mono (Nat.le_add_left k' k) |>.lt
 obtain⟨l,u,rfl,B⟩:=h;obtain⟨t,d,rfl,m⟩:=f;refine(BJ w b A n c l u (by omega) b' A' n' c' t d (by omega) a j).mono fun _ _ r=>?_
 obtain⟨p,s,c1,q,x,c2,rfl,i,o,g⟩:=r;refine⟨_,p,s,c1,_,q,x,c2,rfl,IV.mk_ i rfl ?_,IV.mk_ o rfl ?_,g⟩
 ·exact Nat.lt_of_le_of_lt (Int.natAbs_ediv_le_natAbs _ _) y
 have D:=Int.emod_nonneg (WD.z ⟨b,l⟩) a;have E:=Int.emod_lt (WD.z ⟨b,l⟩) a;omega
theorem kd(w:World)(b A n c z k)(h:IZ w b A n c z k)(s:Int)(d:z.sign=s)(a:k<=1000000000):Calls Tryz.prog 211 #[.agg #[.bool b,.slice A n c]] w (av w (.int .i64 s)):=by
 subst d;exact mt w b A n c z k h a
theorem yS{z d:Int}{q:Rat}(j:z≠0)(hd:0<d)(c:Rat.divInt z d=q):
 (rd q).num=(wh (z/((Nat.gcd z.natAbs d.natAbs:Nat):Int))).mag/\(rd q).den=(wh (d/((Nat.gcd z.natAbs d.natAbs:Nat):Int))).mag/\(rd q).neg=(wh (z/((Nat.gcd z.natAbs d.natAbs:Nat):Int))).neg:=by
 rw[<-c,kY j hd,mn _ hd];have f:0<Nat.gcd z.natAbs d.natAbs:=Nat.gcd_pos_of_pos_right _ (by omega);have a:((Nat.gcd z.natAbs d.natAbs:Nat):Int) ∣ z:=Ib.2 (Nat.gcd_dvd_left _ _);generalize Nat.gcd z.natAbs d.natAbs=g at *;obtain⟨m,rfl⟩:=a;have e:(g:Int)*m/(g:Int)=m:=Int.mul_ediv_cancel_left _ (by omega);have i:((g:Int)*m).natAbs/g=m.natAbs:=by rw[Hx,Hz];exact Nat.mul_div_cancel_left _ f
 rw[e,i];refine⟨rfl,rfl,?_⟩;unfold wh;simp only[Ij];constructor
 ·intro h;rcases (show m<0\/0<=m by omega) with b|b;exact b;exact absurd (Int.mul_nonneg (Int.natCast_nonneg g) b) (by omega)
 intro h;exact Int.mul_neg_of_pos_of_neg (by omega) h
theorem mE(w:World)(b A n c z k)(h:IZ w b A n c z k)(b' A' n' c' z' k')(j:IZ w b' A' n' c' z' k')(q:Rat)(K:Nat)(hd:z'≠0)(hq:Rat.divInt z z'=q)(hs:Sz q K)(hk:k+k'<=300000000):
 Calls Tryz.prog 237 #[.agg #[.bool b,.slice A n c],.agg #[.bool b',.slice A' n' c']] w (nG w q K):=by
 have HD:=Qh hd;have HQ:=Qh hq;have HS:=Qh hs;obtain⟨s,aC⟩:=Z9 (z.sign);obtain⟨s',ab⟩:∃s,z'.sign=s:=⟨_,rfl⟩;have H1:=Qh aC;have H2:=Qh ab;clear hd hq hs aC ab;go_in;go_upto_region 1 with fail;refine dm ?_;intro w1 ac;have a:B3 w w.heap.size 194 #[.bool b,.slice A n c] 194 #[.bool b',.slice A' n' c'] 65 #[.bool false,.slice none 0 0,.slice none 0 0] w1:=by rw[ac];exact⟨((Blk.new w _ _).alloc _).alloc _,(aj _ _ _ (by simp)).alloc _,aj _ _ _ (by simp),(((aa w).alloc Qr _).alloc (by simp) _).alloc (by simp<;>omega) _⟩
 replace h:=h.belw a.q;replace j:=j.belw a.q;clear ac;have y:=a.s.v2;go_wp2_with fail;(refine(kd _ b A n c z k h s H1.out (by omega)).mono ?_);rintro e w2⟨rfl,F⟩;replace a:=a.call F;replace h:=h.belw F;replace j:=j.belw F;clear F y;by_cases hz:z=0
 ·obtain rfl:s=0:=by rw[<-H1.out,hz];rfl
  have aS:q=0:=by rw[<-HQ.out,hz,Rat.zero_divInt]
  subst aS;have y:=a.r.v3;go_wp2_with fail;refine zr1 (.agg #[.bool false,.slice none 0 0,.slice none 0 0]) ?_;exact⟨false,none,0,0,none,0,0,rfl,QV.zero _ _,((a.q.setCell (p:=⟨w.heap.size+1+1,0,none⟩) (by show w.heap.size<=w.heap.size+1+1;omega) (.bool false)).setCell (p:=⟨w.heap.size+1+1,1,none⟩) (by show w.heap.size<=w.heap.size+1+1;omega) (.slice none 0 0)).setCell (p:=⟨w.heap.size+1+1,2,none⟩) (by show w.heap.size<=w.heap.size+1+1;omega) (.slice none 0 0)⟩
 obtain⟨hp,al,ad⟩:=qN hz HD.out HQ.out;have HP:=Qh hp;have Q:=Qh al;have M:=Qh ad;have u1:(s==0)=false:=it.2 (by rw[<-H1.out];exact fun e=>hz (Gy.1 e));have u2:(s=0)=False:=by simpa using u1
 clear hz hp al ad HQ;have y:=a.t.v2;go_wp2_with fail;(refine(kd _ b' A' n' c' z' k' j s' H2.out (by omega)).mono ?_);rintro e w3⟨rfl,G⟩;replace a:=a.call G;replace h:=h.belw G;replace j:=j.belw G;clear G y;obtain⟨O,J⟩:∃y,sgz z z'=y:=⟨_,rfl⟩;obtain⟨U,N⟩:∃y,sgz z' z'=y:=⟨_,rfl⟩;rw[J]at Q M;rw[N]at HP Q;have R:=Qh J;have S:=Qh N;clear J N;go_upto_if 18 with fail;go_cut [] (fun wx=>∃b8 A8 n8 c8 Z A9 n9 Y,B3 w w.heap.size 194 #[.bool b8,.slice A8 n8 c8] 194 #[.bool Z,.slice A9 n9 Y] 65 #[.bool false,.slice none 0 0,.slice none 0 0] wx/\IZ wx b8 A8 n8 c8 O k/\IZ wx Z A9 n9 Y U k')
 case first =>
  have y:=a.s.v2;have y9:=a.t.v2;by_cases T:z'<0
  ·obtain rfl:s'=-1:=by rw[<-H2.out];exact GF.2 T
   obtain rfl:-z=O:=by rw[<-R.out];exact(kZ T).symm
   obtain rfl:-z'=U:=by rw[<-S.out];exact(kZ T).symm
   clear T;go_wp2_with fail
   go_region_with (first
    |(go_at_call 238;(with_reducible refine(lQ _ b A n c z k ?_ ?_).mono ?_);(first|exact h|exact h.belw (af (aa _) _)|fail);(omega);rintro e w5⟨b5,A5,n5,c5,rfl,P,H⟩;replace H:=ag (af (aa _) 1) H;replace j:=j.belw H;replace a:=a.call H;have y:=a.s.v2;have y9:=a.t.v2)
    |(go_at_call 238;(with_reducible refine(lQ _ b' A' n' c' z' k' ?_ ?_).mono ?_);(exact j);(omega);rintro e w6⟨b6,A6,n6,c6,rfl,h6,ao⟩;replace P:=P.belw ao;replace a:=a.call ao;have y:=a.s.v2;have y9:=a.t.v2))
   all_goals
    go_wp2_with fail;go_meet;exact⟨_,_,_,_,_,_,_,_,(a.p0 _ _).p1 _ _,P.iz.keep ((a.s.k2 (by decide) _ _).trans ((a.p0 _ _).t.k2 (by decide) _ _)),h6.iz.keep ((a.s.k2 (by decide) _ _).trans ((a.p0 _ _).t.k2 (by decide) _ _))⟩
  have hp:0<z':=by have:=HD.out;omega
  obtain rfl:s'=1:=by rw[<-H2.out];exact GU.2 hp
  obtain rfl:z=O:=by rw[<-R.out];exact(kl T).symm
  obtain rfl:z'=U:=by rw[<-S.out];exact(kl T).symm
  clear T hp;go_wp2_with fail;go_meet;exact⟨_,_,_,_,_,_,_,_,a,h,j⟩
 case rest =>
  clear a h j R S;obtain⟨b8,A8,n8,c8,Z,A9,n9,Y,a,W,C⟩:=hcut;rename World=>w7;have y:=And.intro a.s.v2 a.t.v2;go_wp2_with fail;(refine(ub _ b8 A8 n8 c8 O k W Z A9 n9 Y U k' C (by omega)).mono ?_);rintro e w8⟨b3,A3,n3,c3,rfl,D,E⟩;replace a:=a.call E;replace W:=W.belw E;replace C:=C.belw E;obtain⟨g,hg⟩:∃g:Int,((Nat.gcd O.natAbs U.natAbs:Nat):Int)=g:=⟨_,rfl⟩;have HG:=Qh hg;rw[hg]at D;clear E y hg;go_upto_region 6 with fail;refine dm ?_;intro w9 L;have X:Below w8.heap.size w8 w9:=by rw[L];exact(aa w8).alloc Qr _
  have V:Blk w9 w8.heap.size 194 #[.bool b3,.slice A3 n3 c3]:=by rw[L];exact Blk.new w8 _ _
  replace W:=W.belw X;replace C:=C.belw X;replace D:=D.belw X;replace a:=a.call X;clear L X;have g0:g≠0:=by rw[<-HG.out];exact yf HP.out
  have m1:O%g=0:=by rw[<-HG.out];exact Int.emod_eq_zero_of_dvd (Ib.2 (Nat.gcd_dvd_left _ _))
  have m2:U%g=0:=by rw[<-HG.out];exact Int.emod_eq_zero_of_dvd (Ib.2 (Nat.gcd_dvd_right _ _))
  have M1:=Qh m1;have M2:=Qh m2;clear m1 m2;have y:=And.intro a.s.v2 V.v2;go_wp2_with fail;(refine(ui _ b8 A8 n8 c8 O k W b3 A3 n3 c3 g (k+k') D.iz (by omega) g0 M1.out).mono ?_);rintro e o⟨b4,A4,n4,c4,bx,Ax,nx,cx,rfl,I,_,d⟩;replace a:=a.call d;replace V:=V.b d;replace C:=C.belw d;replace D:=D.belw d;clear d y;go_upto_region 7 with fail;refine dm ?_;intro an l;have i:Below o.heap.size o an:=by rw[l];exact((aa o).alloc Qr _).alloc (by simp) _
  have x:Blk an o.heap.size 194 #[.bool b4,.slice A4 n4 c4]:=by rw[l];exact(Blk.new o _ _).alloc _
  replace a:=a.call i;replace V:=V.b i;replace C:=C.belw i;replace D:=D.belw i;replace I:=I.belw i;clear l i;have y:=And.intro a.t.v2 V.v2;go_wp2_with fail;(refine(ui _ Z A9 n9 Y U k' C b3 A3 n3 c3 g (k+k') D.iz (by omega) g0 M2.out).mono ?_);rintro e B⟨b5,A5,n5,c5,bz,Az,nz,cz,rfl,P,_,f⟩;replace a:=a.call f;replace x:=x.b f;replace I:=I.belw f;clear f y;go_upto_region 8 with fail;refine dm ?_;intro aF u;have m:Below B.heap.size B aF:=by rw[u];exact((aa B).alloc Qr _).alloc (by simp) _
  have aT:Blk aF B.heap.size 194 #[.bool b5,.slice A5 n5 c5]:=by rw[u];exact(Blk.new B _ _).alloc _
  replace a:=a.call m;replace x:=x.b m;replace I:=I.belw m;replace P:=P.belw m;clear u m;have y:=And.intro x.v2 (And.intro aT.v2 a.r.v3);go_wp2_with fail;refine zr1 (.agg #[.bool b4,.slice A4 n4 c4,.slice A5 n5 c5]) ?_;clear y;have kp:=a.r.k3 (by decide) (.bool b4) (.slice A4 n4 c4) (.slice A5 n5 c5);obtain⟨e1,e2,e3⟩:=yS (fun e=>by rw[e]at M;rcases M.out with h|h<;>cases h) HP.out Q.out
  rw[HG.out]at e1 e2 e3;exact⟨_,_,_,_,_,_,_,rfl,QV.mk_ (by rw[e1];exact I.2.1.keep kp) (by rw[e2];exact P.2.1.keep kp) (by rw[e3];exact I.1.symm) HS.out,((a.q.setCell (p:=⟨w.heap.size+1+1,0,none⟩) (by show w.heap.size<=w.heap.size+1+1;omega) _).setCell (p:=⟨w.heap.size+1+1,1,none⟩) (by show w.heap.size<=w.heap.size+1+1;omega) _).setCell (p:=⟨w.heap.size+1+1,2,none⟩) (by show w.heap.size<=w.heap.size+1+1;omega) _⟩
theorem vL(w:World)(A n c l)(wa:Wd w A n c l)(hn:n<=1099511627776)(A' n' c' l')(Y:Wd w A' n' c' l')(a2:n'<=1099511627776):
 Calls Tryz.prog 253 #[.slice A n c,.slice A' n' c'] w (gS w (au (val l*val l'))):=by
 have HL:=Qh wa.2.1;have aC:=Qh Y.2.1;go_in;go_wp2_with (at_make;refine aQ _ rfl _ _ rfl _ _ _ _ (n+n') rfl rfl (by omega) (by omega) (by omega) ?_);go_loopw [18] (fun iv wr=>∃(i:Nat) (L:List Nat),i<=n/\iv=.int .i64 (i:Nat)/\L.length=n+n'/\xP l l' L (n+n') n' i/\Blk wr w.heap.size 58 (cellsOf L)/\Below w.heap.size w wr) (fun iv _=>n-(intOf iv).toNat)
 case atStart =>
  refine⟨0,List.replicate (n+n') 0,Nat.zero_le _,rfl,by simp,⟨by intro x J;rw[zD J];omega,fun j _=>?_,?_⟩,Blk.new _ _ _,(kz _ _).alloc Qr _⟩
  ·unfold wd;by_cases G:j<n+n'<;>simp[List.getD,G]
  rw[Sm]
  have:∀m,Sm (wd (List.replicate (n+n') 0)) m=0:=by
   intro m
   induction m with
   |zero=>rfl
   |succ m ih =>
    rw[Sm,ih];unfold wd;by_cases G:m<n+n'<;>simp[List.getD,G]
  rw[this];simp
 case round =>
  obtain⟨i,L,hi,rfl,S,hI,hB,r⟩:=hrel;have a1:=Qh ((Kp.refl w).below r);have T:=Qh hI;have HB:=Qh hB;have F:=Qh S;clear hI hB S;by_cases hkM:i<n
  ·obtain⟨x,J⟩:=Z9 (wd l i)
   have ao:x<4294967296:=by rw[<-J];exact wa.lt i
   have HX:=Qh J;clear J;go_wp2_with fail;obtain⟨wo,K⟩:∃wo:World,wo=wr:=⟨_,rfl⟩;have a0:=Qh K;clear K;go_loopw [7,23] (fun cv kv w2=>∃(k t:Nat) (u:List Nat),k<=n'/\kv=.int .i64 (k:Nat)/\cv=.int .u64 (t:Nat)/\t<4294967296/\u.length=n+n'/\xQ l l' u (n+n') n' i x k t/\Blk w2 w.heap.size 58 (cellsOf u)/\Below w.heap.size w w2) (fun _ kv _=>n'-(intOf kv).toNat)
   case atStart=>exact⟨0,0,L,Nat.zero_le _,rfl,rfl,by omega,F.out,⟨T.out.1,T.out.2.1,by rw[T.out.2.2];simp[Sm]⟩,HB.out,r⟩
   case round =>
    obtain⟨k,t,u,hk,rfl,rfl,R,C,I,O,f⟩:=hrel;have B:=Qh ((Kp.refl w).below f);have b:=Qh I;have h:=Qh O;have a:=Qh C;clear I O C;by_cases v:k<n'
    ·obtain⟨g2,o2,rfl,aS,P⟩:=(Y.keep B.out).at2 (by omega)
     obtain⟨g,o,rfl,aT,U⟩:=(wa.keep B.out).at2 (by omega);have X:=U i hkM;rw[HX.out]at X;clear U;have al:=P k v;obtain⟨y,z,V,D⟩:∃y z,wd l' k=y/\wd u (i+k)=z:=⟨_,_,rfl,rfl⟩;have W:y<4294967296:=by rw[<-V];exact Y.lt k
     have an:z<4294967296:=by rw[<-D];exact cf b.out.1 _
     rw[V]at al;have E:=h.out.cell (i+k);rw[aE (by rw[a.out];omega),D]at E;have ad:=h.out.frozen (i+k);have HY:=Qh V;have HZ:=Qh D;clear V D P;obtain⟨p,hp⟩:∃d,IntKind.u64.wrap ((x:Int)*(y:Int))=d:=⟨_,rfl⟩;obtain⟨q,hq⟩:∃d,IntKind.u64.wrap (p+(z:Int))=d:=⟨_,rfl⟩;obtain⟨s,hs⟩:∃d,IntKind.u64.wrap (q+(t:Int))=d:=⟨_,rfl⟩;have HD:=Qh (mj ao W an R hp hq (show IntKind.u64.wrap ((t:Int)+q)=s by rw[Int.add_comm];exact hs));go_wp2;go_quiet (fail);go_wp2;obtain⟨es,ac⟩:=HD.out;clear hp hq hs;go_roundw
     case rel =>
      refine⟨k+1,(t+x*y+z)/4294967296,u.set (i+k) ((t+x*y+z)%4294967296),by omega,by go_num,by rw[es];go_num,ac,by rw[xv];exact a.out,⟨wds_set b.out.1 _ (Nat.mod_lt _ (by omega)),?_,?_⟩,?_,(af f _).setCell Qr _⟩
      ·intro j G;rw[cq,kl (by omega)];exact b.out.2.1 j G
      ·have Q:=eu u (i+k) ((t+x*y+z)%4294967296) (n+n') (by rw[a.out];omega) (by omega)
       rw[HZ.out]at Q;have ht:=mh (o:=z) (x:=x) (y:=y) (Sb:=Sm (wd l') k) (Pi:=4294967296^i) (Pk:=4294967296^k) b.out.2.2 (by rw[Nat.pow_add]) Q;rw[<-Nat.add_assoc,Nat.pow_succ,Sm,HY.out];exact ht
      exact(h.out.below (af (aa _) _) h.out.lt).setW (i+k) _ _ (by rw[es];omega)
     case measure=>simp[intOf];omega
    have M:k=n':=by omega
    have ab:=Qh M;have E:=h.out.cell (i+n');have D:wd u (i+n')=0:=b.out.2.1 _ (by omega);rw[aE (by rw[a.out];omega),D]at E;have ad:=h.out.frozen (i+n');have aZ:n'<=k:=by omega
    clear M v D;go_wp2;go_roundw
    case rel =>
     refine⟨i+1,u.set (i+n') t,by omega,by go_num,by rw[xv];exact a.out,⟨wds_set b.out.1 _ R,?_,?_⟩,?_,f.setCell Qr _⟩
     ·intro j G;rw[cq,kl (by omega)];exact b.out.2.1 j (by omega)
     ·have Q:=eu u (i+n') t (n+n') (by rw[a.out];omega) (by omega)
      rw[b.out.2.1 _ (by omega),Nat.zero_mul,Nat.add_zero]at Q;have h2:=b.out.2.2;rw[ab.out,bf l' (by rw[<-aC.out];exact Qr)]at h2;rw[Q,h2,Sm,HX.out,Nat.add_mul];congr 1;rw[Nat.mul_assoc,Nat.mul_comm (val l'),<-Nat.mul_assoc]
     exact h.out.setW (i+n') _ _ rfl
    case measure=>simp[intOf];omega
  have v:i=n:=by omega
  subst v
  have H:val L=val l*val l':=by
   have N:=T.out.2.2;rw[bf L (by rw[F.out];exact Qr),bf l (by rw[<-HL.out];omega)]at N;exact N
  have Z:=Qh H;clear H;go_wp2_with fail;refine(fh _ _ (i+n') (i+n') L ?_ ?_).mono ?_
  ·exact HB.out.wdN T.out.1 F.out
  ·omega
  rintro e w1⟨A1,n1,c1,rfl,N,aF⟩;go_wp2;go_ret;rw[Z.out]at N;exact⟨_,_,_,rfl,N,r.trans (aF.mono r.size)⟩
theorem BK(w:World)(b:Bool)(A n c l)(f:Wd w A n c l)(G:n<=500000000000)(i:Bool)(A' n' c' l')(d:Wd w A' n' c' l')(y:n'<=500000000000):
 Calls Tryz.prog 236 #[.agg #[.bool b,.slice A n c],.agg #[.bool i,.slice A' n' c']] w (jU w (wh (WD.z ⟨b,l⟩*WD.z ⟨i,l'⟩))):=by
 have F:=Qh f.2.1;have B:=Qh d.2.1;go_in;go_wp2_with fail;have b0:Below w.heap.size w (((w.alloc (.cells #[.bool b,.slice A n c] 194)).alloc (.cells #[.bool i,.slice A' n' c'] 194)).alloc (.cells #[.bool false,.slice none 0 0] 194)):=((((kz _ _).alloc Qr _).alloc (by simp) _).alloc (by simp;omega) _);generalize a:(((w.alloc (.cells #[.bool b,.slice A n c] 194)).alloc (.cells #[.bool i,.slice A' n' c'] 194)).alloc (.cells #[.bool false,.slice none 0 0] 194))=W0 at b0⊢;have ad:W0.cell? ⟨w.heap.size,0,none⟩=some (.bool b):=by subst a;simp[go_sem]
 have R:W0.frozen? ⟨w.heap.size,0,none⟩=false:=by subst a;simp[go_sem]
 have an:W0.cell? ⟨w.heap.size,1,none⟩=some (.slice A n c):=by subst a;simp[go_sem]
 have ac:W0.frozen? ⟨w.heap.size,1,none⟩=false:=by subst a;simp[go_sem]
 have N:W0.cell? ⟨w.heap.size+1,0,none⟩=some (.bool i):=by subst a;simp[go_sem]
 have U:W0.frozen? ⟨w.heap.size+1,0,none⟩=false:=by subst a;simp[go_sem]
 have X:W0.cell? ⟨w.heap.size+1,1,none⟩=some (.slice A' n' c'):=by subst a;simp[go_sem]
 have O:W0.frozen? ⟨w.heap.size+1,1,none⟩=false:=by subst a;simp[go_sem]
 have ao:W0.cell? ⟨w.heap.size+1+1,0,none⟩=some (.bool false):=by subst a;simp[go_sem]
 have ab:W0.frozen? ⟨w.heap.size+1+1,0,none⟩=false:=by subst a;simp[go_sem]
 have al:W0.cell? ⟨w.heap.size+1+1,1,none⟩=some (.slice none 0 0):=by subst a;simp[go_sem]
 have H:W0.frozen? ⟨w.heap.size+1+1,1,none⟩=false:=by subst a;simp[go_sem]
 have x0:Box W0 w.heap.size 194:=by subst a;exact((bT _ _ _ (by simp)).alloc _).alloc _
 have x1:Box W0 (w.heap.size+1) 194:=by subst a;exact(bT _ _ _ (by simp)).alloc _
 have P:Box W0 (w.heap.size+1+1) 194:=by subst a;exact bT _ _ _ (by simp)
 have E:j7 (w.heap.size+1+1) (w.heap.size+1+1+1) 2 W0:=by subst a;exact mg (by simp)
 have j:w.heap.size+1+1+1<=W0.heap.size:=by subst a;simp
 clear a;have f:=f.belw b0;have d:=d.belw b0;have M:Below W0.heap.size W0 W0:=aa _;have h:w.heap.size+1+1<=w.heap.size+1+1+1:=by omega
 go_region_held3 (fun S=>Sees (w.heap.size+1+1) W0 S) (first|exact Sees.of (Nat.le_trans h j) (by assumption)|exact Sees.of (Nat.le_trans h j) (af (by assumption) _)|exact(Sees.set (Sees.of (Nat.le_trans h j) (by assumption)) (by simp))|exact(Sees.set (Sees.set (Sees.of (Nat.le_trans h j) (by assumption)) (by simp)) (by simp)))
  (first
   |(go_at_call 222;(with_reducible refine(fX _ b A n c l ?_ ?_).mono ?_);(exact f);(omega);rintro e w1⟨rfl,o⟩;replace o:=ag (af (aa _) 1) o;have T:=ag M o;replace f:=f.belw o;replace d:=d.belw o)
   |(go_at_call 222;(with_reducible refine(fX _ i A' n' c' l' ?_ ?_).mono ?_);(exact d);(omega);rintro e w2⟨rfl,t⟩;have r2:=ag T t;replace f:=f.belw t;replace d:=d.belw t)
   |(go_at_call 215;(with_reducible refine(cU _ b A n c l ?_ ?_).mono ?_);(exact f);(omega);rintro e w3⟨K,n1,c1,rfl,p,u⟩;have I:=ag r2 u;replace f:=f.belw u;replace d:=d.belw u)
   |(go_at_call 215;(with_reducible refine(cU _ i A' n' c' l' ?_ ?_).mono ?_);(exact d);(omega);rintro e w4⟨A2,W,c2,rfl,r,q⟩;have V:=ag I q;replace f:=f.belw q;replace d:=d.belw q;replace p:=p.belw q)
   |(go_at_call 253;(with_reducible refine(vL _ K n1 c1 (WD.m ⟨b,l⟩) ?_ ?_ A2 W c2 (WD.m ⟨i,l'⟩) ?_ ?_).mono ?_);(exact p);(exact Nat.le_trans (p.m_len (by rw[<-F.out];exact G)) (by decide));(exact r);(exact Nat.le_trans (r.m_len (by rw[<-B.out];exact y)) (by decide));rintro e w5⟨Q,J,c3,rfl,C,k⟩;have Z:=ag V k;replace f:=f.belw k;replace d:=d.belw k;replace p:=p.belw k;replace r:=r.belw k)
   |(go_at_call 213;(with_reducible refine(dW _ (!(WD.s ⟨b,l⟩==WD.s ⟨i,l'⟩)) Q J c3 (au (val (WD.m ⟨b,l⟩)*val (WD.m ⟨i,l'⟩))) (WD.z ⟨b,l⟩*WD.z ⟨i,l'⟩) ?_ ?_ ?_).mono ?_);(exact C);(rw[C.2.1];exact nX p r (Nat.le_trans (Nat.add_le_add (p.m_len (by rw[<-F.out];exact G)) (r.m_len (by rw[<-B.out];exact y))) (by decide)));(rw[ai];exact(CC _ _).symm);rintro e w6⟨A4,n4,c4,rfl,L,g⟩;have D:=ag Z g;replace f:=f.belw g;replace d:=d.belw g;replace p:=p.belw g;replace r:=r.belw g;replace C:=C.belw g;obtain⟨⟨sc,sf⟩,Y,sz⟩:=bO.of (by omega) j E D))
 clear h;go_wp2_with fail;refine xD (v:=.agg #[.bool _,.slice A4 n4 c4]) (by simp[results,Tryz.results236,go_sem,Y];rfl) rfl ?_;have x:=P.below D;refine km ?_ ?_ ?_
 ·rfl
 ·exact L.keep (kp2 x (by decide) _ _ _ _)
 exact((b0.trans (D.mono b0.size)).setCell (by dsimp only;omega) _).setCell (by dsimp only;omega) _
theorem iq(w:World)(b A n c z k)(h:IZ w b A n c z k)(b' A' n' c' z' k')(f:IZ w b' A' n' c' z' k')(p:k+k'<=1000000000):Calls Tryz.prog 236 #[.agg #[.bool b,.slice A n c],.agg #[.bool b',.slice A' n' c']] w (j8 w (z*z') (k+k')):=by
 have o:=h.lt;have a:=f.lt;obtain⟨l,j,rfl,q⟩:=h;obtain⟨g,d,rfl,m⟩:=f;exact(BK w b A n c l j (by omega) b' A' n' c' g d (by omega)).mono fun _ _ r=>r.i (bR o a)
def EP(ops:Array Oper)(fr:(Nat->Value)->Act)(R:Nat->Value->World->Prop)(W:World)(L:Array Bool)(a:Act)(w:World):Prop :=
  ∃x,a=fr x/\Below W.heap.size W w/\(∀i,L.getD i false=true->R i (x i) w) /\
  (∀i o,ops[i]?=some o->L.getD i false=true->∀e∈o.after,Region.binds .any e=true->L.getD e.on false=true)
section
variable {P:Program}{ops:Array Oper}{Q:Exit->Act->World->Prop}{fr:(Nat->Value)->Act}{R:Nat->Value->World->Prop}{id:Nat}{w:World}{x0:Nat->Value}
theorem gY{L:Array Bool}{i:Nat}{o:Oper}(g:i<L.size)(m:ops[i]?=some o)(c:∀e∈o.after,Region.binds .any e=true->L.getD e.on false=true)
 (j:∀i o,ops[i]?=some o->L.getD i false=true->∀e∈o.after,Region.binds .any e=true->L.getD e.on false=true) :
 ∀b f,ops[b]?=some f->(L.setIfInBounds i true).getD b false=true->∀e∈f.after,Region.binds .any e=true->(L.setIfInBounds i true).getD e.on false=true:=by
 intro b f a l e k d;rw[ak g]at l⊢;by_cases h:b=i
 ·subst h;rw[m]at a;injection a with a;subst a
  rw[c e k d];simp
 have:L.getD b false=true:=by simpa[h]using l
 rw[j b f a this e k d];simp
def rt(P:Program)(ops:Array Oper)(Q:Exit->Act->World->Prop)(fr:(Nat->Value)->Act)(R:Nat->Value->World->Prop)(w:World)(i:Nat)(o:Oper):Prop :=
  ∀ x wq,Below w.heap.size w wq->(∀e∈o.after,Region.binds .any e=true->R e.on (x e.on) wq)->∀K':Act->World->Prop,Shut (∀v w',R i v w'->Below wq.heap.size wq w'->K' ((fr x).put o.dst v) w') ->
      if Region.wanted o (yielded ops (fr x).tmps)=true then Oper.wp P o (fr x) wq K' Q else K' ((fr x).put o.dst undef) wq
theorem mF(I:P.follows .mixedOrders=true)
 (s:∀i o,ops[i]?=some o->∀x v,(fr x).put o.dst v=fr (upd x i v))
 (A:∀i o,ops[i]?=some o->∀e∈o.after,Region.binds .any e=true->e.on<i)
 (J:∀i v w b,R i v w->Below w.heap.size w b->R i v b)
 (d:∀i o,ops[i]?=some o->rt P ops Q fr R w i o)
 (m:∀x b,Below w.heap.size w b->(∀i,i<ops.size->R i (x i) b)->Q .normal (fr x) b) :
 (Code.region id ops true).wp P Q (fr x0) w:=by
 refine Hc I (fJ (fun L a b=>EP ops fr R w L a b) ?_ ?_ _ _ _ _ (by simp) ?_ ?_)
 ·rintro L a t i H k⟨x,rfl,hb,y,r⟩
  obtain⟨p,o,u,c⟩:=GL.1 k
  have l:i<L.size:=by
   rcases Nat.lt_or_ge i L.size with h|h
   ·exact h
   rw[pn,zP h]at p;cases p
  have q:∀e∈o.after,Region.binds .any e=true->R e.on (x e.on) t:=fun e C g=>y _ (c e C g)
  refine Ik u fun K F=>?_
  refine d i o u x t hb q K (fun v b z n=>F _ _ ?_);refine⟨upd x i v,s i o u x v,hb.trans (n.mono hb.size),fun j D=>?_,gY l u c r⟩;by_cases h:j=i
  ·subst h;rw[db];exact z
  rw[aN _ _ h];rw[ak l]at D;exact J _ _ _ _ (y j (by simpa[h]using D)) n
 ·rintro L a t H B⟨x,rfl,hb,y,r⟩
  have f:∀i,i<ops.size->L.getD i false=true:=by
   intro i
   induction i using Nat.strongRecOn with
   |ind i ih =>
    intro k;cases h:L.getD i false
    ·exfalso
     have:i∈Region.ready .any ops L:=by
      refine GL.2 ⟨?_,ops[i],sr k,fun e C g=>?_⟩
      ·rw[pn,sr (by omega)]at h⊢;exact h
      have E:=A i _ (sr k) e C g;exact ih e.on E (by omega)
     rw[B]at this;cases this
    rfl
  exact m x t hb (fun i k=>y i (f i k))
 ·simp
 ·have G:∀j,(Array.replicate ops.size false).getD j false=false:=by
   intro j;rw[pn,Gs];split<;>rfl
  refine⟨x0,rfl,(kz w.heap.size w).drew,fun i h=>?_,fun i o _ h=>?_⟩<;>rw[G]at h<;>cases h
def yT(l:List Oper)(n:Nat):Bool:=(List.range n).all fun j=>(List.range (n+1)).any fun k=>decide (j<k)&&match l[k]? with|some o=>o.after.any (fun e=>Region.binds .any e&&e.on==j)|none=>false
theorem fk{l:List Oper}{n j:Nat}(h:yT l n=true)(i:j<n):∃k o,j<k/\k<=n/\(l.toArray)[k]?=some o/\∃e∈o.after,Region.binds .any e=true/\e.on=j:=by
 unfold yT at h;rw[zX]at h;have d:=h j (List.mem_range.2 i);rw[Ha]at d;obtain⟨k,f,a⟩:=d;rw[uv,FZ]at a;obtain⟨c,a⟩:=a
 cases hl:l[k]? with
 |none=>rw[hl]at a;cases a
 |some o =>
  rw[hl]at a;obtain⟨e,g,b⟩:=Array.any_eq_true'.1 a;rw[uv]at b;exact⟨k,o,c,by have:=List.mem_range.1 f;omega,by simpa using hl,e,g,b.1,by simpa using b.2⟩
theorem gG{n:Nat}(X:P.follows .mixedOrders=true)(hn:ops.size=n+1)
 (K:∀i o,ops[i]?=some o->i<n->∀x v,(fr x).put o.dst v=fr (upd x i v))
 (V:∀i o,ops[i]?=some o->∀e∈o.after,Region.binds .any e=true->e.on<i)
 (hR:∀i v w l,R i v w->Below w.heap.size w l->R i v l)
 (p:∀j,j<n->∃k o,j<k/\k<=n/\ops[k]?=some o/\∃e∈o.after,Region.binds .any e=true/\e.on=j)
 (B:∀i o,ops[i]?=some o->i<n->rt P ops Q fr R w i o)
 (u:∀o,ops[n]?=some o->∀x wq,Below w.heap.size w wq->(∀j,j<n->R j (x j) wq)->∀F:Act->World->Prop,Shut (∀S l,Q .normal S l->F S l) ->
  if Region.wanted o (yielded ops (fr x).tmps)=true then Oper.wp P o (fr x) wq F Q else F ((fr x).put o.dst undef) wq) :
 (Code.region id ops true).wp P Q (fr x0) w:=by
 refine Hc X (fJ (fun L a l=>(L.getD n false=false/\EP ops fr R w L a l)\/((∀i,i<ops.size->L.getD i false=true)/\Q .normal a l)) ?_ ?_ _ _ _ _ (by simp) ?_ ?_)
 ·rintro L a N i hs M t
  obtain⟨q,o,D,f⟩:=GL.1 M
  have c:i<L.size:=by
   rcases Nat.lt_or_ge i L.size with h|h
   ·exact h
   rw[pn,zP h]at q;cases q
  have I:L.getD i false=false:=by
   rw[pn,sr c]at q⊢;exact q
  rcases t with⟨A,x,rfl,hb,O,C⟩|⟨y,_⟩
  ·have J:∀e∈o.after,Region.binds .any e=true->R e.on (x e.on) N:=fun e E b=>O _ (f e E b)
   refine Ik D fun F Z=>?_
   rcases Nat.lt_or_ge i n with z|z
   ·refine B i o D z x N hb J F (fun v l U H=>Z _ _ (Iu ⟨?_,?_⟩))
    ·rw[ak c,A];simp;omega
    refine⟨upd x i v,K i o D z x v,hb.trans (H.mono hb.size),fun j r=>?_,gY c D f C⟩;by_cases h:j=i
    ·subst h;rw[db];exact U
    rw[aN _ _ h];rw[ak c]at r;exact hR _ _ _ _ (O j (by simpa[h]using r)) H
   have e:i=n:=by omega
   subst e
   have g:∀m j,j<i->i-j<=m->L.getD j false=true:=by
    intro m
    induction m with
    |zero=>intro j r X;omega
    |succ m ih =>
     intro j r X;obtain⟨k,o',ab,hk,d,e,E,b,G⟩:=p j r;rcases Nat.lt_or_ge k i with h|h
     ·rw[<-G];exact C k o' d (ih k h (by omega)) e E b
     have e2:k=i:=by omega
     subst e2;rw[D]at d;injection d with d;subst d;rw[<-G];exact f e E b
   refine u o D x N hb (fun j r=>O j (g (i-j) j r Qr)) F (fun S l W=>Z _ _ (Or.inr ⟨fun j r=>?_,W⟩));rw[ak c];by_cases h:j=i
   ·simp[h]
   rw[g (i-j) j (by omega) Qr];simp
  have:=y i (by omega);rw[I]at this;cases this
 ·rintro L a N hs T (⟨A,x,rfl,hb,O,C⟩|⟨_,W⟩)
  ·have s:∀i,i<ops.size->L.getD i false=true:=by
    intro i
    induction i using Nat.strongRecOn with
    |ind i ih =>
     intro M;cases h:L.getD i false
     ·exfalso
      have:i∈Region.ready .any ops L:=by
       refine GL.2 ⟨?_,ops[i],sr M,fun e E b=>?_⟩
       ·rw[pn,sr (by omega)]at h⊢;exact h
       have h1:=V i _ (sr M) e E b;exact ih e.on h1 (by omega)
      rw[T]at this;cases this
     rfl
   have:=s n (by omega);rw[A]at this;cases this
  exact W
 ·simp
 ·have Y:∀j,(Array.replicate ops.size false).getD j false=false:=by
   intro j;rw[pn,Gs];split<;>rfl
  refine Iu ⟨Y n,x0,rfl,(kz w.heap.size w).drew,fun i h=>?_,fun i o _ h=>?_⟩<;>rw[Y]at h<;>cases h
end
def Grw(p:Value->World->Prop):Prop:=∀v w w',p v w->Below w.heap.size w w'->p v w'
def ke:List (Value->World->Prop)->Prop
  |[]=>True
  |p::l=>Grw p/\ke l
theorem ke.get:∀(l:List (Value->World->Prop)),ke l->∀i v w a,l.getD i (fun _ _=>True) v w->Below w.heap.size w a->l.getD i (fun _ _=>True) v a:=by
 intro l
 induction l with
 |nil=>intro _ i v w a _ _;simp
 |cons p l ih =>
  intro h i v w a b c
  cases i with
  |zero=>exact h.1 v w a b c
  |succ i=>exact ih h.2 i v w a b c
theorem gEq(u:Value):Grw (PEq u):=fun _ _ _ h _=>h
theorem gQ(q:Rat)(k:Nat):Grw (VQ q k):=fun _ _ _ ⟨b,A,n,c,D,m,e,d,h⟩ a=>⟨b,A,n,c,D,m,e,d,h.belw a⟩
def VIv(z:Int)(k:Nat):Value->World->Prop:=fun v w=>∃b A n c,v=.agg #[.bool b,.slice A n c]/\IV w b A n c z k
theorem gIv(z:Int)(k:Nat):Grw (VIv z k):=fun _ _ _ ⟨b,A,n,c,a,h⟩ hb=>⟨b,A,n,c,a,h.belw hb⟩
theorem pE{w a:World}{g:Nat}{b:Bool}{A D:Option Addr}{n c m e:Nat}{q:Rat}{k:Nat}(r:Blk a g 65 #[.bool false,.slice none 0 0,.slice none 0 0])(f:Below w.heap.size w a)(d:w.heap.size<=g)(h:QV a b A n c D m e q k):nG w q k (.returned (.agg #[.bool b,.slice A n c,.slice D m e])) (((a.setCell ⟨g,0,none⟩ (.bool b)).setCell ⟨g,1,none⟩ (.slice A n c)).setCell ⟨g,2,none⟩ (.slice D m e)) :=
 ⟨_,_,_,_,_,_,_,rfl,h.keep (r.k3 (by decide) _ _ _),((f.setCell (p:=⟨g,0,none⟩) d _).setCell (p:=⟨g,1,none⟩) d _).setCell (p:=⟨g,2,none⟩) d _⟩
abbrev frA(u0 u1 u2 u3 u4 u5 u6 u7 u8 u9 u10 u11 u12 u13 u14 u15 u16 u17 u18:Value)(xf:Nat->Value):Act:=⟨List.toArray (u0::u1::u2::u3::u4::u5::u6::u7::u8::u9::u10::u11::u12::u13::u14::u15::u16::u17::u18::xf 0::xf 1::xf 2::xf 3::xf 4::xf 5::xf 6::xf 7::xf 8::xf 9::xf 10::[]),[]⟩
abbrev frC(u0 u1 u2 u3 u5 u6 u7 u8 u9 u10 u11 u12 u13 u14 u15 u16 u17 u18:Value)(xf:Nat->Value):Act:=⟨List.toArray (u0::u1::u2::u3::xf 7::u5::u6::u7::u8::u9::u10::u11::u12::u13::u14::u15::u16::u17::u18::xf 0::xf 1::xf 2::xf 3::xf 4::xf 5::xf 6::[]),[]⟩
theorem BL(F:FuncId)(hF:F=217)(w:World)(b A n c D m e q k)(h:QZ w b A n c D m e q k)(b' A' n' c' D' m' e' q' k')(E:QZ w b' A' n' c' D' m' e' q' k')(h0:0<k)(hk:k<=40000000)(N:0<k')(aS:k'<=40000000):Calls Tryz.prog F #[.agg #[.bool b,.slice A n c,.slice D m e],.agg #[.bool b',.slice A' n' c',.slice D' m' e']] w (nG w (q+q') (k+k'+1)):=by
 have HS:=Qh (h.sz h0);have ad:=Qh (E.sz N);subst hF
 all_goals
  first
  |(go_in)
  go_upto_region 1 with fail;refine dm ?_;intro w1 ac;have l:B3 w w.heap.size 65 #[.bool b,.slice A n c,.slice D m e] 65 #[.bool b',.slice A' n' c',.slice D' m' e'] 65 #[.bool false,.slice none 0 0,.slice none 0 0] w1:=by rw[ac];exact⟨((Blk.new w _ _).alloc _).alloc _,(aj _ _ _ (by simp)).alloc _,aj _ _ _ (by simp),(((aa w).alloc Qr _).alloc (by simp) _).alloc (by simp<;>omega) _⟩
  replace h:=h.belw l.q;replace E:=E.belw l.q;clear ac;have y:=l.s.v3;go_wp2_with fail
  (first|refine(jw _ b A n c D m e q k h h0 (by omega)).mono ?_|refine(eP _ b A n c D m e q k h h0 (by omega)).mono ?_);rintro W w2⟨b1,A1,n1,c1,P,S,M,c2,rfl,Z,V,L⟩
  replace l:=l.call L;replace E:=E.belw L;clear L y;go_upto_region 2 with fail;refine dm ?_;intro w3 I;have q3:Below w2.heap.size w2 w3:=by rw[I];exact((aa w2).alloc Qr _).alloc (by simp) _
  have Y:Blk w3 w2.heap.size 194 #[.bool b1,.slice A1 n1 c1]:=by rw[I];exact(Blk.new w2 _ _).alloc _
  have T:Blk w3 (w2.heap.size+1) 194 #[.bool P,.slice S M c2]:=by rw[I];exact aj _ _ _ (by simp)
  replace l:=l.call q3;replace E:=E.belw q3;replace Z:=Z.belw q3;replace V:=V.belw q3;clear I q3;have y:=l.t.v3;go_wp2_with fail
  (first|refine(jw _ b' A' n' c' D' m' e' q' k' E N (by omega)).mono ?_|refine(eP _ b' A' n' c' D' m' e' q' k' E N (by omega)).mono ?_);rintro W U⟨b3,A3,n3,c3,Q,O,n4,c4,rfl,h3,h4,p⟩
  replace l:=l.call p;replace Z:=Z.belw p;replace V:=V.belw p;replace Y:=Y.b p;replace T:=T.b p;clear p y;go_upto_region 3 with fail;refine dm ?_;intro w5 G;have J:Below U.heap.size U w5:=by rw[G];exact((aa U).alloc Qr _).alloc (by simp) _
  have x3:Blk w5 U.heap.size 194 #[.bool b3,.slice A3 n3 c3]:=by rw[G];exact(Blk.new U _ _).alloc _
  have x4:Blk w5 (U.heap.size+1) 194 #[.bool Q,.slice O n4 c4]:=by rw[G];exact aj _ _ _ (by simp)
  replace l:=l.call J;replace Y:=Y.b J;replace T:=T.b J;have H:=Qh (And.intro (Z.belw J) (And.intro (V.belw J) (And.intro (h3.belw J) (h4.belw J))));have X:=Qh (And.intro Y (And.intro T (And.intro x3 x4)));have K1:=Qh l;clear G J Z V h3 h4 h E Y T x3 x4 l;change Code.wp _ _ _ (frA _ _ _ _ _ _ _ _ _ _ _ _ _ _ _ _ _ _ _ (fun _=>undef)) _;refine gG (n:=11) (x0:=(fun _=>undef)) (R:=fun ri=>List.getD ((PEq (.agg #[.bool b1,.slice A1 n1 c1]))::(PEq (.agg #[.bool Q,.slice O n4 c4]))::(VIv (q.num*(q'.den:Int)) (k+k'))::(PEq (.agg #[.bool b3,.slice A3 n3 c3]))::(PEq (.agg #[.bool P,.slice S M c2]))::(VIv (q'.num*(q.den:Int)) (k'+k))::(VIv (q.num*(q'.den:Int)+q'.num*(q.den:Int)) ((k+k')+(k'+k)+1))::(PEq (.agg #[.bool P,.slice S M c2]))::(PEq (.agg #[.bool Q,.slice O n4 c4]))::(VIv ((q.den:Int)*(q'.den:Int)) (k+k'))::(VQ (q+q') (k+k'+1))::[]) ri (fun _ _=>True)) (by kernel_rfl) rfl (aD ⟨(fun _ _ _=>rfl),(fun _ _ _=>rfl),(fun _ _ _=>rfl),(fun _ _ _=>rfl),(fun _ _ _=>rfl),(fun _ _ _=>rfl),(fun _ _ _=>rfl),(fun _ _ _=>rfl),(fun _ _ _=>rfl),(fun _ _ _=>rfl),(fun _ _ _=>rfl),(fun h=>absurd h (by decide)),trivial⟩) (aD (bP _ 0 (by kernel_rfl))) (ke.get _ ⟨gEq _,gEq _,(gIv _ _),gEq _,gEq _,(gIv _ _),(gIv _ _),gEq _,gEq _,(gIv _ _),(gQ _ _),trivial⟩) (fun j hj=>fk (by kernel_rfl) hj) (aD ⟨?_,?_,?_,?_,?_,?_,?_,?_,?_,?_,?_,(fun h=>absurd h (by decide)),trivial⟩) ?_;intro _ f a hb hd K i;have z:=X.out.1.below hb X.out.1.lt;obtain⟨y0,y1⟩:=z.c2;rotate_left;intro _ f a hb hd K i;have z:=X.out.2.2.2.below hb X.out.2.2.2.lt;obtain⟨y0,y1⟩:=z.c2;rotate_left
  ·intro _ f a hb hd K i
   have ab:f 0=_:=hd ⟨0,.data⟩ (by simp) rfl;have aC:f 1=_:=hd ⟨1,.data⟩ (by simp) rfl;(try dsimp only[frA]);(try simp only[ab,aC]);go_simp
   first
   |(go_at_call 199;(with_reducible refine(qL a b1 A1 n1 c1 q.num k (H.out.1.belw hb).iz Q O n4 c4 (q'.den:Int) k' (H.out.2.2.2.belw hb).iz (by omega)).mono ?_))
   |(go_at_call 236;(with_reducible refine(iq a b1 A1 n1 c1 q.num k (H.out.1.belw hb).iz Q O n4 c4 (q'.den:Int) k' (H.out.2.2.2.belw hb).iz (by omega)).mono ?_))
   rintro W wr⟨x,B,n9,u,rfl,C,g⟩;have d:=i.out _ _ ⟨x,B,n9,u,rfl,C⟩ g;dsimp only[frA]at d;simp only[ab,aC]at d;exact d
  intro _ f a hb hd K i;have z:=X.out.2.2.1.below hb X.out.2.2.1.lt;obtain⟨y0,y1⟩:=z.c2;rotate_left;intro _ f a hb hd K i;have z:=X.out.2.1.below hb X.out.2.1.lt;obtain⟨y0,y1⟩:=z.c2;rotate_left
  ·intro _ f a hb hd K i
   have ao:f 3=_:=hd ⟨3,.data⟩ (by simp) rfl;have an:f 4=_:=hd ⟨4,.data⟩ (by simp) rfl;(try dsimp only[frA]);(try simp only[ao,an]);go_simp
   first
   |(go_at_call 199;(with_reducible refine(qL a b3 A3 n3 c3 q'.num k' (H.out.2.2.1.belw hb).iz P S M c2 (q.den:Int) k (H.out.2.1.belw hb).iz (by omega)).mono ?_))
   |(go_at_call 236;(with_reducible refine(iq a b3 A3 n3 c3 q'.num k' (H.out.2.2.1.belw hb).iz P S M c2 (q.den:Int) k (H.out.2.1.belw hb).iz (by omega)).mono ?_))
   rintro W wr⟨x,B,n9,u,rfl,C,g⟩;have d:=i.out _ _ ⟨x,B,n9,u,rfl,C⟩ g;dsimp only[frA]at d;simp only[ao,an]at d;exact d
  ·intro _ f a hb hd K i
   obtain⟨b5,A5,n5,c5,e5,h5⟩:VIv (q.num*(q'.den:Int)) (k+k') (f 2) a:=hd ⟨2,.data⟩ (by simp) rfl;obtain⟨b6,A6,n6,c6,e6,h6⟩:VIv (q'.num*(q.den:Int)) (k'+k) (f 5) a:=hd ⟨5,.data⟩ (by simp) rfl;(try dsimp only[frA]);(try simp only[e5,e6]);go_simp
   first
   |(go_at_call 242;(with_reducible refine(tX a b5 A5 n5 c5 (q.num*(q'.den:Int)) (k+k') h5.iz b6 A6 n6 c6 (q'.num*(q.den:Int)) (k'+k) h6.iz (by omega)).mono ?_))
   rintro W wr⟨x,B,n9,u,rfl,C,g⟩;have d:=i.out _ _ ⟨x,B,n9,u,rfl,C⟩ g;dsimp only[frA]at d;simp only[e5,e6]at d;exact d
  intro _ f a hb hd K i;have z:=X.out.2.1.below hb X.out.2.1.lt;obtain⟨y0,y1⟩:=z.c2;rotate_left;intro _ f a hb hd K i;have z:=X.out.2.2.2.below hb X.out.2.2.2.lt;obtain⟨y0,y1⟩:=z.c2;rotate_left
  ·intro _ f a hb hd K i
   have aF:f 7=_:=hd ⟨7,.data⟩ (by simp) rfl;have al:f 8=_:=hd ⟨8,.data⟩ (by simp) rfl;(try dsimp only[frA]);(try simp only[aF,al]);go_simp
   first
   |(go_at_call 199;(with_reducible refine(qL a P S M c2 (q.den:Int) k (H.out.2.1.belw hb).iz Q O n4 c4 (q'.den:Int) k' (H.out.2.2.2.belw hb).iz (by omega)).mono ?_))
   |(go_at_call 236;(with_reducible refine(iq a P S M c2 (q.den:Int) k (H.out.2.1.belw hb).iz Q O n4 c4 (q'.den:Int) k' (H.out.2.2.2.belw hb).iz (by omega)).mono ?_))
   rintro W wr⟨x,B,n9,u,rfl,C,g⟩;have d:=i.out _ _ ⟨x,B,n9,u,rfl,C⟩ g;dsimp only[frA]at d;simp only[aF,al]at d;exact d
  ·intro _ f a hb hd K i
   obtain⟨b5,A5,n5,c5,e5,h5⟩:VIv (q.num*(q'.den:Int)+q'.num*(q.den:Int)) ((k+k')+(k'+k)+1) (f 6) a:=hd ⟨6,.data⟩ (by simp) rfl;obtain⟨b6,A6,n6,c6,e6,h6⟩:VIv ((q.den:Int)*(q'.den:Int)) (k+k') (f 9) a:=hd ⟨9,.data⟩ (by simp) rfl;(try dsimp only[frA]);(try simp only[e5,e6]);go_simp
   first
   |(go_at_call 228;(with_reducible refine(yi a b5 A5 n5 c5 (q.num*(q'.den:Int)+q'.num*(q.den:Int)) ((k+k')+(k'+k)+1) h5.iz b6 A6 n6 c6 ((q.den:Int)*(q'.den:Int)) (k+k') h6.iz (q+q') (k+k'+1) (Ht (fx _) (fx _)) (xx _ _).symm (xy HS.out ad.out) (by omega)).mono ?_))
   |(go_at_call 237;(with_reducible refine(mE a b5 A5 n5 c5 (q.num*(q'.den:Int)+q'.num*(q.den:Int)) ((k+k')+(k'+k)+1) h5.iz b6 A6 n6 c6 ((q.den:Int)*(q'.den:Int)) (k+k') h6.iz (q+q') (k+k'+1) (Ht (fx _) (fx _)) (xx _ _).symm (xy HS.out ad.out) (by omega)).mono ?_))
   rintro W wr⟨x,B,n9,u,D9,m9,f9,rfl,C,g⟩;have d:=i.out _ _ ⟨x,B,n9,u,D9,m9,f9,rfl,C⟩ g;dsimp only[frA]at d;simp only[e5,e6]at d;exact d
  ·intro o ho f a hb hr K i
   injection ho with ho;subst ho;obtain⟨x,B,n9,u,D9,m9,f9,dq,C⟩:VQ (q+q') (k+k'+1) (f 10) a:=hr 10 (by decide);have K9:=K1.out.call hb;have y:=K9.r.v3;dsimp only[frA];simp only[dq];go_simp;refine i.out _ _ ?_;have HE:=Qh (pE K9.r K9.q (show w.heap.size<=w.heap.size+1+1 by omega) C);go_wp2_with fail;refine zr1 (.agg #[.bool x,.slice B n9 u,.slice D9 m9 f9]) ?_;exact HE.out
  all_goals
   (try dsimp only[frA]);go_simp;have d:=i.out _ _ rfl (aa _);dsimp only[frA]at d;exact d
theorem yU(w:World)(b A n c D m e q k)(h:QZ w b A n c D m e q k)(b' A' n' c' D' m' e' q' k')(g:QZ w b' A' n' c' D' m' e' q' k')(i:0<k)(f:k<=40000000)(d:0<k')(a:k'<=40000000):Calls Tryz.prog 217 #[.agg #[.bool b,.slice A n c,.slice D m e],.agg #[.bool b',.slice A' n' c',.slice D' m' e']] w (nG w (q+q') (k+k'+1)):=BL _ rfl w b A n c D m e q k h b' A' n' c' D' m' e' q' k' g i f d a
theorem tw2{W w a:World}{g t:Nat}{c0 c1:Array Value}(h:Blk w g t c0/\Blk w (g+1) t c1/\Below g W w)(hb:Below w.heap.size w a):Blk a g t c0/\Blk a (g+1) t c1/\Below g W a:=⟨h.1.below hb h.1.lt,h.2.1.below hb h.2.1.lt,h.2.2.trans (hb.mono (by have:=h.1.lt;omega))⟩
theorem Du(w:World)(b A n c D m e q k)(h:QZ w b A n c D m e q k)(b' A' n' c' D' m' e' q' k')(s:QZ w b' A' n' c' D' m' e' q' k')(h0:0<k)(hk:k<=40000000)(W:0<k')(ac:k'<=40000000):Calls Tryz.prog 155 #[.agg #[.bool b,.slice A n c,.slice D m e],.agg #[.bool b',.slice A' n' c',.slice D' m' e']] w (av w (.int .i64 (dD (q.num*q'.den) (q'.num*q.den)))):=by
 go_in;go_upto_region 1 with fail;refine dm ?_;intro Y L;have f:Blk Y w.heap.size 65 #[.bool b,.slice A n c,.slice D m e]/\Blk Y (w.heap.size+1) 65 #[.bool b',.slice A' n' c',.slice D' m' e']/\Below w.heap.size w Y:=by rw[L];exact⟨(Blk.new w _ _).alloc _,aj _ _ _ (by simp),((aa w).alloc Qr _).alloc (by simp) _⟩
 replace h:=h.belw f.2.2;replace s:=s.belw f.2.2;clear L;have y:=f.1.v3;go_wp2_with fail
 (first|refine(jw _ b A n c D m e q k h h0 (by omega)).mono ?_);rintro N F⟨Z,Q,n1,c1,b2,A2,n2,c2,rfl,E,z,v⟩
 replace f:=tw2 f v;replace s:=s.belw v;clear v y;go_upto_region 2 with fail;refine dm ?_;intro w3 p;have q3:Below F.heap.size F w3:=by rw[p];exact((aa F).alloc Qr _).alloc (by simp) _
 have C:Blk w3 F.heap.size 194 #[.bool Z,.slice Q n1 c1]:=by rw[p];exact(Blk.new F _ _).alloc _
 have B:Blk w3 (F.heap.size+1) 194 #[.bool b2,.slice A2 n2 c2]:=by rw[p];exact aj _ _ _ (by simp)
 replace f:=tw2 f q3;replace s:=s.belw q3;replace E:=E.belw q3;replace z:=z.belw q3;clear p q3;have y:=f.2.1.v3;go_wp2_with fail
 (first|refine(jw _ b' A' n' c' D' m' e' q' k' s W (by omega)).mono ?_);rintro N x⟨O,V,P,c3,b4,A4,n4,c4,rfl,h3,h4,j⟩
 replace f:=tw2 f j;replace E:=E.belw j;replace z:=z.belw j;replace C:=C.b j;replace B:=B.b j;clear j y;go_upto_region 3 with fail;refine dm ?_;intro w5 r;have t:Below x.heap.size x w5:=by rw[r];exact((aa x).alloc Qr _).alloc (by simp) _
 have x3:Blk w5 x.heap.size 194 #[.bool O,.slice V P c3]:=by rw[r];exact(Blk.new x _ _).alloc _
 have x4:Blk w5 (x.heap.size+1) 194 #[.bool b4,.slice A4 n4 c4]:=by rw[r];exact aj _ _ _ (by simp)
 replace f:=tw2 f t;replace C:=C.b t;replace B:=B.b t;have H:=Qh (And.intro (E.belw t) (And.intro (z.belw t) (And.intro (h3.belw t) (h4.belw t))));have X:=Qh (And.intro C (And.intro B (And.intro x3 x4)));have K1:=Qh f;clear r t E z h3 h4 h s C B x3 x4 f;change Code.wp _ _ _ (frC _ _ _ _ _ _ _ _ _ _ _ _ _ _ _ _ _ _ (fun ri=>List.getD (_::_::_::_::_::_::_::_::[]) ri undef)) _;refine mF (x0:=_) (R:=fun ri=>List.getD ((PEq (.agg #[.bool Z,.slice Q n1 c1]))::(PEq (.agg #[.bool b4,.slice A4 n4 c4]))::(VIv (q.num*(q'.den:Int)) (k+k'))::(PEq (.agg #[.bool O,.slice V P c3]))::(PEq (.agg #[.bool b2,.slice A2 n2 c2]))::(VIv (q'.num*(q.den:Int)) (k'+k))::(PEq (.int .i64 (dD (q.num*(q'.den:Int)) (q'.num*(q.den:Int)))))::(PEq (.int .i64 (dD (q.num*(q'.den:Int)) (q'.num*(q.den:Int)))))::[]) ri (fun _ _=>True)) (by kernel_rfl) (aD ⟨fun _ _=>rfl,fun _ _=>rfl,fun _ _=>rfl,fun _ _=>rfl,fun _ _=>rfl,fun _ _=>rfl,fun _ _=>rfl,fun _ _=>rfl,trivial⟩) (aD (bP _ 0 (by kernel_rfl))) (ke.get _ ⟨gEq _,gEq _,(gIv _ _),gEq _,gEq _,(gIv _ _),gEq _,gEq _,trivial⟩) (aD ⟨?_,?_,?_,?_,?_,?_,?_,?_,trivial⟩) ?_;intro a i hb hd K l;have u:=X.out.1.below hb X.out.1.lt;obtain⟨U,y1⟩:=u.c2;have g:=trivial;rotate_left;intro a i hb hd K l;have u:=X.out.2.2.2.below hb X.out.2.2.2.lt;obtain⟨U,y1⟩:=u.c2;have g:=trivial;rotate_left
 ·intro a i hb hd K l
  have G:a 0=_:=hd ⟨0,.data⟩ (by simp) rfl;have M:a 1=_:=hd ⟨1,.data⟩ (by simp) rfl;(try dsimp only[frC]);(try simp only[G,M]);go_simp
  first
  |(go_at_call 199;(with_reducible refine(qL i Z Q n1 c1 q.num k (H.out.1.belw hb).iz b4 A4 n4 c4 (q'.den:Int) k' (H.out.2.2.2.belw hb).iz (by omega)).mono ?_))
  rintro N wr⟨T,A9,n9,S,rfl,h9,o⟩;have d:=l.out _ _ ⟨T,A9,n9,S,rfl,h9⟩ o;dsimp only[frC]at d;simp only[G,M]at d;exact d
 intro a i hb hd K l;have u:=X.out.2.2.1.below hb X.out.2.2.1.lt;obtain⟨U,y1⟩:=u.c2;have g:=trivial;rotate_left;intro a i hb hd K l;have u:=X.out.2.1.below hb X.out.2.1.lt;obtain⟨U,y1⟩:=u.c2;have g:=trivial;rotate_left
 ·intro a i hb hd K l
  have J:a 3=_:=hd ⟨3,.data⟩ (by simp) rfl;have I:a 4=_:=hd ⟨4,.data⟩ (by simp) rfl;(try dsimp only[frC]);(try simp only[J,I]);go_simp
  first
  |(go_at_call 199;(with_reducible refine(qL i O V P c3 q'.num k' (H.out.2.2.1.belw hb).iz b2 A2 n2 c2 (q.den:Int) k (H.out.2.1.belw hb).iz (by omega)).mono ?_))
  rintro N wr⟨T,A9,n9,S,rfl,h9,o⟩;have d:=l.out _ _ ⟨T,A9,n9,S,rfl,h9⟩ o;dsimp only[frC]at d;simp only[J,I]at d;exact d
 ·intro a i hb hd K l
  obtain⟨b5,A5,n5,c5,e5,h5⟩:VIv (q.num*(q'.den:Int)) (k+k') (a 2) i:=hd ⟨2,.data⟩ (by simp) rfl;obtain⟨b6,A6,n6,c6,e6,h6⟩:VIv (q'.num*(q.den:Int)) (k'+k) (a 5) i:=hd ⟨5,.data⟩ (by simp) rfl;(try dsimp only[frC]);(try simp only[e5,e6]);go_simp
  first
  |(go_at_call 152;(with_reducible refine(yd i b5 A5 n5 c5 (q.num*(q'.den:Int)) (k+k') h5.iz b6 A6 n6 c6 (q'.num*(q.den:Int)) (k'+k) h6.iz (by omega)).mono ?_))
  rintro N wr⟨rfl,o⟩;have d:=l.out _ _ rfl o;dsimp only[frC]at d;simp only[e5,e6]at d;exact d
 intro a i hb hd K l;have g:a 6=_:=hd ⟨6,.data⟩ (by simp) rfl;rotate_left
 ·intro a i hb hr
  have ab:a 7=.int .i64 (dD (q.num*(q'.den:Int)) (q'.num*(q.den:Int))):=hr 7 (by decide);have hq:=K1.out.2.2.trans (hb.mono K1.out.2.2.size);dsimp only[frC];simp only[ab];go_wp2;go_ret;exact cF rfl hq
 all_goals
  (try dsimp only[frC]);(try simp only[g]);go_simp;have d:=l.out _ _ rfl (aa _);dsimp only[frC]at d;(try simp only[g]at d);exact d
abbrev frN(u0 u1 u2 u3 u4 u5 u6 u7 u8 u9:Value)(xf:Nat->Value):Act:=⟨List.toArray (u0::u1::u2::u3::u4::u5::u6::u7::u8::u9::xf 0::xf 1::xf 2::xf 3::[]),[]⟩
theorem yV(w:World)(b A n c D m e q k)(h:QZ w b A n c D m e q k)(h0:0<k)(hk:k<=40000000):Calls Tryz.prog 203 #[.agg #[.bool b,.slice A n c,.slice D m e]] w (nG w (-q) k):=by
 have HS:=Qh (h.sz h0);go_in;go_upto_region 1 with fail;refine dm ?_;intro J z;have d:Blk J w.heap.size 65 #[.bool b,.slice A n c,.slice D m e]/\Blk J (w.heap.size+1) 65 #[.bool false,.slice none 0 0,.slice none 0 0]/\Below w.heap.size w J:=by rw[z];exact⟨(Blk.new w _ _).alloc _,aj _ _ _ (by simp),((aa w).alloc Qr _).alloc (by simp) _⟩
 replace h:=h.belw d.2.2;clear z;have y:=d.1.v3;go_wp2_with fail;(refine(eP _ b A n c D m e q k h h0 (by omega)).mono ?_);rintro Y r⟨L,F,S,c1,P,Q,U,c2,rfl,h1,W,C⟩;replace d:=tw2 d C;clear C y;go_upto_region 2 with fail;refine dm ?_;intro M l;have q3:Below r.heap.size r M:=by rw[l];exact((aa r).alloc Qr _).alloc (by simp) _
 have X:Hid (Blk M r.heap.size 194 #[.bool L,.slice F S c1]/\Blk M (r.heap.size+1) 194 #[.bool P,.slice Q U c2]):=Qh (by rw[l];exact⟨(Blk.new r _ _).alloc _,aj _ _ _ (by simp)⟩);replace d:=tw2 d q3;have H:=Qh (And.intro (h1.belw q3) (W.belw q3));have Z:=Qh d.2.1;have BW:=Qh d.2.2;clear l q3 h1 W h d;change Code.wp _ _ _ (frN _ _ _ _ _ _ _ _ _ _ (fun _=>undef)) _;refine gG (n:=4) (x0:=(fun _=>undef)) (R:=fun ri=>List.getD ((PEq (.agg #[.bool L,.slice F S c1]))::(VIv (-q.num) k)::(PEq (.agg #[.bool P,.slice Q U c2]))::(VQ (-q) k)::[]) ri (fun _ _=>True)) (by kernel_rfl) rfl (aD ⟨(fun _ _ _=>rfl),(fun _ _ _=>rfl),(fun _ _ _=>rfl),(fun _ _ _=>rfl),(fun h=>absurd h (by decide)),trivial⟩) (aD (bP _ 0 (by kernel_rfl))) (ke.get _ ⟨gEq _,(gIv _ _),gEq _,(gQ _ _),trivial⟩) (fun j hj=>fk (by kernel_rfl) hj) (aD ⟨?_,?_,?_,?_,(fun h=>absurd h (by decide)),trivial⟩) ?_;intro _ g f hb hd K i;have I:=X.out.1.below hb X.out.1.lt;obtain⟨y0,y1⟩:=I.c2;rotate_left
 ·intro _ g f hb hd K i
  have t:g 0=_:=hd ⟨0,.data⟩ (by simp) rfl;(try dsimp only[frN]);(try simp only[t]);go_simp;go_at_call 238;refine(lQ f L F S c1 q.num k (H.out.1.belw hb).iz (by omega)).mono ?_;rintro Y wr⟨x,B,n9,u,rfl,E,p⟩;have a:=i.out _ _ ⟨x,B,n9,u,rfl,E⟩ p;dsimp only[frN]at a;simp only[t]at a;exact a
 intro _ g f hb hd K i;have I:=X.out.2.below hb X.out.2.lt;obtain⟨y0,y1⟩:=I.c2;rotate_left
 ·intro _ g f hb hd K i
  have s:g 2=_:=hd ⟨2,.data⟩ (by simp) rfl;obtain⟨b5,A5,n5,c5,V,h5⟩:VIv (-q.num) k (g 1) f:=hd ⟨1,.data⟩ (by simp) rfl;(try dsimp only[frN]);(try simp only[s,V]);go_simp;go_at_call 237;refine(mE f b5 A5 n5 c5 (-q.num) k h5.iz P Q U c2 (q.den:Int) k (H.out.2.belw hb).iz (-q) k (fx _) (Eo q).symm (CX HS.out) (by omega)).mono ?_;rintro Y wr⟨x,B,n9,u,O,N,T,rfl,E,p⟩;have a:=i.out _ _ ⟨x,B,n9,u,O,N,T,rfl,E⟩ p;dsimp only[frN]at a;simp only[s,V]at a;exact a
 ·intro o G g f hb hr K i
  injection G with G;subst G;obtain⟨x,B,n9,u,O,N,T,dq,E⟩:VQ (-q) k (g 3) f:=hr 3 (by decide);have z9:=Z.out.below hb Z.out.lt;have q9:=BW.out.trans (hb.mono BW.out.size);have y:=z9.v3;dsimp only[frN];simp only[dq];go_simp;refine i.out _ _ ?_;have HE:=Qh (pE z9 q9 (show w.heap.size<=w.heap.size+1 by omega) E);go_wp2_with fail;refine zr1 (.agg #[.bool x,.slice B n9 u,.slice O N T]) ?_;exact HE.out
 all_goals
  (try dsimp only[frN]);go_simp;have a:=i.out _ _ rfl (aa _);dsimp only[frN]at a;exact a
abbrev frS(u0 u1 u2 u3 u4:Value)(xf:Nat->Value):Act:=⟨List.toArray (u0::u1::u2::u3::u4::xf 0::xf 1::xf 2::xf 3::[]),[]⟩
theorem Dv(w:World)(b A n c D m e q k)(h:QZ w b A n c D m e q k)(b' A' n' c' D' m' e' q' k')(O:QZ w b' A' n' c' D' m' e' q' k')(W:0<k)(hk:k<=40000000)(J:0<k')(ab:k'<=40000000):Calls Tryz.prog 175 #[.agg #[.bool b,.slice A n c,.slice D m e],.agg #[.bool b',.slice A' n' c',.slice D' m' e']] w (nG w (q-q') (k+k'+1)):=by
 go_in;go_upto_region 1 with fail;refine dm ?_;intro S G;have i:B3 w w.heap.size 65 #[.bool b,.slice A n c,.slice D m e] 65 #[.bool b',.slice A' n' c',.slice D' m' e'] 65 #[.bool false,.slice none 0 0,.slice none 0 0] S:=by rw[G];exact⟨((Blk.new w _ _).alloc _).alloc _,(aj _ _ _ (by simp)).alloc _,aj _ _ _ (by simp),(((aa w).alloc Qr _).alloc (by simp) _).alloc (by simp<;>omega) _⟩
 have H:=Qh (And.intro (h.belw i.q) (O.belw i.q));have X:=Qh (And.intro i.s i.t);have Z:=Qh i.r;have Q:=Qh i.q;clear G i h O;change Code.wp _ _ _ (frS _ _ _ _ _ (fun _=>undef)) _;refine gG (n:=4) (x0:=(fun _=>undef)) (R:=fun ri=>List.getD ((PEq (.agg #[.bool b,.slice A n c,.slice D m e]))::(PEq (.agg #[.bool b',.slice A' n' c',.slice D' m' e']))::(VQ (-q') k')::(VQ (q-q') (k+k'+1))::[]) ri (fun _ _=>True)) (by kernel_rfl) rfl (aD ⟨(fun _ _ _=>rfl),(fun _ _ _=>rfl),(fun _ _ _=>rfl),(fun _ _ _=>rfl),(fun h=>absurd h (by decide)),trivial⟩) (aD (bP _ 0 (by kernel_rfl))) (ke.get _ ⟨gEq _,gEq _,(gQ _ _),(gQ _ _),trivial⟩) (fun j hj=>fk (by kernel_rfl) hj) (aD ⟨?_,?_,?_,?_,(fun h=>absurd h (by decide)),trivial⟩) ?_;intro _ d f hb hd K g;have M:=X.out.1.below hb X.out.1.lt;obtain⟨⟨y0,V,y2⟩,_⟩:=M.v3;rotate_left;intro _ d f hb hd K g;have M:=X.out.2.below hb X.out.2.lt;obtain⟨⟨y0,V,y2⟩,_⟩:=M.v3;rotate_left
 ·intro _ d f hb hd K g
  have C:d 1=_:=hd ⟨1,.data⟩ (by simp) rfl;(try dsimp only[frS]);(try simp only[C]);go_simp;go_at_call 203;refine(yV f b' A' n' c' D' m' e' q' k' (H.out.2.belw hb) J (by omega)).mono ?_;rintro Y wr⟨E,F,n9,z,B,x,I,rfl,p,l⟩;have a:=g.out _ _ ⟨E,F,n9,z,B,x,I,rfl,p⟩ l;dsimp only[frS]at a;simp only[C]at a;exact a
 ·intro _ d f hb hd K g
  have u:d 0=_:=hd ⟨0,.data⟩ (by simp) rfl;obtain⟨b5,A5,n5,c5,U,m5,f5,N,h5⟩:VQ (-q') k' (d 2) f:=hd ⟨2,.data⟩ (by simp) rfl;(try dsimp only[frS]);(try simp only[u,N]);go_simp;go_at_call 217;refine(yU f b A n c D m e q k (H.out.1.belw hb) b5 A5 n5 c5 U m5 f5 (-q') k' h5.qz W (by omega) J (by omega)).mono ?_;rintro Y wr⟨E,F,n9,z,B,x,I,rfl,p,l⟩;rw[<-Rat.sub_eq_add_neg]at p;have a:=g.out _ _ ⟨E,F,n9,z,B,x,I,rfl,p⟩ l;dsimp only[frS]at a;simp only[u,N]at a;exact a
 ·intro o L d f hb hr K g
  injection L with L;subst L;obtain⟨E,F,n9,z,B,x,I,dq,p⟩:VQ (q-q') (k+k'+1) (d 3) f:=hr 3 (by decide);have P:=Z.out.below hb Z.out.lt;have T:=Q.out.trans (hb.mono Q.out.size);have y:=P.v3;dsimp only[frS];simp only[dq];go_simp;refine g.out _ _ ?_;have HE:=Qh (pE P T (show w.heap.size<=w.heap.size+1+1 by omega) p);go_wp2_with fail;refine zr1 (.agg #[.bool E,.slice F n9 z,.slice B x I]) ?_;exact HE.out
 all_goals
  (try dsimp only[frS]);go_simp;have a:=g.out _ _ rfl (aa _);dsimp only[frS]at a;exact a
theorem Dw(w:World)(b A n c D m e q k)(h:QZ w b A n c D m e q k)(b' A' n' c' D' m' e' q' k')(i:QZ w b' A' n' c' D' m' e' q' k')(E:0<k)(F:k<=10000000)(C:0<k')(x:k'<=10000000):
 Calls Tryz.prog 136 #[.agg #[.bool b,.slice A n c,.slice D m e],.agg #[.bool b',.slice A' n' c',.slice D' m' e']] w (av w (.int .i64 (q-q').num.sign)):=by
 go_in;go_wp2_with fail;refine(Dv _ b A n c D m e (q) (k) ?_ b' A' n' c' D' m' e' (q') (k') ?_ ?_ ?_ ?_ ?_).mono ?_;(exact(h.belw (((kz _ _).alloc Qr _).alloc (by simp) _)));(exact(i.belw (((kz _ _).alloc Qr _).alloc (by simp) _)));(omega);(omega);(omega);(omega);rintro e t⟨u,v,y,c1,l,o,p,rfl,r,a⟩;have q1:=a.q2;replace h:=h.belw q1;replace i:=i.belw q1;have j:Blk t w.heap.size 65 #[.bool b,.slice A n c,.slice D m e]:=((aj _ _ _ (by simp)).alloc _).below a (by simp<;>omega);have f:=(aj _ _ _ (g:=w.heap.size+1) (by simp)).below a (by simp);have d:=(aa w).trans (q1.mono (aa w).size);have B:=a.l2;clear q1;go_wp2_with fail;refine(yr _ u v y c1 l o p ((q)-(q')) ((k)+(k')+1) ?_ ?_ ?_).mono ?_;(exact r.qz);(omega);(omega);rintro e G⟨rfl,q2⟩;replace h:=h.belw q2;replace i:=i.belw q2;replace r:=r.belw q2;replace j:=j.b q2;replace f:=f.b q2;have s:=d.trans (q2.mono d.size);have z:=q2.size;clear q2 d;go_wp2;go_ret;exact cF rfl s
theorem Dz(w:World)(b A n c z k)(h:IZ w b A n c z k)(b' A' n' c' z' k')(r:IZ w b' A' n' c' z' k')(q:Rat)(K:Nat)(hd:z'≠0)(G:Rat.divInt z z'=q)(J:Sz q K)(V:k+k'<=300000000):
 Calls Tryz.prog 235 #[.agg #[.bool b,.slice A n c],.agg #[.bool b',.slice A' n' c']] w (fg w (.int .i64 0) q K):=by
 obtain⟨s,p⟩:=Z9 (z'.sign);have U:((s:Int)==0)=false:=by simp;rintro rfl;exact hd (Gy.1 p)
 have E:=Qh p;have T:=Qh hd;have O:=Qh G;have Q:=Qh J;clear p hd G J;go_in;go_wp2_with fail;refine(kd _ b' A' n' c' (z') (k') ?_ s ?_ ?_).mono ?_;(exact(r.belw ((((kz _ _).alloc Qr _).alloc (by simp) _).alloc (by simp<;>omega) _)));(exact E.out);(omega);rintro e M⟨rfl,d⟩;have q1:=d.q3;replace h:=h.belw q1;replace r:=r.belw q1;have m:Blk M w.heap.size 194 #[.bool b,.slice A n c]:=(((aj _ _ _ (by simp)).alloc _).alloc _).below d (by simp<;>omega);have l:=((aj _ _ _ (g:=w.heap.size+1) (by simp)).alloc _).below d (by simp<;>omega);have a:=(aj _ _ _ (g:=w.heap.size+1+1) (by simp)).below d (by simp);have o:=(aa w).trans (q1.mono (aa w).size);have P:=d.l3;clear q1;have y:=m.c2;have C:=fd m.lt;have u:=l.c2;have x:=kn l.lt;go_wp2_with fail;refine(mE _ b A n c (z) (k) ?_ b' A' n' c' (z') (k') ?_ q K ?_ ?_ ?_ ?_).mono ?_;(exact h);(exact r);(exact T.out);(exact O.out);(exact Q.out);(omega);rintro e S⟨t,B,D,c2,f,j,i,rfl,N,q2⟩;clear y C u x;replace h:=h.belw q2;replace r:=r.belw q2;replace m:=m.b q2;replace l:=l.b q2;replace a:=a.b q2;have F:=o.trans (q2.mono o.size);have R:=q2.size;clear q2 o;have H:=a.c3;have L:=a.f3;have I:=uZ a.lt;go_wp2_with fail;refine zr1 (.tuple #[.agg #[.bool t,.slice B D c2,.slice f j i],.int .i64 0]) ?_;exact⟨t,B,D,c2,f,j,i,rfl,N.keep ((((Kp.refl S).sb (w.heap.size+1+1) 0 a.box (by decide) (.bool t)).sb (w.heap.size+1+1) 1 (a.box.set ⟨w.heap.size+1+1,0,none⟩ (.bool t)) (by decide) (.slice B D c2)).sb (w.heap.size+1+1) 2 ((a.box.set ⟨w.heap.size+1+1,0,none⟩ (.bool t)).set ⟨w.heap.size+1+1,1,none⟩ (.slice B D c2)) (by decide) (.slice f j i)),(((F.sc (w.heap.size+1+1) 0 (by omega) (.bool t)).sc (w.heap.size+1+1) 1 (by omega) (.slice B D c2)).sc (w.heap.size+1+1) 2 (by omega) (.slice f j i))⟩
theorem DA(w:World)(i:Int)(I:-4294967296<i)(z:i<4294967296):
 Calls Tryz.prog 202 #[.int .i64 i] w (nG w (i:Rat) 1):=by
 go_in;go_wp2_with fail;refine(tY _ (i) ?_ ?_).mono ?_;(omega);(omega);rintro e t⟨u,y,F,c1,rfl,m,j⟩;have q1:=j.q1;have a:Blk t w.heap.size 65 #[.bool false,.slice none 0 0,.slice none 0 0]:=(aj _ _ _ (by simp)).below j (by simp);have g:=(aa w).trans (q1.mono (aa w).size);have A:=j.l1;clear q1;go_wp2_with fail;refine(qP _).mono ?_;rintro e J⟨C,E,H,c2,rfl,o,q2⟩;replace m:=m.belw q2;replace a:=a.b q2;have h:=g.trans (q2.mono g.size);have G:=q2.size;clear q2 g;go_wp2_with fail;refine(mE _ u y F c1 (i) (1) ?_ C E H c2 (1) (1) ?_ ((i:Rat)) (1) ?_ ?_ ?_ ?_).mono ?_;(exact m.iz);(exact o.iz);(decide);(exact ye i);(exact CZ (by omega) (by decide));(decide);rintro e x⟨k,n,l,c3,f,c,d,rfl,D,q3⟩;replace m:=m.belw q3;replace o:=o.belw q3;replace a:=a.b q3;have p:=h.trans (q3.mono h.size);have B:=q3.size;clear q3 h;have r:=a.c3;have q:=a.f3;have s:=fd a.lt;go_wp2_with fail;refine zr1 (.agg #[.bool k,.slice n l c3,.slice f c d]) ?_;exact⟨k,n,l,c3,f,c,d,rfl,D.keep ((((Kp.refl x).sb w.heap.size 0 a.box (by decide) (.bool k)).sb w.heap.size 1 (a.box.set ⟨w.heap.size,0,none⟩ (.bool k)) (by decide) (.slice n l c3)).sb w.heap.size 2 ((a.box.set ⟨w.heap.size,0,none⟩ (.bool k)).set ⟨w.heap.size,1,none⟩ (.slice n l c3)) (by decide) (.slice f c d)),(((p.sc w.heap.size 0 (by omega) (.bool k)).sc w.heap.size 1 (by omega) (.slice n l c3)).sc w.heap.size 2 (by omega) (.slice f c d))⟩
theorem Four.b{w a:World}{f d g c t:Nat}{c1 c2 c3 c4:Array Value}(X:Blk w f t c1/\Blk w d t c2/\Blk w g t c3/\Blk w c t c4)(hb:Below w.heap.size w a):Blk a f t c1/\Blk a d t c2/\Blk a g t c3/\Blk a c t c4:=⟨X.1.below hb X.1.lt,X.2.1.below hb X.2.1.lt,X.2.2.1.below hb X.2.2.1.lt,X.2.2.2.below hb X.2.2.2.lt⟩
theorem FourV.b{w a:World}{d l g m:Bool}{h o n k:Option Addr}{p q f n4 c1 c2 c3 c4 c k2 k3 j:Nat}{z1 z2 z3 i:Int}(H:IV w d h p c1 z1 c/\IV w l o q c2 z2 k2/\IV w g n f c3 z3 k3/\IV w m k n4 c4 i j)(hb:Below w.heap.size w a):IV a d h p c1 z1 c/\IV a l o q c2 z2 k2/\IV a g n f c3 z3 k3/\IV a m k n4 c4 i j:=⟨H.1.belw hb,H.2.1.belw hb,H.2.2.1.belw hb,H.2.2.2.belw hb⟩
theorem ER(w:World)(b A n c D m e q k)(h:QZ w b A n c D m e q k)(b' A' n' c' D' m' e' q' k')(g:QZ w b' A' n' c' D' m' e' q' k')(W:0<k)(hk:k<=40000000)(F:0<k')(ab:k'<=40000000):Calls Tryz.prog 234 #[.agg #[.bool b,.slice A n c,.slice D m e],.agg #[.bool b',.slice A' n' c',.slice D' m' e']] w (nG w (q*q') (k+k')):=by
 have HS:=Qh (h.sz W);have K:=Qh (g.sz F);go_in;go_upto_region 1 with fail;refine dm ?_;intro w1 E;have a:B3 w w.heap.size 65 #[.bool b,.slice A n c,.slice D m e] 65 #[.bool b',.slice A' n' c',.slice D' m' e'] 65 #[.bool false,.slice none 0 0,.slice none 0 0] w1:=by rw[E];exact⟨((Blk.new w _ _).alloc _).alloc _,(aj _ _ _ (by simp)).alloc _,aj _ _ _ (by simp),(((aa w).alloc Qr _).alloc (by simp) _).alloc (by simp<;>omega) _⟩
 replace h:=h.belw a.q;replace g:=g.belw a.q;clear E;have y:=a.s.v3;go_wp2_with fail;(refine(eP _ b A n c D m e q k h W (by omega)).mono ?_);rintro G C⟨V,R,n1,c1,b2,A2,Y,c2,rfl,B,z,u⟩;replace a:=a.call u;replace g:=g.belw u;clear u y;go_upto_region 2 with fail;refine dm ?_;intro M f;have q3:Below C.heap.size C M:=by rw[f];exact((aa C).alloc Qr _).alloc (by simp) _
 have o:Blk M C.heap.size 194 #[.bool V,.slice R n1 c1]:=by rw[f];exact(Blk.new C _ _).alloc _
 have l:Blk M (C.heap.size+1) 194 #[.bool b2,.slice A2 Y c2]:=by rw[f];exact aj _ _ _ (by simp)
 replace a:=a.call q3;replace g:=g.belw q3;replace B:=B.belw q3;replace z:=z.belw q3;clear f q3;have y:=a.t.v3;go_wp2_with fail;(refine(eP _ b' A' n' c' D' m' e' q' k' g F (by omega)).mono ?_);rintro G x⟨P,U,Q,c3,b4,Z,n4,c4,rfl,T,S,d⟩;replace a:=a.call d;replace B:=B.belw d;replace z:=z.belw d;replace o:=o.b d;replace l:=l.b d;clear d y;go_upto_region 3 with fail;refine dm ?_;intro O i;have j:Below x.heap.size x O:=by rw[i];exact((aa x).alloc Qr _).alloc (by simp) _
 have I:Blk O x.heap.size 194 #[.bool P,.slice U Q c3]:=by rw[i];exact(Blk.new x _ _).alloc _
 have L:Blk O (x.heap.size+1) 194 #[.bool b4,.slice Z n4 c4]:=by rw[i];exact aj _ _ _ (by simp)
 replace a:=a.call j;replace o:=o.b j;replace l:=l.b j;have H:=And.intro (B.belw j) (And.intro (z.belw j) (And.intro (T.belw j) (S.belw j)));clear i j B z T S h g;have X:=And.intro o (And.intro l (And.intro I L));have y:=And.intro o.v2 (And.intro l.v2 (And.intro I.v2 L.v2));clear o l I L
 go_region_with (first
  |(go_at_call 236;(with_reducible refine(iq _ V R n1 c1 q.num k ?_ P U Q c3 q'.num k' ?_ ?_).mono ?_);(exact H.1.iz);(exact H.2.2.1.iz);(omega);rintro G wn⟨b5,A5,n5,c5,rfl,N,hb⟩;replace hb:=ag (af (aa _) 1) hb;replace a:=a.call hb;replace H:=FourV.b H hb;replace X:=Four.b X hb;have y:=And.intro X.1.v2 (And.intro X.2.1.v2 (And.intro X.2.2.1.v2 X.2.2.2.v2));clear hb)
  |(go_at_call 236;(with_reducible refine(iq _ b2 A2 Y c2 (q.den:Int) k ?_ b4 Z n4 c4 (q'.den:Int) k' ?_ ?_).mono ?_);(exact H.2.1.iz);(exact H.2.2.2.iz);(omega);rintro G wn⟨b6,A6,n6,c6,rfl,h6,hb⟩;replace a:=a.call hb;replace H:=FourV.b H hb;replace X:=Four.b X hb;have y:=And.intro X.1.v2 (And.intro X.2.1.v2 (And.intro X.2.2.1.v2 X.2.2.2.v2));replace N:=N.belw hb;clear hb)
  |(go_at_call 237;(with_reducible refine(mE _ b5 A5 n5 c5 (q.num*q'.num) (k+k') ?_ b6 A6 n6 c6 ((q.den:Int)*(q'.den:Int)) (k+k') ?_ (q*q') (k+k') ?_ ?_ ?_ ?_).mono ?_);(exact N.iz);(exact h6.iz);(exact Ht (fx _) (fx _));(exact(Cy _ _).symm);(exact CW HS.out K.out);(omega);rintro G wn⟨b9,A9,n9,c9,D9,m9,J,rfl,h9,hb⟩;replace a:=a.call hb;have y:=a.r.v3;clear hb))
 all_goals
  go_wp2_with fail;refine zr1 (.agg #[.bool b9,.slice A9 n9 c9,.slice D9 m9 J]) ?_;exact⟨_,_,_,_,_,_,_,rfl,h9.keep (a.r.k3 (by decide) _ _ _),((a.q.setCell (p:=⟨w.heap.size+1+1,0,none⟩) (by show w.heap.size<=w.heap.size+1+1;omega) _).setCell (p:=⟨w.heap.size+1+1,1,none⟩) (by show w.heap.size<=w.heap.size+1+1;omega) _).setCell (p:=⟨w.heap.size+1+1,2,none⟩) (by show w.heap.size<=w.heap.size+1+1;omega) _⟩
theorem CJ(w:World)(b A n c D m e q k)(h:QZ w b A n c D m e q k)(b' A' n' c' D' m' e' q' k')(g:QZ w b' A' n' c' D' m' e' q' k')(h0:0<k)(hk:k<=40000000)(I:0<k')(ab:k'<=40000000)(F:q'≠0):Calls Tryz.prog 201 #[.agg #[.bool b,.slice A n c,.slice D m e],.agg #[.bool b',.slice A' n' c',.slice D' m' e']] w (fg w (.int .i64 0) (q/q') (k+k')):=by
 have HS:=Qh (h.sz h0);have N:=Qh (g.sz I);have M:=Qh F;clear F;go_in;go_upto_region 1 with fail;refine dm ?_;intro w1 G;have a:B3 w w.heap.size 65 #[.bool b,.slice A n c,.slice D m e] 65 #[.bool b',.slice A' n' c',.slice D' m' e'] 65 #[.bool false,.slice none 0 0,.slice none 0 0] w1:=by rw[G];exact⟨((Blk.new w _ _).alloc _).alloc _,(aj _ _ _ (by simp)).alloc _,aj _ _ _ (by simp),(((aa w).alloc Qr _).alloc (by simp) _).alloc (by simp<;>omega) _⟩
 replace h:=h.belw a.q;replace g:=g.belw a.q;clear G;have y:=a.s.v3;go_wp2_with fail;(refine(eP _ b A n c D m e q k h h0 (by omega)).mono ?_);rintro J E⟨Z,U,n1,c1,b2,A2,n2,c2,rfl,C,B,u⟩;replace a:=a.call u;replace g:=g.belw u;clear u y;go_upto_region 2 with fail;refine dm ?_;intro P f;have q3:Below E.heap.size E P:=by rw[f];exact((aa E).alloc Qr _).alloc (by simp) _
 have o:Blk P E.heap.size 194 #[.bool Z,.slice U n1 c1]:=by rw[f];exact(Blk.new E _ _).alloc _
 have l:Blk P (E.heap.size+1) 194 #[.bool b2,.slice A2 n2 c2]:=by rw[f];exact aj _ _ _ (by simp)
 replace a:=a.call q3;replace g:=g.belw q3;replace C:=C.belw q3;replace B:=B.belw q3;clear f q3;have y:=a.t.v3;go_wp2_with fail;(refine(eP _ b' A' n' c' D' m' e' q' k' g I (by omega)).mono ?_);rintro J z⟨S,Y,T,c3,b4,A4,n4,c4,rfl,W,V,d⟩;replace a:=a.call d;replace C:=C.belw d;replace B:=B.belw d;replace o:=o.b d;replace l:=l.b d;clear d y;go_upto_region 3 with fail;refine dm ?_;intro R i;have j:Below z.heap.size z R:=by rw[i];exact((aa z).alloc Qr _).alloc (by simp) _
 have K:Blk R z.heap.size 194 #[.bool S,.slice Y T c3]:=by rw[i];exact(Blk.new z _ _).alloc _
 have O:Blk R (z.heap.size+1) 194 #[.bool b4,.slice A4 n4 c4]:=by rw[i];exact aj _ _ _ (by simp)
 replace a:=a.call j;replace o:=o.b j;replace l:=l.b j;have H:=And.intro (C.belw j) (And.intro (B.belw j) (And.intro (W.belw j) (V.belw j)));clear i j C B W V h g;have X:=And.intro o (And.intro l (And.intro K O));have y:=And.intro o.v2 (And.intro l.v2 (And.intro K.v2 O.v2));clear o l K O
 go_region_with (first
  |(go_at_call 236;(with_reducible refine(iq _ Z U n1 c1 q.num k ?_ b4 A4 n4 c4 (q'.den:Int) k' ?_ ?_).mono ?_);(exact H.1.iz);(exact H.2.2.2.iz);(omega);rintro J wn⟨b5,A5,n5,c5,rfl,Q,hb⟩;replace hb:=ag (af (aa _) 1) hb;replace a:=a.call hb;replace H:=FourV.b H hb;replace X:=Four.b X hb;have y:=And.intro X.1.v2 (And.intro X.2.1.v2 (And.intro X.2.2.1.v2 X.2.2.2.v2));clear hb)
  |(go_at_call 236;(with_reducible refine(iq _ b2 A2 n2 c2 (q.den:Int) k ?_ S Y T c3 q'.num k' ?_ ?_).mono ?_);(exact H.2.1.iz);(exact H.2.2.1.iz);(omega);rintro J wn⟨b6,A6,n6,c6,rfl,h6,hb⟩;replace a:=a.call hb;replace H:=FourV.b H hb;replace X:=Four.b X hb;have y:=And.intro X.1.v2 (And.intro X.2.1.v2 (And.intro X.2.2.1.v2 X.2.2.2.v2));replace Q:=Q.belw hb;clear hb)
  |(go_at_call 235;(with_reducible refine(Dz _ b5 A5 n5 c5 (q.num*(q'.den:Int)) (k+k') ?_ b6 A6 n6 c6 ((q.den:Int)*q'.num) (k+k') ?_ (q/q') (k+k') ?_ ?_ ?_ ?_).mono ?_);(exact Q.iz);(exact h6.iz);(exact Ht (fx _) (fun x=>M.out (Hs.1 x)));(exact(Cz _ _ M.out).symm);(exact CY HS.out N.out M.out);(omega);rintro J wn⟨b9,A9,n9,c9,D9,m9,L,rfl,h9,hb⟩;replace a:=a.call hb;have y:=a.r.v3;clear hb))
 all_goals
  go_wp2_with fail;refine zr1 (.tuple #[.agg #[.bool b9,.slice A9 n9 c9,.slice D9 m9 L],.int .i64 0]) ?_;exact⟨_,_,_,_,_,_,_,rfl,h9.keep (a.r.k3 (by decide) _ _ _),((a.q.setCell (p:=⟨w.heap.size+1+1,0,none⟩) (by show w.heap.size<=w.heap.size+1+1;omega) _).setCell (p:=⟨w.heap.size+1+1,1,none⟩) (by show w.heap.size<=w.heap.size+1+1;omega) _).setCell (p:=⟨w.heap.size+1+1,2,none⟩) (by show w.heap.size<=w.heap.size+1+1;omega) _⟩
end Go.Proofs.YtfilnhompchciaaGreatDoor
namespace Bn
open Go.Lib
theorem mG{c:UInt8}(h:aU c=true):UInt8.ofNat (48+gX c)=c:=by
 unfold aU at h;rw[uv,FZ,FZ]at h;unfold gX;rw[show 48+(c.toNat-48)=c.toNat by omega];simp
theorem uj{c:UInt8}(h:aU c=true):gX c<10:=by
 unfold aU at h;rw[uv,FZ,FZ]at h;unfold gX;omega
theorem vM:∀(k:Nat) {t:List UInt8},t.length=k->t.all aU=true->t≠[]->(t.head?≠some 48\/t.length=1)->decDigits (ap t)=t:=by
 intro k
 induction k with
 |zero=>intro t b _ a _;exact absurd (lq b) a
 |succ k ih =>
  intro t b a i l;have e:=(List.dropLast_concat_getLast i).symm;generalize t.dropLast=u at e;generalize t.getLast i=c at e;subst e;rw[Gv,uv,Gd,uv]at a;have d:=a.2.1;rw[dP];by_cases hu:u=[]
  ·subst hu
   rw[show ap []=0 from rfl,Nat.zero_mul,Nat.zero_add,decDigits_one (uj d),mG d];rfl
  ·have g:u.head?≠some 48:=by
    rcases l with h|h
    ·intro e;apply h;cases u with
     |nil=>exact absurd rfl hu
     |cons x r=>exact e
    rw[kc,F8]at h;have:=FW.2 hu;omega
   have f:=ih (t:=u) (by rw[kc]at b;simp at b;exact b) a.1 hu (.inl g)
   have j:0<ap u:=by
    rcases Nat.eq_zero_or_pos (ap u) with h|h
    ·rw[h,decDigits_one (by omega)]at f
     exfalso;apply g;rw[<-f];rfl
    exact h
   rw[qS j (uj d),f,mG d]
def bH(q:Rat):List UInt8:=if q.den=1 then itoa q.num else itoa q.num++47::itoa (q.den:Int)
theorem yW{c:UInt8}:∀ {a b:List UInt8},c ∉ a->index (a++c::b) [c]=(a.length:Int):=by
 intro a
 induction a with
 |nil=>intro b _;rw[Gf,index,kZ (by simp[List.isPrefixOf])];rfl
 |cons x r ih =>
  intro b h;simp at h;have d:List.isPrefixOf [c] (x::(r++c::b))=false:=by simp[List.isPrefixOf];exact h.1
  rw[Hm,index,d,ih (b:=b) h.2];have:((r.length:Int) == -1)=false:=by rw[it];omega
  simp[this]
theorem yX{c:UInt8}:∀ {a:List UInt8},c ∉ a->index a [c]=-1:=by
 intro a
 induction a with
 |nil=>intro _;rfl
 |cons x r ih =>
  intro h;simp at h;have b:List.isPrefixOf [c] (x::r)=false:=by simp[List.isPrefixOf];exact h.1
  rw[index,b,ih h.2];rfl
theorem fO{c:UInt8}{a b:List UInt8}(h:c ∉ a):cut (a++c::b) [c]=(a,b,true):=by
 unfold cut;rw[yW h,kZ (by omega)];simp
theorem ir{c:UInt8}{a:List UInt8}(h:c ∉ a):cut a [c]=(a,[],false):=by
 unfold cut;rw[yX h,kl (by omega)]
end Bn

/- Walks: fractions: From by 0, Make, Floor, Bits, Abs, Min, Max. -/
namespace Go.Proofs.YtfilnhompchciaaGreatDoor
open Go Go.RowKit Bn
attribute [local go_sem ↓] Go.wp_at_zero Go.wp_at_succ
theorem BM(a b:Rat):dD (a.num*b.den) (b.num*a.den)=lL a b:=by
 unfold dD lL;have h:=Ep a b;by_cases h1:a<b
 ·rw[kZ h1,kZ (h.1.2 h1)]
 rw[kl h1,kl (fun x=>h1 (h.1.1 x))];by_cases h2:a=b
 ·rw[kZ h2,kZ (h.2.2 h2)]
 rw[kl h2,kl (fun x=>h2 (h.2.1 x))]
theorem DB(q a:Rat):(q-a).num.sign=lL q a:=by
 have d:=CV (q-a);rw[d];unfold lL;have c:(q-a<0) ↔ q<a:=by constructor<;>intro h<;>grind
 have b:(q-a=0) ↔ q=a:=by constructor<;>intro h<;>grind
 by_cases h4:q<a
 ·rw[kZ h4,kZ (c.2 h4)]
 rw[kl h4,kl (fun h=>h4 (c.1 h))];by_cases h5:q=a
 ·rw[kZ h5,kZ (b.2 h5)]
 rw[kl h5,kl (fun h=>h5 (b.1 h))]
theorem ru(w:World)(b A n c D m e q k)(h:QZ w b A n c D m e q k)(s:Int)(f:q.num.sign=s)(d:0<k)(a:k<=40000000):Calls Tryz.prog 174 #[.agg #[.bool b,.slice A n c,.slice D m e]] w (av w (.int .i64 s)):=by subst f;exact yr w b A n c D m e q k h d a
theorem lU(w:World)(b A n c D m e q k)(h:QZ w b A n c D m e q k)(b' A' n' c' D' m' e' q' k')(g:QZ w b' A' n' c' D' m' e' q' k')(s:Int)(j:lL q q'=s)(i:0<k)(f:k<=40000000)(d:0<k')(a:k'<=40000000):Calls Tryz.prog 155 #[.agg #[.bool b,.slice A n c,.slice D m e],.agg #[.bool b',.slice A' n' c',.slice D' m' e']] w (av w (.int .i64 s)):=by
 subst j;rw[<-BM];exact Du w b A n c D m e q k h b' A' n' c' D' m' e' q' k' g i f d a
theorem uk(w:World)(b A n c D m e q k)(h:QZ w b A n c D m e q k)(b' A' n' c' D' m' e' q' k')(g:QZ w b' A' n' c' D' m' e' q' k')(s:Int)(j:lL q q'=s)(i:0<k)(f:k<=10000000)(d:0<k')(a:k'<=10000000):Calls Tryz.prog 136 #[.agg #[.bool b,.slice A n c,.slice D m e],.agg #[.bool b',.slice A' n' c',.slice D' m' e']] w (av w (.int .i64 s)):=by
 subst j;rw[<-DB];exact Dw w b A n c D m e q k h b' A' n' c' D' m' e' q' k' g i f d a
theorem yY(w:World)(b A n c z k)(h:IZ w b A n c z k)(b' A' n' c' z' k')(i:IZ w b' A' n' c' z' k')(hd:z'=0)(t:k+k'<=300000000):
 Calls Tryz.prog 191 #[.agg #[.bool b,.slice A n c],.agg #[.bool b',.slice A' n' c']] w (fg w (.iface 49 (.int .i64 8)) 0 1):=by
 have q:=Qh (show z'.sign=0 by rw[hd];rfl);clear hd;go_in;go_wp2_with fail;refine(iO _ b' A' n' c' (z') (k') ?_ 0 ?_ ?_).mono ?_;(exact(i.belw ((((kz _ _).alloc Qr _).alloc (by simp) _).alloc (by simp<;>omega) _)));(exact q.out);(omega);rintro e o⟨rfl,a⟩;have q1:=a.q3;replace h:=h.belw q1;replace i:=i.belw q1;have s:Blk o w.heap.size 194 #[.bool b,.slice A n c]:=(((aj _ _ _ (by simp)).alloc _).alloc _).below a (by simp<;>omega);have p:=((aj _ _ _ (g:=w.heap.size+1) (by simp)).alloc _).below a (by simp<;>omega);have d:=(aj _ _ _ (g:=w.heap.size+1+1) (by simp)).below a (by simp);have f:=(aa w).trans (q1.mono (aa w).size);have r:=a.l3;clear q1;have l:=d.c3;have j:=d.f3;have m:=uZ d.lt;go_wp2_with fail;refine zr1 (.tuple #[.agg #[.bool false,.slice none 0 0,.slice none 0 0],.iface 49 (.int .i64 8)]) ?_;exact⟨_,_,_,_,_,_,_,rfl,QV.zero _ _,(((f.sc (w.heap.size+1+1) 0 (by omega) (.bool false)).sc (w.heap.size+1+1) 1 (by omega) (.slice none 0 0)).sc (w.heap.size+1+1) 2 (by omega) (.slice none 0 0))⟩

theorem vN{N k r:Nat}{s:List UInt8}(h:DgI N 0 k r s)(a:¬0<r):Lib.decDigits N=dg 0++s:=by
 have:r=0:=by omega
 subst this;exact h.done0
def dch(d:Nat):UInt8:=UInt8.ofNat (48+d)
theorem vO{d:Nat}(h:d<10):(⟨#[48,49,50,51,52,53,54,55,56,57]⟩:ByteArray).extract d (d+1)=⟨[dch d].toArray⟩:=by
 have:∀d:Fin 10,(⟨#[48,49,50,51,52,53,54,55,56,57]⟩:ByteArray).extract d (d+1)=⟨[UInt8.ofNat (48+d)].toArray⟩:=by decide
 exact this ⟨d,h⟩
theorem CK(w:World)(b:Bool)(A:Option Addr)(n c:Nat)(l:List Nat)(f:Bool)(d:Wd w A n c l)(g:n<=1000000000)(a:WD.s ⟨b,l⟩=f):
 Calls Tryz.prog 222 #[.agg #[.bool b,.slice A n c]] w (av w (.bool f)):=ip w b A n c l f d (by omega) a
def DC(M:Nat)(W0 wr:World)(m sv:Value):Prop:=∃A1 n1 c1 q s,m=.slice A1 n1 c1/\sv=ae s/\n1<=1000000000/\uX (Wd wr A1 n1 c1 (au q)/\Lib.decDigits M=dg q++s)/\Below W0.heap.size W0 wr
def ES(M q:Nat)(sv rv kv:Value):Prop:=∃k r s,sv=ae s/\rv=.int .u64 (r:Nat)/\kv=.int .i64 (k:Nat)/\k<=9/\r<1000000000/\uX (DgI M q k r s)
theorem yZ(w:World)(b:Bool)(A n c l)(wa:Wd w A n c l)(hn:n<=1000000000):
 Calls Tryz.prog 185 #[.agg #[.bool b,.slice A n c]] w (av w (ae (Lib.itoa (WD.z ⟨b,l⟩)))):=by
 have HL:=Qh wa.2.1;have a2:aX (WD.m ⟨b,l⟩):=WD.canon_m wa.1;obtain⟨M,hM⟩:∃M,WD.m ⟨b,l⟩=au M:=⟨_,(eY a2).symm⟩;have H:(WD.z ⟨b,l⟩).natAbs=M:=by rw[lD,hM,ai]
 obtain⟨T,hT⟩:∃T,T=Lib.itoa (WD.z ⟨b,l⟩):=⟨_,rfl⟩;rw[iR,H]at hT;rw[iR,H,<-hT];have W:=Qh hT;have HM:=Qh hM;have HA:=Qh H;clear hT hM H a2;have b0:Below w.heap.size w (w.alloc (.cells #[.bool b,.slice A n c] 194)):=(kz _ _).alloc Qr _;have x0:Blk (w.alloc (.cells #[.bool b,.slice A n c] 194)) w.heap.size 194 #[.bool b,.slice A n c]:=aj _ _ _ rfl;by_cases P:M=0
 ·subst P
  have hz:(WD.z ⟨b,l⟩)<0->False:=by have:=HA.out;omega
  have be:T=[48]:=by rw[W.out,kl (fun h=>hz h)];exact Lib.decDigits_one (by omega)
  subst be;go_in;go_wp2_with (go_at_call 215;refine(cU _ b A n c l ?_ ?_).mono ?_;(exact wa.belw b0);(omega);rintro e w1⟨A1,n1,c1,rfl,f,C⟩;rw[HM.out,ax]at f;obtain rfl:n1=0:=f.2.1);go_ret;exact⟨rfl,b0.trans (C.mono b0.size)⟩
 have a1:0<M:=Nat.pos_of_ne_zero P;have U:=Qh a1;clear P a1;go_in;go_wp2_with (go_at_call 215;refine(cU _ b A n c l ?_ ?_).mono ?_;(exact wa.belw b0);(omega);rintro e w1⟨A1,n1,c1,rfl,f,C⟩;have ac:n1<=1000000000:=f.m_len (by rw[<-HL.out];exact hn);rw[HM.out]at f;have e1:((n1:Int)==0)=false:=(by have h9:n1≠0:=(fun e=>by have h8:=f.2.1;rw[e]at h8;exact absurd (aV.1 (lq h8.symm)) (by have:=U.out;omega));simp;exact h9));clear e1;go_loopw [3,4] (fun mv sv wr=>DC M w1 wr mv sv) (fun mv _ wr=>valOf wr mv)
 case atStart=>exact⟨A1,n1,c1,M,[],rfl,rfl,ac,⟨f,by rw[Dl U.out];simp⟩,aa _⟩
 case round =>
  obtain⟨Y,br⟩:∃x,x=wr:=⟨_,rfl⟩;subst br;obtain⟨A3,u,c3,q,s,rfl,rfl,bk,I,rr⟩:=hrel;have ao:valOf Y (.slice A3 u c3)=q:=by rw[I.1.valOf,ai]
  have b6:Lib.nDigits M<=10*1000000000:=gf ac (by omega) (by have:=f.vlt Qr;rw[ai]at this;exact this);have bF:=yu I.2;have x1:Blk w1 w.heap.size 194 #[.bool b,.slice A n c]:=x0.below C (by simp);have x2:=x1.below rr x1.lt;have bw:=((b0.trans (C.mono b0.size)).trans (rr.mono (by have:=C.size;have:=b0.size;omega)));by_cases G:q=0
  ·subst G
   have h0:u=0:=by have:=I.1.2.1;rw[ax]at this;exact this
   subst h0;have aZ:Lib.decDigits M=s:=by have:=I.2;rw[BA]at this;exact this
   have b4:=x2.c2;have HP:=Qh aZ;have a0:=Qh (show (WD.z ⟨b,l⟩)=sgn (WD.s ⟨b,l⟩) M by rw[WD.z_eq,HM.out,ai]);have bd:(⟨s.toArray⟩:ByteArray).size<=10000000000:=by show s.length<=_;omega
   clear aZ x1 x2;cases p:WD.s ⟨b,l⟩
   ·have HS:=Qh p
    have O:=Qh (show T=s by rw[W.out,HP.out,a0.out,p,kl (by simp[sgn])];rfl);clear p;go_wp2_with (go_at_call 222;refine(CK _ b A n c l false ?_ ?_ HS.out).mono ?_;(exact wa.belw bw);omega;rintro e w3⟨rfl,Q⟩);go_ret;exact⟨by rw[O.out];rfl,bw.trans (Q.mono bw.size)⟩
   have HS:=Qh p;have O:=Qh (show T=45::s by rw[W.out,HP.out,a0.out,p,kZ (by simp[sgn];have:=U.out;omega)];rfl);clear p;go_wp2_with (go_at_call 222;refine(CK _ b A n c l true ?_ ?_ HS.out).mono ?_;(exact wa.belw bw);omega;rintro e w3⟨rfl,Q⟩);go_ret;refine⟨?_,bw.trans (Q.mono bw.size)⟩;rw[O.out];exact mo (fun x=>Ending.returned (.string x)) (lG [45] s)
  have a9:0<q:=Nat.pos_of_ne_zero G;have al:u≠0:=fun e=>G (aV.1 (lq (by rw[<-I.1.2.1];exact e)))
  have ad:0<u:=by omega
  have X:=Qh I.1.2.1;have ba:=Qh a9;obtain⟨K,D⟩:=Z9 (au q);have bz:=Qh D;have a5:val K=q:=by rw[<-D,ai]
  have bn:=Qh a5;have S:=I.1;rw[D]at S X;clear G a9 al D a5 x1;go_wp2_with (at_make;refine aQ _ rfl _ _ rfl _ _ _ _ u rfl rfl (by omega) (by omega) (by omega) ?_);go_loopw [5,7] (fun rv iv wx=>∃(k r:Nat) (L:List Nat),k<=u/\iv=.int .i64 ((k:Int)-1)/\rv=.int .u64 (r:Nat)/\r<1000000000/\L.length=u/\xT K L 1000000000 k r/\Blk wx Y.heap.size 58 (cellsOf L)/\Below Y.heap.size Y wx) (fun _ iv _=>(intOf iv+1).toNat)
  case atStart=>exact⟨u,0,List.replicate u 0,Qr,rfl,rfl,by omega,by simp,⟨by intro x hx;rw[zD hx];omega,by omega,by rw[X.out];simp[val]⟩,Blk.new _ _ _,(kz _ _).alloc Qr _⟩
  case round =>
   obtain⟨k,r,L,hk,rfl,rfl,hr,a8,hI,hB,a⟩:=hrel;have HI:=Qh hI;have HB:=Qh hB;have y:=Qh a8;clear hI hB a8;by_cases aF:k=0
   ·subst aF
    have J:=HI.out.2.2;simp only[Gl]at J
    have v:val K/1000000000=val L:=by
     rw[J,Nat.mul_add_div (by omega),Nat.div_eq_of_lt HI.out.2.1,Nat.add_zero]
    have E:val K%1000000000=r:=by rw[J];rw[Nat.mul_add_mod];exact Nat.mod_eq_of_lt HI.out.2.1
    rw[bn.out]at v E;have F:=DgI.start I.2;rw[E,v]at F;obtain⟨q',R⟩:=Z9 (val L);rw[R]at F v;have HQ:=Qh (And.intro v E);have bl:=Qh R;have bv:=Qh F;clear v E J R F;go_wp2_with (go_at_call 221;refine(fh _ _ u u L ?_ ?_).mono ?_;(exact HB.out.wdN HI.out.1 y.out);omega;rintro e w4⟨A4,n4,c4,rfl,h4,bu⟩;rw[bl.out]at h4)
    have bo:n4<=1000000000:=by
     rw[h4.2.1];exact Nat.le_trans (ay (Nat.lt_of_le_of_lt (by rw[<-HQ.out.1];exact Nat.div_le_self _ _) (by have:=I.1.vlt Qr;rw[ai]at this;exact this))) bk
    have Z:=Qh h4;have aC:=Qh (show q'<q by rw[<-HQ.out.1];exact Nat.div_lt_self ba.out (by omega));have a6:Below Y.heap.size Y w4:=a.trans (bu.mono a.size);clear h4;go_loop [4,5,8] (fun sv rv kv=>ES M q' sv rv kv) (fun _ _ kv=>9-(intOf kv).toNat)
    case atStart=>exact⟨0,r,s,rfl,rfl,rfl,by omega,hr,bv.out⟩
    case round =>
     obtain⟨j,r1,s1,rfl,rfl,rfl,hj,bY,N⟩:=hrel;have b1:=N.len;have bd:(⟨s1.toArray⟩:ByteArray).size<=10000000000:=by show s1.length<=_;omega
     by_cases a7:j=9
     ·subst a7
      go_wp2;go_roundw
      case rel=>exact⟨A4,n4,c4,q',s1,rfl,rfl,bo,⟨Z.out,N.done9⟩,rr.trans (a6.mono rr.size)⟩
      case measure=>rw[Z.out.valOf,ao,ai];exact aC.out
     have ab:j<9:=by omega
     obtain⟨d,hd⟩:=Z9 (r1%10);obtain⟨B,i⟩:=Z9 (r1/10);have an:d<10:=by omega
     have e1:(r1:Int)%10=(d:Int):=by omega
     have e2:(r1:Int)/10=(B:Int):=by omega
     have e4:(⟨#[48,49,50,51,52,53,54,55,56,57]⟩:ByteArray).extract d (d+1)=⟨[dch d].toArray⟩:=vO an;have HD:=Qh (And.intro hd i);clear hd i a7;by_cases h0:0<r1
     ·have HG:=Qh (N.step ab (.inl h0))
      rw[HD.out.1,HD.out.2]at HG;clear N;go_wp2;go_round
      case rel=>exact⟨j+1,B,_,rfl,rfl,by go_num,by omega,by have:=HD.out.2;omega,HG.out⟩
      case measure=>simp[intOf];omega
     by_cases f:q'=0
     ·subst f
      have a3:n4=0:=by have:=Z.out.2.1;rw[ax]at this;exact this
      subst a3;go_wp2;go_roundw
      case rel=>exact⟨A4,0,c4,0,s1,rfl,rfl,by omega,⟨Z.out,vN N h0⟩,rr.trans (a6.mono rr.size)⟩
      case measure=>rw[Z.out.valOf,ao,ai];exact aC.out
     have bx:0<n4:=Nat.pos_of_ne_zero fun e=>f (aV.1 (lq (by rw[<-Z.out.2.1];exact e)))
     have HG:=Qh (N.step ab (.inr (Nat.pos_of_ne_zero f)));rw[HD.out.1,HD.out.2]at HG;clear N f;go_wp2;go_round
     case rel=>exact⟨j+1,B,_,rfl,rfl,by go_num,by omega,by have:=HD.out.2;omega,HG.out⟩
     case measure=>simp[intOf];omega
   obtain⟨g,o,rfl,b2,aS⟩:=(S.keep ((Kp.refl Y).below a)).at2 ad;have bb:=aS (k-1) (by omega);obtain⟨x,hx⟩:=Z9 (wd K (k-1));have bs:x<4294967296:=by rw[<-hx];exact S.lt _
   rw[hx]at bb;have HX:=Qh hx;have bg:=HB.out.cell (k-1);rw[aE (by rw[y.out];omega)]at bg;have b5:=HB.out.frozen (k-1);have b3:0<k:=by omega
   obtain⟨V,p⟩:∃s:Nat,s=r*4294967296+x:=⟨_,rfl⟩;have e1:bits .or .u64 ((r:Int)*4294967296) (x:Int)=(V:Int):=by rw[p];exact jn (by omega) bs
   have HS:=Qh p;have a4:V/1000000000<4294967296:=by rw[p];omega
   obtain⟨t,ht⟩:∃t:Nat,V/1000000000=t:=⟨_,rfl⟩;obtain⟨B,i⟩:=Z9 (V%1000000000);rw[ht]at a4;have e2:(V:Int)/1000000000=(t:Int):=by omega
   have e3:(V:Int)%1000000000=(B:Int):=by omega
   have b7:V<18446744073709551616:=by omega
   have aT:B<1000000000:=by omega
   have W:=Qh (And.intro ht i);clear hx aS aF p ht i;go_wp2;clear e1 e2 e3;go_roundw
   case rel =>
    refine⟨k-1,B,L.set (k-1) t,by omega,by go_num,by congr 1;have:=W.out.2;omega,aT,by rw[xv];exact y.out,⟨wds_set HI.out.1 _ a4,aT,?_⟩,?_,a.setCell Qr _⟩
    ·rw[iM K (by rw[<-X.out];omega),iM (L.set (k-1) t) (by rw[xv,y.out];omega),jY,show k-1+1=k by omega,HX.out,cq,kZ ⟨rfl,by rw[y.out];omega⟩,<-W.out.1,<-W.out.2,HS.out]
     exact mi HI.out.2.2
    exact HB.out.setW (k-1) _ _ (by omega)
   case measure=>simp[intOf];omega

theorem vP(w:World):Calls Tryz.prog 13 #[.nilIface] w (av w (.int .i64 0)):=by
 go_in;go_wp2;go_ret;exact⟨rfl,aa w⟩
theorem sW(x:Int)(w:World):(Instr.typeAssert (.iface 49 (.int .i64 x)) 26 49 true).run Tryz.prog w=.ok (.tuple #[.int .i64 x,.bool true]) w:=by
 simp[Instr.typeAssert,run_underlying Tryz.underlying49]
theorem vQ(w:World)(x:Int):Calls Tryz.prog 13 #[.iface 49 (.int .i64 x)] w (av w (.int .i64 x)):=by
 go_in;have a:=sW x;go_wp2;go_ret;exact⟨rfl,aa w⟩
theorem mH(w:World)(b A n c z k)(h:IZ w b A n c z k)(T:List UInt8)(g:k<=1000000000)(f:Tab w)(a:Lib.itoa z=T):Calls Tryz.prog 182 #[.agg #[.bool b,.slice A n c]] w (av w (ae T)):=by
 subst a;obtain⟨l,d,rfl,i⟩:=h;exact Dq w b A n c l d (by omega) f
theorem kf(w:World)(b A n c z k)(h:IZ w b A n c z k)(T:List UInt8)(f:k<=1000000000)(a:Lib.itoa z=T):Calls Tryz.prog 185 #[.agg #[.bool b,.slice A n c]] w (av w (ae T)):=by
 subst a;obtain⟨l,d,rfl,g⟩:=h;exact yZ w b A n c l d (by omega)
theorem ul(w:World)(b A n c z k)(h:IZ w b A n c z k)(b' A' n' c' z' k')(d:IZ w b' A' n' c' z' k')(v:Int)(f:dD z z'=v)(a:k+k'<=1000000000):Calls Tryz.prog 152 #[.agg #[.bool b,.slice A n c],.agg #[.bool b',.slice A' n' c']] w (av w (.int .i64 v)):=by
 subst f;exact yd w b A n c z k h b' A' n' c' z' k' d a
end Go.Proofs.YtfilnhompchciaaGreatDoor
namespace Bn
open Go.Lib
def CL(F B:List UInt8):Bool:=okZ (cX F)&&decide (0<=im (cX F))&&decide (B≠[])&&B.all aU
def ET(F B:List UInt8):Int:=im (cX F)*10^B.length+ap B
def FK(F B:List UInt8):Rat:=Rat.divInt (if dE F then -(ET F B) else ET F B) (10^B.length)
def CM(F B:List UInt8):Bool:=okZ F&&okZ B&&decide (0<im B)&&decide (im B≠1)&&decide (Nat.gcd (im F).natAbs (im B).natAbs=1)
inductive Fr (s:List UInt8) (x:Int) (q:Rat):Prop
  |big (h:65536<s.length) (hx:x=4) (hq:q=0)
  |dot (F B:List UInt8) (hl:s.length<=65536) (hs:s=F++46::B) (hF:46 ∉ F) (h64:s.length<=64) (h:CL F B=true) (hx:x=0) (hq:q=FK F B)
  |dotNo (F B:List UInt8) (hl:s.length<=65536) (hs:s=F++46::B) (hF:46 ∉ F) (h:64<s.length\/CL F B=false) (hx:x=2) (hq:q=0)
  |quo (F B:List UInt8) (hl:s.length<=65536) (hd:46 ∉ s) (hs:s=F++47::B) (hF:47 ∉ F) (h:CM F B=true) (hx:x=0) (hq:q=Rat.divInt (im F) (im B))
  |quoNo (F B:List UInt8) (hl:s.length<=65536) (hd:46 ∉ s) (hs:s=F++47::B) (hF:47 ∉ F) (h:CM F B=false) (hx:x=2) (hq:q=0)
  |whole (hl:s.length<=65536) (hd:46 ∉ s) (hs:47 ∉ s) (h:okZ s=true) (hx:x=0) (hq:q=((im s:Int):Rat))
  |wholeNo (hl:s.length<=65536) (hd:46 ∉ s) (hs:47 ∉ s) (h:okZ s=false) (hx:x=2) (hq:q=0)
end Bn

/- Walks: IntegerTexts. -/
namespace Go.Proofs.YtfilnhompchciaaGreatDoor
open Go Go.RowKit Bn
attribute [local go_sem ↓] Go.wp_at_zero Go.wp_at_succ
def cd(x:Int):Value:=if x=0 then .nilIface else .iface 49 (.int .i64 x)
theorem dn:cd 0=.nilIface:=kZ rfl
theorem um(w:World)(x:Int):Calls Tryz.prog 13 #[cd x] w (av w (.int .i64 x)):=by
 unfold cd;split
 ·rename_i h;subst h;exact vP w
 exact vQ w x
end Go.Proofs.YtfilnhompchciaaGreatDoor
