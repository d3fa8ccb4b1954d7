/- Part CQ5: lemmas and walks that the claim rests on. No claim is made here. -/
import Derived.Deep.RegionHeld3
import Derived.BigQuiet
import Derived.Test.YtndhgcfajlalhaaGreatDoorCQ4
set_option linter.unusedVariables false
set_option maxHeartbeats 8000000
set_option maxRecDepth 100000
/- Walks: the reader's small methods: fail, next, word, expect, sign, more, number. -/
namespace Go.Proofs.YtndhgcfajlalhaaGreatDoor
open Go Go.RowKit Bn
attribute [local go_sem ↓] Go.wp_at_zero Go.wp_at_succ
section
variable {w:World}{g t:Nat}{a0 a1 a2 a3 a4 a5:Value}
theorem Blk.s60 (h:Blk w g t #[a0,a1,a2,a3,a4,a5]) (u:Value):Blk (w.setCell ⟨g,0,none⟩ u) g t #[u,a1,a2,a3,a4,a5]:=h.set_ 0 u
theorem Blk.s61 (h:Blk w g t #[a0,a1,a2,a3,a4,a5]) (u:Value):Blk (w.setCell ⟨g,1,none⟩ u) g t #[a0,u,a2,a3,a4,a5]:=h.set_ 1 u
theorem Blk.s62 (h:Blk w g t #[a0,a1,a2,a3,a4,a5]) (u:Value):Blk (w.setCell ⟨g,2,none⟩ u) g t #[a0,a1,u,a3,a4,a5]:=h.set_ 2 u
theorem Blk.s63 (h:Blk w g t #[a0,a1,a2,a3,a4,a5]) (u:Value):Blk (w.setCell ⟨g,3,none⟩ u) g t #[a0,a1,a2,u,a4,a5]:=h.set_ 3 u
theorem Blk.s64 (h:Blk w g t #[a0,a1,a2,a3,a4,a5]) (u:Value):Blk (w.setCell ⟨g,4,none⟩ u) g t #[a0,a1,a2,a3,u,a5]:=h.set_ 4 u
theorem Blk.s65 (h:Blk w g t #[a0,a1,a2,a3,a4,a5]) (u:Value):Blk (w.setCell ⟨g,5,none⟩ u) g t #[a0,a1,a2,a3,a4,u]:=h.set_ 5 u
end
theorem ll {s b:PS}{k:Nat}{t:List UInt8}(h:s.next k=(some t,b)):b=s/\s.x=0/\∃ a r,s.toks=a::r/\a.kind=k/\a.text=t:=by
 unfold PS.next at h;split at h
 ·cases h
 rename_i d;split at h
 ·cases h
 rename_i a r e;split at h
 ·rename_i c
  injection h with h1 h2;injection h1 with h1;exact ⟨h2.symm,by simpa using d,a,r,e,c,h1⟩
 cases h
theorem fq (w:World) (gr:Nat) (c0 c1 c2 c3 c4:Value) (x e:Int) (hb:Blk w gr 118 #[c0,c1,c2,c3,c4,bo x]) (h:e≠0):Calls Tryz.prog 105 #[.pointer (some ⟨gr,0,none⟩),.iface 58 (.int .i64 e)] w (fun g d=>g=.returned (.tuple #[])/\Blk d gr 118 #[c0,c1,c2,c3,c4,bo (if x=0 then e else x)]/\w.grownBy d (some gr)):=by
 have f:=hb.lt;have i:=hb.frozen 5;have c:=eVp h;by_cases hx:x=0
 ·subst hx
  have a:=Qh hb;obtain ⟨_,_,_,_,_,b⟩:=hb.c6;rw [aO] at b;rw [if_pos rfl,c];clear hb c;go_in;go_wp2_with fail;go_end0;exact ⟨rfl,a.out.s65 _,eZ (rg_refl _ _) _ _⟩
 rw [if_neg hx];have a:=Qh hb;obtain ⟨_,_,_,_,_,b⟩:=hb.c6;rw [eVp hx] at b;clear hb c;go_in;go_wp2_with fail;go_end0;exact ⟨rfl,a.out,rg_refl _ _⟩
theorem pZ (B:Nat) (w:World) (gr:Nat) (c1 c2 c3 c4:Value) (s:PS) (h:RdP B w gr c1 c2 c3 c4 s) (k:Nat) (z:Int) (J:z=(k:Int)):Calls Tryz.prog 104 #[.pointer (some ⟨gr,0,none⟩),.int .i64 z] w (tD B w gr c1 c2 c3 c4 (.tuple #[aa ((s.next k).1.getD []),.bool (s.next k).1.isSome]) (s.next k).2):=by
 subst J;have G:=Qh h;obtain ⟨toks,L,x⟩:=s;obtain ⟨A,n,c,hb,p⟩:=h.blk;have m:=h.mx;have hB:=h.hB;have d:=h.len;have hw:=h.hw;have f:=h.txt;simp only at hb p d f;have E:=Qh hb;have C:=Qh p;have D:=Qh m;have q:=p.1;obtain ⟨N,_,_,_,_,F⟩:=hb.c6;clear hb p m h;by_cases hx:x=0
 ·subst hx
  rw [aO] at F
  cases toks with
  | nil =>
   have e:PS.next ⟨[],L,0⟩ k=(none,⟨[],L,18⟩):=rfl;rw [e];subst q;go_in;go_wp2_with fail;refine (fq _ gr (.slice A 0 c) c1 c2 c3 c4 0 18 E.out (by decide)).mono ?_;rintro e H ⟨rfl,a,b⟩;rw [if_pos rfl] at a;have j:=Qh a;clear a;go_wp2_with fail;refine bodyPost_ret (v:=.tuple #[aa [],.bool false]) (by simp [results,Tryz.results104,go_sem, *] <;> trivial) rfl ?_;exact ⟨rfl,⟨⟨A,0,c,j.out,C.out.rg hB b⟩,D.out.rg hB b,hB,d,f,hw⟩,b⟩
  | cons t r =>
   have I:0<n:=by rw [<- q];simp
   obtain ⟨g,o,e,M,d0,d1,d2,d3⟩:=C.out.head;subst e;have K:(0:Int)<(n:Int):=by omega
   by_cases l:t.kind=k
   ·have e:PS.next ⟨t::r,L,0⟩ k=(some t.text,⟨t::r,L,0⟩):=by unfold PS.next;rw [if_neg (by simp)];simp [l]
    rw [e];have y:((t.kind:Int)==(k:Int))=true:=by simp [l]
    have u:((n:Int)==0)=false:=beq_eq_false_iff_ne.2 (by omega);clear q l;go_in;go_wp2_with fail;refine bodyPost_ret (v:=.tuple #[aa t.text,.bool true]) (by simp [results,Tryz.results104,go_sem, *] <;> trivial) rfl ?_;exact ⟨rfl,G.out.alloc _,bE (rg_refl _ _) _⟩
   have e:PS.next ⟨t::r,L,0⟩ k=(none,⟨t::r,L,2⟩):=by unfold PS.next;rw [if_neg (by simp)];simp [l]
   rw [e];have y:((t.kind:Int)==(k:Int))=false:=beq_eq_false_iff_ne.2 (by omega);have u:((n:Int)==0)=false:=beq_eq_false_iff_ne.2 (by omega);clear q l;go_in;go_wp2_with fail;refine (fq _ gr (.slice (some ⟨g,o,none⟩) n c) c1 c2 c3 c4 0 2 (E.out.alloc _) (by decide)).mono ?_;rintro e H ⟨rfl,a,b⟩;rw [if_pos rfl] at a;have j:=Qh a;have i:=aH (bE (rg_refl gr w) _) b;clear a b;go_wp2_with fail;refine bodyPost_ret (v:=.tuple #[aa [],.bool false]) (by simp [results,Tryz.results104,go_sem, *] <;> trivial) rfl ?_;exact ⟨rfl,⟨⟨_,n,c,j.out,C.out.rg hB i⟩,D.out.rg hB i,hB,d,f,hw⟩,i⟩
 have e:PS.next ⟨toks,L,x⟩ k=(none,⟨toks,L,x⟩):=if_pos hx;rw [e];rw [eVp hx] at F;go_in;go_wp2_with fail;refine bodyPost_ret (v:=.tuple #[aa [],.bool false]) (by simp [results,Tryz.results104,go_sem, *] <;> trivial) rfl ?_;exact ⟨rfl,G.out,rg_refl _ _⟩
theorem RdP.drop {B:Nat}{w:World}{gr n c b d:Nat}{A f:Option Addr}{c1 c2 c3 c4:Value}{s:PS}{m:Tkn}{r:List Tkn}(h:RdP B w gr c1 c2 c3 c4 s) (e:s.toks=m::r)
 (hb:Blk w gr 118 #[.slice A n c,c1,c2,c3,c4,bo s.x]) (a:TkA B w A n c s.toks) (l:f=if c=1 then A else A.map (·.add 4)) (j:b=n-1) (k:d=c-1):RdP B (w.setCell ⟨gr,0,none⟩ (.slice f b d)) gr c1 c2 c3 c4 s.drop1:=by
 have i:=eZ (rg_refl gr w) 0 (.slice f b d);have g:s.drop1.toks=r:=by unfold PS.drop1;rw [e];rfl
 rw [e] at a;exact ⟨⟨f,b,d,hb.s60 _,by rw [g];exact (a.tail l j k).rg h.hB i⟩,h.mx.rg h.hB i,h.hB,by rw [g];have:=h.len;rw [e] at this;simp at this;omega,fun t a=>h.txt t (by rw [e];rw [g] at a;exact List.mem_cons_of_mem _ a),h.hw⟩
theorem dK (B:Nat) (w:World) (gr:Nat) (c1 c2 c3 c4:Value) (s:PS) (h:RdP B w gr c1 c2 c3 c4 s):Calls Tryz.prog 70 #[.pointer (some ⟨gr,0,none⟩)] w (tD B w gr c1 c2 c3 c4 (aa s.word.1) s.word.2):=by
 have x:=Qh h;obtain ⟨W,a⟩:∃ W,s.word=W:=⟨_,rfl⟩;rw [a];have k:=Qh a;clear h a;go_in;go_wp2_with fail;refine (pZ B _ gr c1 c2 c3 c4 s x.out 0 0 rfl).mono ?_;rintro e z ⟨rfl,b,d⟩;have a:=k.out;unfold PS.word at a;generalize g:s.next 0=q at b a;obtain ⟨o,l⟩:=q
 cases o with
 | none =>
  simp only [Option.getD_none,Option.isSome_none] at b a ⊢;subst a;have j:=Qh b;clear g b k;go_wp2;go_ret;exact ⟨rfl,j.out,d⟩
 | some t =>
  simp only [Option.getD_some,Option.isSome_some] at b a ⊢;subst a;obtain ⟨e,u,p,r,i,_,_⟩:=ll g;obtain ⟨A,n,c,hb,f⟩:=b.blk;have D:(1:Int)<=(n:Int):=by have:=f.1;rw [e,i] at this;simp at this;omega
  have C:=hb.frozen 0;obtain ⟨E,_,_,_,_,_⟩:=hb.c6;have j:=Qh b;have m:=Qh hb;have y:=Qh f;have v:=Qh (show l.toks=p::r by rw [e,i]);clear b hb f g e i u k;go_wp2_with fail
  all_goals
   go_ret;exact ⟨rfl,j.out.drop v.out m.out y.out (by simp [Addr.add, *]) rfl (by omega),eZ d _ _⟩
theorem oY (B:Nat) (w:World) (gr:Nat) (c1 c2 c3 c4:Value) (s:PS) (h:RdP B w gr c1 c2 c3 c4 s) (k:Nat) (z:Int) (E:z=(k:Int)) (text:List UInt8):Calls Tryz.prog 69 #[.pointer (some ⟨gr,0,none⟩),.int .i64 z,aa text] w (tD B w gr c1 c2 c3 c4 (.tuple #[]) (s.expect k text)):=by
 have P:=Qh h;have N:=Qh E;obtain ⟨W,a⟩:∃ W,s.expect k text=W:=⟨_,rfl⟩;rw [a];have C:=Qh a;clear h E a;go_in;go_wp2_with fail;refine (pZ B _ gr c1 c2 c3 c4 s P.out k z N.out).mono ?_;rintro e Q ⟨rfl,f,g⟩;have a:=C.out;unfold PS.expect at a;generalize u:s.next k=q at f a;obtain ⟨o,l⟩:=q
 cases o with
 | none =>
  simp only [Option.getD_none,Option.isSome_none] at f a ⊢;subst a;have d:=Qh f;clear u f C;go_wp2_with fail;go_end0;exact ⟨rfl,d.out,g⟩
 | some t =>
  simp only [Option.getD_some,Option.isSome_some] at f a ⊢;obtain ⟨e,F,K,r,v,_,_⟩:=ll u;have L:=aF t;have M:=aF text;obtain ⟨A,n,c,hb,m⟩:=f.blk;have S:(1:Int)<=(n:Int):=by have:=m.1;rw [e,v] at this;simp at this;omega
  have R:=hb.frozen 0;obtain ⟨T,_,_,_,_,I⟩:=hb.c6;have d:=Qh f;have D:=Qh hb;have H:=Qh m;have O:=Qh (show l.toks=K::r by rw [e,v]);have G:=Qh (show l.x=0 by rw [e];exact F);clear f hb m u e v F I C;by_cases b:t=text
  ·rw [if_pos b] at a
   subst a;subst b;have p:(t==t)=true:=by simp
   go_wp2_with fail
   all_goals
    go_end0;exact ⟨rfl,d.out.drop O.out D.out H.out (by simp [Addr.add, *]) rfl (by omega),eZ g _ _⟩
  rw [if_neg b] at a;have J:l.fail 2={ l with x:=2 }:=if_pos G.out;rw [J] at a;subst a;have p:(t==text)=false:=beq_eq_false_iff_ne.2 b;clear b;go_wp2_with fail;refine (fq _ gr (.slice A n c) c1 c2 c3 c4 l.x 2 D.out (by decide)).mono ?_;rintro e U ⟨rfl,j,i⟩;rw [if_pos G.out] at j;have y:=Qh j;clear j;go_wp2_with fail;go_end0;exact ⟨rfl,⟨⟨A,n,c,y.out,H.out.rg d.out.hB i⟩,d.out.mx.rg d.out.hB i,d.out.hB,d.out.len,d.out.txt,d.out.hw⟩,aH g i⟩
theorem eE (B:Nat) (w:World) (gr:Nat) (c1 c2 c3 c4:Value) (s:PS) (h:RdP B w gr c1 c2 c3 c4 s) (text:List UInt8):Calls Tryz.prog 71 #[.pointer (some ⟨gr,0,none⟩),aa text] w (tD B w gr c1 c2 c3 c4 (.tuple #[]) (s.expect 2 text)):=by
 have d:=Qh h;clear h;go_in;go_wp2_with fail;refine (oY B _ gr c1 c2 c3 c4 s d.out 2 2 rfl text).mono ?_;rintro e f ⟨rfl,b,a⟩;have c:=Qh b;clear b;go_wp2_with fail;go_end0;exact ⟨rfl,c.out,a⟩
theorem uF (B:Nat) (w:World) (gr:Nat) (c1 c2 c3 c4:Value) (s:PS) (h:RdP B w gr c1 c2 c3 c4 s) (v:Bool) (i:decide (s.x=0/\s.toks≠[])=v):Calls Tryz.prog 72 #[.pointer (some ⟨gr,0,none⟩)] w (tD B w gr c1 c2 c3 c4 (.bool v) s):=by
 have f:=Qh h;subst i;obtain ⟨A,n,c,hb,a⟩:=h.blk;have d:=a.1;obtain ⟨k,_,_,_,_,g⟩:=hb.c6;clear hb a h;by_cases hx:s.x=0
 ·rw [hx,aO] at g
  by_cases a:s.toks=[]
  ·have e:decide (s.x=0/\s.toks≠[])=false:=by simp [a]
   rw [e];have b:n=0:=by rw [<- d,a];rfl
   subst b;clear d;go_in;go_wp2;go_ret;exact ⟨rfl,f.out,rg_refl _ _⟩
  have e:decide (s.x=0/\s.toks≠[])=true:=by simp [a,hx]
  rw [e];have j:0<s.toks.length:=List.length_pos_iff.2 a;have b:(0<n)=True:=eq_true (by omega);clear d;go_in;go_wp2;go_ret;exact ⟨rfl,f.out,rg_refl _ _⟩
 have e:decide (s.x=0/\s.toks≠[])=false:=by simp [hx]
 rw [e];rw [eVp hx] at g;go_in;go_wp2;go_ret;exact ⟨rfl,f.out,rg_refl _ _⟩
def FP (B:Nat) (w:World) (gr:Nat) (c1 c2 c3 c4:Value) (q:Rat) (s:PS) (e:Ending) (w':World):Prop :=
  ∃ b A n c D m e',e=.returned (.agg #[.bool b,.slice A n c,.slice D m e'])/\QV w' b A n c D m e' q 130/\RdP B w' gr c1 c2 c3 c4 s/\w.grownBy w' (some gr)
theorem uG (w:World) (k:Nat):QV w false none 0 0 none 0 0 0 k:=by
 unfold QV;rw [ph];exact ⟨rfl,Wd.nil_ w,Wd.nil_ w,Nat.zero_le _,Nat.zero_le _⟩
theorem QD.alloc_ {w:World}{b:Bool}{A D:Option Addr}{n c m e k:Nat}{r:RD}(h:QD w b A n c D m e r k) (o:Obj):QD (w.alloc o) b A n c D m e r k:=h.belw ((Below.refl _ _).alloc Qr o)
theorem m7 {B:Nat}{w:World}{gr z n c a d:Nat}{A f:Option Addr}{c1 c2 c3 c4:Value}{s:PS}{F:Tkn}{r:List Tkn}(h:RdP B w gr c1 c2 c3 c4 s) (e:s.toks=F::r)
 (hb:Blk w gr 118 #[.slice A n c,c1,c2,c3,c4,bo s.x]) (v:TkA B w A n c s.toks) (D:f=if c=1 then A else A.map (·.add 4)) (I:a=n-1) (J:d=c-1)
 (G:gr<z) (Z:Blk w z 54 #[.bool false,.slice none 0 0,.slice none 0 0]) {b:Bool}{u p:Option Addr}{m d2 l t k:Nat}{q:RD}(y:QD w b u m d2 p l t q k) (i j g:Value) (o:Obj) :
 QD (((((w.setCell ⟨gr,0,none⟩ (.slice f a d)).setCell ⟨z,0,none⟩ i).setCell ⟨z,1,none⟩ j).setCell ⟨z,2,none⟩ g).alloc o) b u m d2 p l t q k /\
 RdP B (((((w.setCell ⟨gr,0,none⟩ (.slice f a d)).setCell ⟨z,0,none⟩ i).setCell ⟨z,1,none⟩ j).setCell ⟨z,2,none⟩ g).alloc o) gr c1 c2 c3 c4 s.drop1:=by
 have C:=h.drop e hb v D I J;have H:Tch TA w (w.setCell ⟨gr,0,none⟩ (.slice f a d)):=h.tch (eZ (rg_refl gr w) 0 _) rfl;have E:Blk (w.setCell ⟨gr,0,none⟩ (.slice f a d)) z 54 #[.bool false,.slice none 0 0,.slice none 0 0]:=Z.far (by show z≠gr;omega) _;exact ⟨((y.tch H).tch (ii E rfl 0 1 2 i j g)).alloc_ o,(C.bel1 (cq _ G 0 1 2 i j g)).alloc o⟩
theorem iY (B:Nat) (w:World) (gr:Nat) (c1 c2 c3 c4:Value) (s:PS) (h:RdP B w gr c1 c2 c3 c4 s):Calls Tryz.prog 147 #[.pointer (some ⟨gr,0,none⟩)] w (FP B w gr c1 c2 c3 c4 s.number.1 s.number.2):=by
 have HP:=Qh h;have b:=h.lt;obtain ⟨W,a⟩:∃ W,s.number=W:=⟨_,rfl⟩;rw [a];have T:=Qh a;clear h a;go_in;go_wp2_with fail;refine (pZ B _ gr c1 c2 c3 c4 s (HP.out.alloc _) 1 1 rfl).mono ?_;rintro e w1 ⟨rfl,i,j⟩;have g:Blk w1 w.heap.size 54 #[.bool false,.slice none 0 0,.slice none 0 0]:=bZ j (Blk.new _ _ _) (by omega);have O:w.grownBy w1 (some gr):=aH (bE (rg_refl gr w) _) j;clear j;have N:=g.lt;have a:=T.out;unfold PS.number at a;generalize Q:s.next 1=q at i a;obtain ⟨o,l⟩:=q
 cases o with
 | none =>
  simp only [Option.getD_none,Option.isSome_none] at i a ⊢;subst a;obtain ⟨y,u,m⟩:=g.c3;obtain ⟨p,G,H⟩:=g.f3;have z:=Qh i;have S:=Qh g;clear Q i g T;go_wp2_with fail;refine bodyPost_ret (v:=.agg #[.bool false,.slice none 0 0,.slice none 0 0]) (by simp [results,Tryz.results147,go_sem, *] <;> trivial) rfl ?_;exact ⟨_,_,_,_,_,_,_,rfl,uG _ _,((z.out.far b _).far b _).far b _,fd (fd (fd O Qr _) Qr _) Qr _⟩
 | some t =>
  simp only [Option.getD_some,Option.isSome_some] at i a ⊢;obtain ⟨e,hx,t0,r,et,_,_⟩:=ll Q;have U:=Qh (lW t);generalize valX t=x at U a;generalize valQ t=qv at U a;have V:=Qh (show l.toks=t0::r by rw [e,et]);have HX:=Qh (show l.x=0 by rw [e];exact hx);have z:=Qh i;have S:=Qh g;have f:=Qh a;clear i Q e et hx g a T;go_wp2_with fail;refine (li _ t x qv z.out.mx.out U.out).mono ?_;rintro e X ⟨b2,A2,n2,d2,D2,m2,M,rfl,Y,d⟩;have G2:=fZ O d;have P:=S.out.below d N;have F:=z.out.belw d;have an:=d.size;clear d O;have ao:=F.lt;have ab:=P.lt;have R2:=Qh F;have C:=Qh P;have E:=Qh Y;obtain ⟨A,n,c,hb,Z⟩:=F.blk;have hB:=F.hB;have R:=Qh hb;have I:=Qh Z;clear S z F P Y Z;by_cases hx0:x=0
  ·have a:=f.out
   rw [if_neg (by simp [hx0])] at a;subst a hx0;rw [aO];have hn:(1:Int)<=(n:Int):=by have:=I.out.1;rw [V.out] at this;simp at this;omega
   have f0:=hb.frozen 0;obtain ⟨a0,_,_,_,_,_⟩:=hb.c6;obtain ⟨y,u,m⟩:=C.out.c3;obtain ⟨p,G,H⟩:=C.out.f3;clear hb f;have al:¬ gr=X.heap.size:=by omega
   have ad:¬ w.heap.size=X.heap.size:=by omega
   have ac:¬ gr=w.heap.size:=by omega
   go_wp2_with fail
   all_goals
    refine bodyPost_ret (v:=.agg #[.bool b2,.slice A2 n2 d2,.slice D2 m2 M]) (by simp [results,Tryz.results147,go_sem, *] <;> trivial) rfl ?_;exact ⟨_,_,_,_,_,_,_,rfl,(m7 R2.out V.out R.out I.out (by simp [Addr.add, *]) rfl (by omega) b C.out E.out _ _ _ _).1,(m7 R2.out V.out R.out I.out (by simp [Addr.add, *]) rfl (by omega) b C.out E.out _ _ _ _).2,bE (fd (fd (fd (eZ G2 _ _) Qr _) Qr _) Qr _) _⟩
  have a:=f.out;rw [if_pos hx0] at a;subst a;rw [eVp hx0];clear hb f;go_wp2_with fail;refine (fq _ gr (.slice A n c) c1 c2 c3 c4 l.x x (R.out.alloc _) hx0).mono ?_;rintro e w3 ⟨rfl,k,D⟩;rw [if_pos HX.out] at k;have K:=aH (bE (rg_refl gr X) _) D;have J:=bZ K C.out (by omega);obtain ⟨y,u,m⟩:=J.c3;obtain ⟨p,G,H⟩:=J.f3;have L:=Qh k;have aC:=J.lt;clear k D J;go_wp2_with fail;refine bodyPost_ret (v:=.agg #[.bool false,.slice none 0 0,.slice none 0 0]) (by simp [results,Tryz.results147,go_sem, *] <;> trivial) rfl ?_;have M:l.fail x={ l with x:=x }:=if_pos HX.out;rw [M];have R3:RdP B w3 gr c1 c2 c3 c4 { l with x:=x }:=⟨⟨A,n,c,L.out,I.out.rg hB K⟩,R2.out.mx.rg hB K,hB,R2.out.len,R2.out.txt,R2.out.hw⟩;exact ⟨_,_,_,_,_,_,_,rfl,uG _ _,((R3.far b _).far b _).far b _,fd (fd (fd (aH G2 K) Qr _) Qr _) Qr _⟩
def E0 (B:Nat) (w:World) (gr:Nat) (c1 c2 c3 c4:Value) (b:BodyL) (s:PS) (e:Ending) (w':World):Prop :=
  ∃ A n c,e=.returned (.agg #[aa b.name,.slice A n c])/\nU 130 w' A n c b.pts/\NmL b.name/\RdP B w' gr c1 c2 c3 c4 s/\w.grownBy w' (some gr)
section
variable {w:World}{g t:Nat}{a0 a1 a2 a3 a4 a5 a6:Value}
theorem Blk.x7 (h:Blk w g t #[a0,a1,a2,a3,a4,a5,a6]) (a c b:Value):Blk (((w.setCell ⟨g,1,none⟩ a).setCell ⟨g,2,none⟩ c).setCell ⟨g,3,none⟩ b) g t #[a0,a,c,b,a4,a5,a6]:=((h.set_ 1 a).set_ 2 c).set_ 3 b
theorem Blk.y7 (h:Blk w g t #[a0,a1,a2,a3,a4,a5,a6]) (a c b:Value):Blk (((w.setCell ⟨g,4,none⟩ a).setCell ⟨g,5,none⟩ c).setCell ⟨g,6,none⟩ b) g t #[a0,a1,a2,a3,a,c,b]:=((h.set_ 4 a).set_ 5 c).set_ 6 b
theorem Blk.f7 (h:Blk w g t #[a0,a1,a2,a3,a4,a5,a6]):w.frozen? ⟨g,0,none⟩=false/\w.frozen? ⟨g,1,none⟩=false/\w.frozen? ⟨g,2,none⟩=false/\w.frozen? ⟨g,3,none⟩=false/\w.frozen? ⟨g,4,none⟩=false/\w.frozen? ⟨g,5,none⟩=false/\w.frozen? ⟨g,6,none⟩=false:=⟨h.frozen 0,h.frozen 1,h.frozen 2,h.frozen 3,h.frozen 4,h.frozen 5,h.frozen 6⟩
theorem Blk.s21 (h:Blk w g t #[a0,a1]) (u:Value):Blk (w.setCell ⟨g,1,none⟩ u) g t #[a0,u]:=h.set_ 1 u
end
theorem nU.of_row {w:World}{base n c:Nat}{A:Option Addr}{l:List MarkL}(h:aq 56 (MkC 130) 7 w base (.slice A n c) n l):nU 130 w A n c l:=h.slT fun _ _ _ _ b a=>b.at_ a
theorem OwJ.far {J:Value->Bool}{w:World}{base n size:Nat}{e:TypeId}{v:Value}{a:List Value}(h:OwJ J w base e size v n a) {p:Addr}(f:some p.block≠v.ownBlock) (u:Value):OwJ J (w.setCell p u) base e size v n a:=by
 refine ⟨h.1,?_⟩;rcases h.2 with d | ⟨g,cap,cur,rfl,b,i,c⟩
 ·exact .inl d
 exact .inr ⟨g,cap,cur,rfl,b,(Below.heap_setCell w p u g (fun e=>f (by simp [Value.ownBlock,e]))).trans i,c⟩
theorem zw {J:Value->Bool}{w:World}{base n size g t:Nat}{e:TypeId}{v:Value}{b:List Value}{cs:Array Value}(h:OwJ J w base e size v n b) (hb:Blk w g t cs) (c:t≠e):some g≠v.ownBlock:=by
 intro d;obtain ⟨_,cur,a,_⟩:=h.at_ d.symm;unfold Blk at hb;rw [a] at hb;injection hb with hb;injection hb with _ hb;exact c hb.symm
theorem TkA.first {B:Nat}{w:World}{A:Option Addr}{n c:Nat}{s:PS}(a:TkA B w A n c s.toks):(n=0/\s.signHead=false)\/(0<n/\∃ g o,∃ k:Nat,A=some ⟨g,o,none⟩/\w.cell? ⟨g,o,none⟩=some (.int .i64 (k:Nat))/\s.signHead=decide (k=2)):=by
 obtain ⟨toks,L,x⟩:=s
 cases toks with
 | nil=>exact .inl ⟨a.1.symm,rfl⟩
 | cons t r =>
  obtain ⟨g,o,e,_,d0,_⟩:=a.head;refine .inr ⟨by rw [<- a.1];simp,g,o,t.kind,e,d0,?_⟩;show (t.kind==2)=_;rfl
structure BdR (B:Nat) (w:World) (gr gb:Nat) (c1 c2 c3 c4:Value) (nm:List UInt8) (wr:World) (s:PS) (l:List MarkL) (pv:Value):Prop where
  rd:RdP B wr gr c1 c2 c3 c4 s
  rg:w.grownBy wr (some gr)
  out:Blk wr w.heap.size 51 #[aa [],.slice none 0 0]
  b:Blk wr gb 51 #[aa nm,pv]
  row:aq 56 (MkC 130) 7 wr gb pv l.length l
  lt:gr<w.heap.size/\w.heap.size<gb
section
variable {B:Nat}{w:World}{gr gb:Nat}{c1 c2 c3 c4:Value}{nm:List UInt8}{wr w3:World}{s s3:PS}{l:List MarkL}{pv:Value}
theorem BdR.call (h:BdR B w gr gb c1 c2 c3 c4 nm wr s l pv) (c:RdP B w3 gr c1 c2 c3 c4 s3) (a:wr.grownBy w3 (some gr)):BdR B w gr gb c1 c2 c3 c4 nm w3 s3 l pv :=
 ⟨c,aH h.rg a,bZ a h.out (by have:=h.lt;omega),bZ a h.b (by have:=h.lt;omega),h.row.rg (by have:=h.lt;omega) a (fun _ _ x=>x.tch (h.rd.tch a (T:=TA) rfl)),h.lt⟩
theorem BdR.fin {A:Option Addr}{n c:Nat}(h:BdR B w gr gb c1 c2 c3 c4 nm wr s l (.slice A n c)) (u v:Value):RdP B ((wr.setCell ⟨w.heap.size,0,none⟩ u).setCell ⟨w.heap.size,1,none⟩ v) gr c1 c2 c3 c4 s/\w.grownBy ((wr.setCell ⟨w.heap.size,0,none⟩ u).setCell ⟨w.heap.size,1,none⟩ v) (some gr)/\nU 130 ((wr.setCell ⟨w.heap.size,0,none⟩ u).setCell ⟨w.heap.size,1,none⟩ v) A n c l:=by
 obtain ⟨d,k⟩:=h.lt;refine ⟨(h.rd.far d _).far d _,fd (fd h.rg Qr _) Qr _,?_⟩
 have i:l.length=n:=by
  obtain ⟨q,m,e,_⟩:=h.row.form;injection e with _ e _;exact e.symm
 have b:=h.row;rw [i] at b
 have f:Tch TA wr ((wr.setCell ⟨w.heap.size,0,none⟩ u).setCell ⟨w.heap.size,1,none⟩ v) :=
  Tch.of_ne (by simp [World.setCell]) h.out rfl rfl fun p _ a=>by rw [Below.heap_setCell _ _ _ _ a,Below.heap_setCell _ _ _ _ a]
 exact nU.of_row (b.same (fun g cur o j=>by rw [Below.heap_setCell _ _ _ _ (by show g≠w.heap.size;omega),Below.heap_setCell _ _ _ _ (by show g≠w.heap.size;omega)];exact j) (fun _ _ x=>x.tch f))
theorem BdR.b5 {f:List Value}{d:World}(h:BdR B w gr gb c1 c2 c3 c4 nm wr s l pv) (c:OwJ noW wr gb 56 7 pv l.length f) (o:Obj) (a:(wr.alloc o).grownBy d pv.ownBlock):Blk d gb 51 #[aa nm,pv] :=
 (h.b.alloc o).grown a (zw c h.b (by decide))
theorem BdR.push {q:List Value}{n:World}{g:Value}{cs:List Value}{m:MarkL}{o:Obj}(h:BdR B w gr gb c1 c2 c3 c4 nm wr s l pv) (d:OwJ noW wr gb 56 7 pv l.length q) (r:co (MkC 130) 7 wr l q)
 (E:MkC 130 wr cs m) (u:cs.length=7) (f:OwJ noW n gb 56 7 g (l.length+1) (q++cs)) (a:(wr.alloc o).grownBy n pv.ownBlock):BdR B w gr gb c1 c2 c3 c4 nm (n.setCell ⟨gb,1,none⟩ g) s (l++[m]) g:=by
 obtain ⟨H,C⟩:=h.lt;have b5:=h.b5 d o a;have G:=h.b.lt;have v:Below gb wr n:=((Below.refl gb wr).alloc (by omega) o).grown a (by simp;omega) (fun k F=>(d.at_ F).1);have i:Below gb wr (n.setCell ⟨gb,1,none⟩ g):=v.setCell (p:=⟨gb,1,none⟩) Qr g;have j:OwJ noW (wr.alloc o) gb 56 7 pv l.length q:=d.belw ((Below.refl _ _).alloc Qr o);obtain ⟨A,c,t,_⟩:=h.row.form;have z:Tch TA wr (n.setCell ⟨gb,1,none⟩ g):=((Tch.below ((Below.refl _ _).alloc Qr o)).trans (Tch.grown (T:=TA) (fun _ D=>D) rfl j a)).trans (Tch.set b5 rfl (by rw [t];rfl) 1 g);have y:(l++[m]).length=l.length+1:=by simp
 refine ⟨h.rd.bel1 (i.mono (by omega)),dm h.rg (i.mono (by omega)),h.out.below i C,b5.s21 g,?_,h.lt⟩;rw [y];exact ⟨y,q++cs,f.far (zw f b5 (by decide)) g,(r.map_ fun _ _ x=>x.tch z).snoc (E.tch z) u⟩
end
theorem BU (B:Nat) (w:World) (gr:Nat) (c1 c2 c3 c4:Value) (s:PS) (h:RdP B w gr c1 c2 c3 c4 s):Calls Tryz.prog 106 #[.pointer (some ⟨gr,0,none⟩)] w (E0 B w gr c1 c2 c3 c4 s.body.1 s.body.2):=by
 obtain ⟨i0,bk,bw,b1,b0⟩:=info_parts uE;have HI:=Qh (And.intro bk (And.intro bw (And.intro b1 b0)));clear bk bw b1 b0;unfold PS.body;obtain ⟨R,hR⟩:∃ R,PS.marks (s.toks.length+1) (s.word.2.expect 2 [123]) []=R:=⟨_,rfl⟩;simp only [hR];have HR:=Qh hR;have HP:=Qh h;have ca:=h.lt;have HN:=Qh (gF h.txt);clear h hR;go_in;go_wp2_with fail;refine (dK B _ gr c1 c2 c3 c4 s (HP.out.alloc _)).mono ?_;rintro e w1 ⟨rfl,h1,a4⟩;have z1:Blk w1 w.heap.size 51 #[aa [],.slice none 0 0]:=bZ a4 (Blk.new _ _ _) (by omega);have G1:w.grownBy w1 (some gr):=aH (bE (rg_refl gr w) _) a4;have bu:=z1.lt;have b9:=h1.lt;have H1:=Qh h1;clear a4 h1;go_wp2_with fail;refine (eE B _ gr c1 c2 c3 c4 s.word.2 (H1.out.alloc _) [123]).mono ?_;rintro e w2 ⟨rfl,h2,al⟩;have z2:Blk w2 w.heap.size 51 #[aa [],.slice none 0 0]:=bZ al (z1.alloc _) (by omega);have b2:Blk w2 w1.heap.size 51 #[aa s.word.1,.slice none 0 0]:=bZ al (Blk.new _ _ _) (by omega);have G2:w.grownBy w2 (some gr):=aH (bE G1 _) al;clear z1 G1 H1 al;generalize w1.heap.size=gb at bu b9 b2 ⊢;have bY:=Qh b2;have bx:=Qh z2;have H2:=Qh h2;clear b2 z2 h2;go_wp2_with fail;go_loopw [] (fun wr=>∃ f d l pv,BdR B w gr gb c1 c2 c3 c4 s.word.1 wr d l pv/\(d.x=0->d.toks.length<f/\l.length+d.toks.length<=65536)/\Hid (PS.marks f d l=R)) (fun wr=>mOf gr wr)
 case atStart =>
  have p:=(aV s).trans (aY s.word.2 2 [123]);have h6:=HP.out.len;exact ⟨_,_,[],_,⟨H2.out,G2,bx.out,bY.out,aq.nil,ca,bu⟩,fun _=>⟨by have:=p.1;omega,by have:=p.1;simp;omega⟩,HR⟩
 case round =>
  clear HR H2 bx bY G2;obtain ⟨f,d,l,pv,ad,a7,HR⟩:=hrel;obtain ⟨A,n,c,hb,ht⟩:=ad.rd.blk;obtain ⟨a0,_,_,_,_,a5⟩:=hb.c6;obtain ⟨Ap,cp,rfl,c0⟩:=ad.row.form;have j:=Qh ad;clear hb ad;by_cases hx:d.x=0
  ·rw [hx,aO] at a5
   obtain ⟨c9,c8⟩:=a7 hx;have a8:0<f:=by omega
   rcases ht.first with ⟨bb,hs⟩ | ⟨bb,g,o,k,e,d0,hs⟩
   rotate_left
   ·subst e
    rw [show decide (k=2)=_ from rfl] at hs;have bk:(0:Int)<(n:Int):=by omega
    have c5:(0<n)=True:=eq_true bb;clear ht;by_cases hk:k=2
    ·have cv:((k:Int)==2)=true:=by simp [hk]
     have ab:=iT (l:=l) a8 hx (by rw [hs];simp [hk]);rw [HR.out] at ab;subst ab;clear hs a7;go_wp2_with fail;refine (eE B _ gr c1 c2 c3 c4 d j.out.rd [125]).mono ?_;rintro e w3 ⟨rfl,h3,q⟩;have P:=Qh (j.out.call h3 q);obtain ⟨b7,cr⟩:=P.out.out.c2;obtain ⟨cm,cz⟩:=P.out.out.f2;obtain ⟨bn,aC⟩:=P.out.b.c2;have b3:¬ gb=w.heap.size:=by omega
     clear h3 q;go_wp2_with fail;refine bodyPost_ret (v:=.agg #[aa s.word.1,.slice Ap l.length cp]) (by simp [results,Tryz.results106,go_sem, *] <;> trivial) rfl ?_;exact ⟨_,_,_,rfl,(P.out.fin _ _).2.2,HN.out,(P.out.fin _ _).1,(P.out.fin _ _).2.1⟩
    have cv:((k:Int)==2)=false:=beq_eq_false_iff_ne.2 (by omega);have Q:d.signHead=false:=by rw [hs];simp [hk]
    clear hs;have a3:=Qh Q;clear Q;go_wp2_with fail;refine (dK B _ gr c1 c2 c3 c4 d j.out.rd).mono ?_;rintro e w3 ⟨rfl,h3,q⟩;have aT:=Qh (gF j.out.rd.txt);have r:=h3.lt;have ac:=q.size;have H3:=Qh h3;clear h3 a0 a5;go_wp2_with fail;refine (iY B _ gr c1 c2 c3 c4 d.word.2 (H3.out.alloc _)).mono ?_;rintro e Z ⟨O,N,n4,I,F,G,L,rfl,q4,h4,M⟩;have p4:Blk Z w3.heap.size 56 #[aa d.word.1,.bool false,.slice none 0 0,.slice none 0 0,.bool false,.slice none 0 0,.slice none 0 0]:=bZ M (Blk.new _ _ _) (by omega);have g4:wr.grownBy Z (some gr):=aH (bE q _) M;have bz:=p4.lt;obtain ⟨_,ao,bd,bl,_⟩:=p4.f7;obtain ⟨_,aS,bf,an,_⟩:=p4.c7;have P4:=Qh p4;have H4:=Qh h4;have Q4:=Qh q4;clear p4 h4 q4 M q H3;go_wp2_with fail;refine (iY B _ gr c1 c2 c3 c4 d.word.2.number.2 (H4.out.bel1 (cq Z r 1 2 3 (.bool O) (.slice N n4 I) (.slice F G L)))).mono ?_;rintro e w5 ⟨b5,H,n5,K,C,E,J,rfl,q5,h5,u⟩;have S:=bZ u (P4.out.x7 (.bool O) (.slice N n4 I) (.slice F G L)) (by omega);have g5:wr.grownBy w5 (some gr):=aH (dm g4 (cq Z ac 1 2 3 (.bool O) (.slice N n4 I) (.slice F G L))) u;have W:=(Q4.out.tch (ii P4.out rfl 1 2 3 (.bool O) (.slice N n4 I) (.slice F G L))).tch ((H4.out.bel1 (cq Z r 1 2 3 (.bool O) (.slice N n4 I) (.slice F G L))).tch u (T:=TA) rfl);have bs:=S.lt;obtain ⟨_,_,_,_,fr4,a9,a1⟩:=S.f7;obtain ⟨_,_,_,_,a2,a6,bg⟩:=S.c7;have P5:=Qh S;have H5:=Qh h5;have U:=Qh W;have Q5:=Qh q5;clear S h5 q5 W u g4 P4 H4 Q4 ao bd bl aS bf an;go_wp2_with fail;refine (eE B _ gr c1 c2 c3 c4 d.word.2.number.2.number.2 (H5.out.bel1 (cq w5 r 4 5 6 (.bool b5) (.slice H n5 K) (.slice C E J))) [59]).mono ?_;rintro e V ⟨rfl,h6,t⟩;have p6:=bZ t (P5.out.y7 (.bool b5) (.slice H n5 K) (.slice C E J)) (by omega);have g6:wr.grownBy V (some gr):=aH (dm g5 (cq w5 ac 4 5 6 (.bool b5) (.slice H n5 K) (.slice C E J))) t;have t6:=(ii P5.out rfl 4 5 6 (.bool b5) (.slice H n5 K) (.slice C E J)).trans ((H5.out.bel1 (cq w5 r 4 5 6 (.bool b5) (.slice H n5 K) (.slice C E J))).tch t (T:=TA) rfl);have HM:=Qh (show MkC 130 V [aa d.word.1,.bool O,.slice N n4 I,.slice F G L,.bool b5,.slice H n5 K,.slice C E J] d.mark.1 from ⟨O,N,n4,I,F,G,L,b5,H,n5,K,C,E,J,rfl,U.out.tch t6,Q5.out.tch t6,aT.out⟩);have i:=Qh (show BdR B w gr gb c1 c2 c3 c4 s.word.1 V d.mark.2 l (.slice Ap l.length cp) from j.out.call h6 g6);obtain ⟨_,xs,z,y⟩:=i.out.row;have X:=Qh z;have HW:=Qh y;obtain ⟨bn,aC⟩:=i.out.b.c2;obtain ⟨cb,cc,b6,ck,ch,cs,b8⟩:=p6.c7;have cL:=i.out.b.lt;have br:=p6.lt;clear h6 t z y p6 t6 g5 g6 P5 H5 U Q5 fr4 a9 a1 a2 a6 bg;go_wp2_with (at_builtin;refine ce _ rfl noW _ _ _ rfl gb 56 i0 (.agg #[.string ⟨#[]⟩,.bool false,.slice none 0 0,.slice none 0 0,.bool false,.slice none 0 0,.slice none 0 0]) 7 128 Tryz.underlying49 HI.out.1 HI.out.2.1 HI.out.2.2.1 HI.out.2.2.2 rfl (by omega) rfl _ l.length xs rfl (X.out.belw ((Below.refl _ _).alloc Qr _)) ⟨V.heap.size,0,none⟩ 1 1 [_,_,_,_,_,_,_] rfl rfl (World.news_of_block (heap_alloc_new V _)) (by simp [Value.oneCell']) rfl (by omega) (by unfold maxLen;omega) (by omega) (by simp;omega) ?_;intro gx cap w7 m a cx;have cy:=(i.out.b5 X.out _ a).frozen 1;obtain ⟨cu,cn⟩:=(i.out.b5 X.out _ a).c2);have p:=ke d;have Y:=eY (l:=l) a8 hx a3.out;rw [HR.out] at Y;go_roundw
    case rel =>
     refine ⟨f-1,d.mark.2,l++[d.mark.1],_,i.out.push X.out HW.out HM.out rfl m a,fun D=>?_,Qh Y.symm⟩;have h9:=(p.2.2.1 D).2;rw [List.length_append,List.length_singleton];omega
    case measure =>
     rw [(i.out.push X.out HW.out HM.out rfl m a).rd.meas,j.out.rd.meas,if_pos hx];have h8:=p.1;by_cases D:d.mark.2.x=0
     ·have h9:=(p.2.2.1 D).2
      rw [if_pos D];omega
     rw [if_neg D];omega
   subst bb;have Q:d.signHead=false:=hs;clear hs ht;have a3:=Qh Q;clear Q;go_wp2_with fail;refine (dK B _ gr c1 c2 c3 c4 d j.out.rd).mono ?_;rintro e w3 ⟨rfl,h3,q⟩;have aT:=Qh (gF j.out.rd.txt);have r:=h3.lt;have ac:=q.size;have H3:=Qh h3;clear h3 a0 a5;go_wp2_with fail;refine (iY B _ gr c1 c2 c3 c4 d.word.2 (H3.out.alloc _)).mono ?_;rintro e Z ⟨O,N,n4,I,F,G,L,rfl,q4,h4,M⟩;have p4:Blk Z w3.heap.size 56 #[aa d.word.1,.bool false,.slice none 0 0,.slice none 0 0,.bool false,.slice none 0 0,.slice none 0 0]:=bZ M (Blk.new _ _ _) (by omega);have g4:wr.grownBy Z (some gr):=aH (bE q _) M;have bz:=p4.lt;obtain ⟨_,ao,bd,bl,_⟩:=p4.f7;obtain ⟨_,aS,bf,an,_⟩:=p4.c7;have P4:=Qh p4;have H4:=Qh h4;have Q4:=Qh q4;clear p4 h4 q4 M q H3;go_wp2_with fail;refine (iY B _ gr c1 c2 c3 c4 d.word.2.number.2 (H4.out.bel1 (cq Z r 1 2 3 (.bool O) (.slice N n4 I) (.slice F G L)))).mono ?_;rintro e w5 ⟨b5,H,n5,K,C,E,J,rfl,q5,h5,u⟩;have S:=bZ u (P4.out.x7 (.bool O) (.slice N n4 I) (.slice F G L)) (by omega);have g5:wr.grownBy w5 (some gr):=aH (dm g4 (cq Z ac 1 2 3 (.bool O) (.slice N n4 I) (.slice F G L))) u;have W:=(Q4.out.tch (ii P4.out rfl 1 2 3 (.bool O) (.slice N n4 I) (.slice F G L))).tch ((H4.out.bel1 (cq Z r 1 2 3 (.bool O) (.slice N n4 I) (.slice F G L))).tch u (T:=TA) rfl);have bs:=S.lt;obtain ⟨_,_,_,_,fr4,a9,a1⟩:=S.f7;obtain ⟨_,_,_,_,a2,a6,bg⟩:=S.c7;have P5:=Qh S;have H5:=Qh h5;have U:=Qh W;have Q5:=Qh q5;clear S h5 q5 W u g4 P4 H4 Q4 ao bd bl aS bf an;go_wp2_with fail;refine (eE B _ gr c1 c2 c3 c4 d.word.2.number.2.number.2 (H5.out.bel1 (cq w5 r 4 5 6 (.bool b5) (.slice H n5 K) (.slice C E J))) [59]).mono ?_;rintro e V ⟨rfl,h6,t⟩;have p6:=bZ t (P5.out.y7 (.bool b5) (.slice H n5 K) (.slice C E J)) (by omega);have g6:wr.grownBy V (some gr):=aH (dm g5 (cq w5 ac 4 5 6 (.bool b5) (.slice H n5 K) (.slice C E J))) t;have t6:=(ii P5.out rfl 4 5 6 (.bool b5) (.slice H n5 K) (.slice C E J)).trans ((H5.out.bel1 (cq w5 r 4 5 6 (.bool b5) (.slice H n5 K) (.slice C E J))).tch t (T:=TA) rfl);have HM:=Qh (show MkC 130 V [aa d.word.1,.bool O,.slice N n4 I,.slice F G L,.bool b5,.slice H n5 K,.slice C E J] d.mark.1 from ⟨O,N,n4,I,F,G,L,b5,H,n5,K,C,E,J,rfl,U.out.tch t6,Q5.out.tch t6,aT.out⟩);have i:=Qh (show BdR B w gr gb c1 c2 c3 c4 s.word.1 V d.mark.2 l (.slice Ap l.length cp) from j.out.call h6 g6);obtain ⟨_,xs,z,y⟩:=i.out.row;have X:=Qh z;have HW:=Qh y;obtain ⟨bn,aC⟩:=i.out.b.c2;obtain ⟨cb,cc,b6,ck,ch,cs,b8⟩:=p6.c7;have cL:=i.out.b.lt;have br:=p6.lt;clear h6 t z y p6 t6 g5 g6 P5 H5 U Q5 fr4 a9 a1 a2 a6 bg;go_wp2_with (at_builtin;refine ce _ rfl noW _ _ _ rfl gb 56 i0 (.agg #[.string ⟨#[]⟩,.bool false,.slice none 0 0,.slice none 0 0,.bool false,.slice none 0 0,.slice none 0 0]) 7 128 Tryz.underlying49 HI.out.1 HI.out.2.1 HI.out.2.2.1 HI.out.2.2.2 rfl (by omega) rfl _ l.length xs rfl (X.out.belw ((Below.refl _ _).alloc Qr _)) ⟨V.heap.size,0,none⟩ 1 1 [_,_,_,_,_,_,_] rfl rfl (World.news_of_block (heap_alloc_new V _)) (by simp [Value.oneCell']) rfl (by omega) (by unfold maxLen;omega) (by omega) (by simp;omega) ?_;intro gx cap w7 m a cx;have cy:=(i.out.b5 X.out _ a).frozen 1;obtain ⟨cu,cn⟩:=(i.out.b5 X.out _ a).c2);have p:=ke d;have Y:=eY (l:=l) a8 hx a3.out;rw [HR.out] at Y;go_roundw
   case rel =>
    refine ⟨f-1,d.mark.2,l++[d.mark.1],_,i.out.push X.out HW.out HM.out rfl m a,fun D=>?_,Qh Y.symm⟩;have h9:=(p.2.2.1 D).2;rw [List.length_append,List.length_singleton];omega
   case measure =>
    rw [(i.out.push X.out HW.out HM.out rfl m a).rd.meas,j.out.rd.meas,if_pos hx];have h8:=p.1;by_cases D:d.mark.2.x=0
    ·have h9:=(p.2.2.1 D).2
     rw [if_pos D];omega
    rw [if_neg D];omega
  rw [eVp hx] at a5;have D:=j.out.out;have bv:=j.out.b;obtain ⟨b7,cr⟩:=D.c2;obtain ⟨cm,cz⟩:=D.f2;obtain ⟨bn,aC⟩:=bv.c2;have b3:¬ gb=w.heap.size:=by omega
  have ab:=pV (f:=f) (l:=l) hx;rw [HR.out] at ab;subst ab;clear D bv a7 ht;go_wp2_with fail;refine bodyPost_ret (v:=.agg #[aa s.word.1,.slice Ap l.length cp]) (by simp [results,Tryz.results106,go_sem, *] <;> trivial) rfl ?_;exact ⟨_,_,_,rfl,(j.out.fin _ _).2.2,HN.out,(j.out.fin _ _).1,(j.out.fin _ _).2.1⟩
theorem uH {α:Type}{f:α->List UInt8}{l:List α}{nm:List UInt8}{i:Nat}{b:α}(h:∀ a∈l.take i,f a≠nm) (hb:l[i]?=some b) (e:f b=nm):l.findIdx? (fun x=>f x==nm)=some i:=by
 rw [List.findIdx?_eq_some_iff_getElem];obtain ⟨d,hb⟩:=List.getElem?_eq_some_iff.1 hb;refine ⟨d,by rw [hb];simp [e],fun j g=>?_⟩
 have c:l[j]'(by omega)∈l.take i:=by
  rw [List.mem_take_iff_getElem];exact ⟨j,by omega,rfl⟩
 simpa using h _ c
theorem rY {α:Type}{f:α->List UInt8}{l:List α}{nm:List UInt8}(h:∀ a∈l,f a≠nm):l.findIdx? (fun x=>f x==nm)=none:=by
 rw [List.findIdx?_eq_none_iff];intro x b;simpa using h x b
theorem oZ {α:Type}{p:α->Prop}{l:List α}{i:Nat}{b:α}(h:∀ a∈l.take i,p a) (hb:l[i]?=some b) (d:p b):∀ a∈l.take (i+1),p a:=by
 intro a c;rw [List.take_add_one,hb] at c;simp at c;rcases c with c | rfl
 ·exact h a c
 exact d
section
variable {w w':World}{gr base n c:Nat}{A:Option Addr}{cs:Array Value}
theorem aq.rgt {α:Type}{T0:TypeId}{Pc:World->List Value->α->Prop}{sz:Nat}{v:Value}{l:List α}(h:aq T0 Pc sz w base v n l) (hb:Blk w gr 118 cs) (c:T0≠118) (k:w.grownBy w' (some gr)) (d:∀ cs a,Pc w cs a->Pc w' cs a):aq T0 Pc sz w' base v n l :=
 h.same (fun g cur _ b=>uC k b (fun e=>by
  subst e;unfold Blk at hb;rw [hb] at b;injection b with b;injection b with _ b
  exact c b.symm)) d
theorem aq.bds {k:Nat}{l:List BodyL}(h:aq 51 (BdC k) 2 w base (.slice A n c) n l):SlS (dV k) 2 w A n c l:=(h.slT (P:=dV k) fun _ _ _ _ b a=>b.at_ a).sl fun _ _ _ p=>p
theorem aq.jts {l:List aD}(h:aq 81 JtC 7 w base (.slice A n c) n l):SlS ic 7 w A n c l:=(h.slT (P:=ic) fun _ _ _ _ b a=>b.at_ a).sl fun _ _ _ p=>p
theorem aq.drs {l:List aE}(h:aq 86 DrC 2 w base (.slice A n c) n l):SlS ig 2 w A n c l:=(h.slT (P:=ig) fun _ _ _ _ b a=>b.at_ a).sl fun _ _ _ p=>p
end
theorem RdP.bodies {B:Nat}{w a:World}{gr n c:Nat}{A:Option Addr}{c1 c2 c3 c4:Value}{s:PS}{l:List BodyL}(h:RdP B w gr c1 c2 c3 c4 s) (b:aq 51 (BdC 130) 2 w B (.slice A n c) n l) (k:w.grownBy a (some gr)):aq 51 (BdC 130) 2 a B (.slice A n c) n l:=by
 obtain ⟨_,_,_,hb,_⟩:=h.blk;exact b.rgt hb (by decide) k fun _ _ x=>x.tch (T:=fun t=>t==118) (h.tch k rfl) (by decide)
theorem rZ (B:Nat) (w:World) (gr:Nat) (c1 c3 c4:Value) (A:Option Addr) (n c:Nat) (s:PS) (h:RdP B w gr c1 (.slice A n c) c3 c4 s) (hr:aq 51 (BdC 130) 2 w B (.slice A n c) n s.L.bodies) (hn:n<=100000) (only:Int):Calls Tryz.prog 108 #[.pointer (some ⟨gr,0,none⟩),.int .i64 only] w (tD B w gr c1 (.slice A n c) c3 c4 (.int .i64 (s.named only).1) (s.named only).2):=by
 have HP:=Qh h;have HR:=Qh hr;obtain ⟨W,j⟩:∃ W,s.named only=W:=⟨_,rfl⟩;rw [j];have Q:=Qh j;clear h hr j;go_in;go_wp2_with fail;refine (dK B _ gr c1 (.slice A n c) c3 c4 s HP.out).mono ?_;rintro e w1 ⟨rfl,R,v⟩;have HB:=Qh (HP.out.bodies HR.out v);have N:=(aV s).2.2.2;have j:=Q.out;unfold PS.named at j;simp only at j;rw [N] at j;generalize s.word.2=s' at R j;generalize s.word.1=nm at j ⊢;have V:=Qh R;obtain ⟨D,m,d,hb,_⟩:=R.blk;obtain ⟨_,_,a2,_,_,U⟩:=hb.c6;have aC:=hb.lt;clear hb R Q HP HR N;by_cases z:s'.x=0
 ·rw [if_neg (by simp [z])] at j
  rw [z,aO] at U;have S:=Qh z;have Q:=Qh j;clear z j;go_wp2_with fail;clear a2 U;go_loopw [21] (fun Y wr=>∃ i:Nat,Y=.int .i64 (i:Nat)/\i<=n/\Hid (∀ a∈s.L.bodies.take i,a.name≠nm)/\Below w1.heap.size w1 wr) (fun Y _=>n-(intOf Y).toNat)
  case atStart=>exact ⟨0,rfl,Nat.zero_le _,Qh (by simp),ae w1⟩
  case round =>
   obtain ⟨i,rfl,hi,K,hb⟩:=hrel;rename World=>wr;rcases Nat.lt_or_ge i n with ad | aS
   ·have ac:((i:Int)<(n:Int))=True:=by simp;omega
    obtain ⟨g,o,b,e,hg,_,I,hB⟩:=(HB.out.bds.bd hb).at_ ad;subst e;obtain ⟨A',n',c',d0,d1,hM,Z⟩:=hB;clear hM Z;have al:=aF b.name;have ao:=aF nm;have y:=Qh I;clear I;by_cases q:b.name=nm
    ·have O:js s.L.bodies nm=some i:=uH (f:=BodyL.name) K.out y.out q
     have j:=Q.out;rw [O] at j;simp only at j;rw [q] at d0 al;have T:(nm==nm)=true:=by simp
     have G:=V.out.belw hb;have P:=fZ v hb;have k:=Qh G;clear y q O G;by_cases ho:0<=only
     ·have X:(0<=only)=True:=eq_true ho
      by_cases r:(i:Int)=only
      ·rw [if_neg (by simp [r])] at j
       subst j;have H:((i:Int)==only)=true:=by simp [r]
       clear r;go_wp2;go_ret;exact ⟨rfl,k.out.alloc _,bE P _⟩
      rw [if_pos ⟨ho,r⟩,show s'.fail 7={ s' with x:=7 } from if_pos S.out] at j;subst j;have H:((i:Int)==only)=false:=beq_eq_false_iff_ne.2 r;clear r;obtain ⟨J,M,d2,u,t⟩:=k.out.blk;have E:=Qh (u.alloc (.cells #[aa nm,.slice A' n' c'] 51));have C:=Qh t;clear u t;go_wp2_with fail;refine (fq _ gr (.slice J M d2) c1 (.slice (some ⟨g,o,none⟩) n c) c3 c4 s'.x 7 E.out (by decide)).mono ?_;rintro e w2 ⟨rfl,l,an⟩;have F:=aH (bE (rg_refl gr wr) _) an;rw [if_pos S.out] at l;have R2:RdP B w2 gr c1 (.slice (some ⟨g,o,none⟩) n c) c3 c4 { s' with x:=7 }:=⟨⟨J,M,d2,l,C.out.rg k.out.hB F⟩,k.out.mx.rg k.out.hB F,k.out.hB,k.out.len,k.out.txt,k.out.hw⟩;clear l;go_wp2;go_ret;exact ⟨rfl,R2,aH P F⟩
     have X:(0<=only)=False:=eq_false ho;rw [if_neg (by omega)] at j;subst j;go_wp2;go_ret;exact ⟨rfl,k.out.alloc _,bE P _⟩
    have T:(b.name==nm)=false:=beq_eq_false_iff_ne.2 q;have ab:=Qh (oZ (p:=fun a:BodyL=>a.name≠nm) K.out y.out q);clear q K y;go_wp2_with fail;go_roundw
    case rel=>exact ⟨i+1,by go_num,by omega,ab,hb.alloc hb.size _⟩
    case measure=>simp [intOf];omega
   have ac:((i:Int)<(n:Int))=False:=by simp;omega
   obtain rfl:i=n:=by omega
   have hl:s.L.bodies.length=i:=HB.out.1;have O:js s.L.bodies nm=none:=rY (f:=BodyL.name) fun a ha=>K.out a (by rw [List.take_of_length_le (by omega)];exact ha)
   have j:=Q.out;rw [O] at j;simp only at j;have e2:s'.fail 5={ s' with x:=5 }:=if_pos S.out;rw [e2] at j;subst j;have G:=V.out.belw hb;have P:=fZ v hb;have k:=Qh G;obtain ⟨J,M,d2,u,t⟩:=G.blk;have E:=Qh u;have C:=Qh t;clear u t G O hl K;go_wp2_with fail;refine (fq _ gr (.slice J M d2) c1 (.slice A i c) c3 c4 s'.x 5 E.out (by decide)).mono ?_;rintro e w2 ⟨rfl,l,F⟩;rw [if_pos S.out] at l;have R2:RdP B w2 gr c1 (.slice A i c) c3 c4 { s' with x:=5 }:=⟨⟨J,M,d2,l,C.out.rg k.out.hB F⟩,k.out.mx.rg k.out.hB F,k.out.hB,k.out.len,k.out.txt,k.out.hw⟩;clear l;go_wp2;go_ret;exact ⟨rfl,R2,aH P F⟩
 rw [if_pos (by simpa using z)] at j;subst j;rw [eVp z] at U;clear z;go_wp2;go_ret;exact ⟨rfl,V.out,v⟩
theorem RdP.body_at {k n c i:Nat}{w:World}{A:Option Addr}{l:List BodyL}(h:SlS (dV k) 2 w A n c l) (p:i<n):∃ g o b f a d,A=some ⟨g,o,none⟩/\l[i]?=some b/\w.cell? ⟨g,o+i*2+1,none⟩=some (.slice f a d)/\SlS (cT k) 7 w f a d b.pts:=by
 obtain ⟨g,o,b,e,q,_,j,f,a,d,d0,d1,m,_⟩:=h.at_ p;exact ⟨g,o,b,f,a,d,e,j,d1,m⟩
theorem kh (B:Nat) (w:World) (gr:Nat) (c1 c3 c4:Value) (A:Option Addr) (n c:Nat) (s:PS) (h:RdP B w gr c1 (.slice A n c) c3 c4 s) (hr:aq 51 (BdC 130) 2 w B (.slice A n c) n s.L.bodies) (hn:n<=100000) (O:∀ b∈s.L.bodies,b.pts.length<=100000) (only:Int):Calls Tryz.prog 107 #[.pointer (some ⟨gr,0,none⟩),.int .i64 only] w (tD B w gr c1 (.slice A n c) c3 c4 (.tuple #[.int .i64 (s.full only).1,.int .i64 (s.full only).2.1]) (s.full only).2.2):=by
 have HP:=Qh h;have HR:=Qh hr;have ac:=Qh O;obtain ⟨W,j⟩:∃ W,s.full only=W:=⟨_,rfl⟩;rw [j];have N:=Qh j;clear h hr j O;go_in;go_wp2_with fail;refine (rZ B _ gr c1 c3 c4 A n c s HP.out HR.out hn only).mono ?_;rintro e w1 ⟨rfl,h1,H⟩;have H1:=Qh h1;clear h1;go_wp2_with fail;refine (eE B _ gr c1 (.slice A n c) c3 c4 (s.named only).2 H1.out [46]).mono ?_;rintro e w2 ⟨rfl,h2,R⟩;have H2:=Qh h2;clear h2;go_wp2_with fail;refine (dK B _ gr c1 (.slice A n c) c3 c4 ((s.named only).2.expect 2 [46]) H2.out).mono ?_;rintro e w3 ⟨rfl,S,G⟩;have T:=aH (aH H R) G;have HB:=Qh (HP.out.bodies HR.out T);have y:=(aY (s.named only).2 2 [46]).trans (aV ((s.named only).2.expect 2 [46]));have I:=((iU s only).trans y).2.2.2;have E:=zr s only;have j:=N.out;unfold PS.full at j;simp only at j;rw [I] at j;have C:((s.named only).2.expect 2 [46]).word.2.x=0->(s.named only).2.x=0:=fun l=>(y.2.2.1 l).1
 clear y I N H1 H2 H R G HP HR;generalize ((s.named only).2.expect 2 [46]).word.2=s' at S j C;generalize ((s.named only).2.expect 2 [46]).word.1=nm at j ⊢;generalize (s.named only).1=b at j E ⊢;have H3:=Qh S;obtain ⟨D,m,d,hb,_⟩:=S.blk;obtain ⟨_,_,a2,_,_,a5⟩:=hb.c6;have aT:=hb.lt;clear hb S;by_cases l:s'.x=0
 ·rw [if_neg (by simp [l])] at j
  rw [l,aO] at a5;obtain ⟨M,eb,a3⟩:=E (C l);subst eb;have HX:=Qh l;have hl:s.L.bodies.length=n:=HB.out.1;obtain ⟨g,o,bd,A',u,c',e,t,d1,hM⟩:=RdP.body_at HB.out.bds (show M<n by omega);subst e
  have hp:ci s.L (M:Int)=bd.pts:=by
   unfold ci;rw [Int.toNat_natCast,t]
  rw [hp] at j;have a0:((M:Int)<(n:Int))=True:=by simp;omega
  have aC:(0:Int)<=(M:Int):=by omega
  have a1:u<=100000:=by rw [<- hM.1];exact ac.out bd (List.mem_of_getElem? t)
  have N:=Qh j;have HM:=Qh hM;clear l j hp t hM C E hl;go_wp2_with fail;clear a2 a5 d1;go_loopw [32] (fun V wr=>∃ i:Nat,V=.int .i64 (i:Nat)/\i<=u/\Hid (∀ a∈bd.pts.take i,a.name≠nm)/\Below w3.heap.size w3 wr) (fun V _=>u-(intOf V).toNat)
  case atStart=>exact ⟨0,rfl,Nat.zero_le _,Qh (by simp),ae w3⟩
  case round =>
   obtain ⟨i,rfl,hi,Q,hb⟩:=hrel;rename World=>wr;rcases Nat.lt_or_ge i u with Y | a4
   ·have Z:((i:Int)<(u:Int))=True:=by simp;omega
    obtain ⟨U,o2,p,e,hg,_,P,hP⟩:=(HM.out.mk_ hb).at_ Y;subst e;obtain ⟨d0,⟨bx,Ax,nx,cx,Dx,mx,ex,d1,d2,d3,_⟩,⟨aS,Ay,ny,cy,Dy,my,ey,d4,d5,d6,_⟩,_⟩:=hP;have an:=aF p.name;have ao:=aF nm;have r:=Qh P;clear P;by_cases k:p.name=nm
    ·have K:mV bd.pts nm=some i:=uH (f:=MarkL.name) Q.out r.out k
     have j:=N.out;rw [K] at j;simp only at j;subst j;rw [k] at d0 an;have ad:(nm==nm)=true:=by simp
     have g1:=fZ T hb;have q:=Qh (H3.out.belw hb);clear r k K;go_wp2_with fail;refine bodyPost_ret (v:=.tuple #[.int .i64 (M:Nat),.int .i64 (i:Nat)]) (by simp [results,Tryz.results107,go_sem, *] <;> trivial) rfl ?_;exact ⟨rfl,q.out.alloc _,bE g1 _⟩
    have ad:(p.name==nm)=false:=beq_eq_false_iff_ne.2 k;have X:=Qh (oZ (p:=fun a:MarkL=>a.name≠nm) Q.out r.out k);clear k Q r;go_wp2_with fail;go_roundw
    case rel=>exact ⟨i+1,by go_num,by omega,X,hb.alloc hb.size _⟩
    case measure=>simp [intOf];omega
   have Z:((i:Int)<(u:Int))=False:=by simp;omega
   obtain rfl:i=u:=by omega
   have hl:bd.pts.length=i:=HM.out.1;have K:mV bd.pts nm=none:=rY (f:=MarkL.name) fun a ha=>Q.out a (by rw [List.take_of_length_le (by omega)];exact ha)
   have j:=N.out;rw [K] at j;simp only at j;have e2:s'.fail 5={ s' with x:=5 }:=if_pos HX.out;rw [e2] at j;subst j;have r1:=H3.out.belw hb;have g1:=fZ T hb;have q:=Qh r1;obtain ⟨D2,m2,d2,J,F⟩:=r1.blk;have ab:=Qh J;have al:=Qh F;clear J F r1 K hl Q;go_wp2_with fail;refine (fq _ gr (.slice D2 m2 d2) c1 (.slice (some ⟨g,o,none⟩) n c) c3 c4 s'.x 5 ab.out (by decide)).mono ?_;rintro e w5 ⟨rfl,z,U⟩;rw [if_pos HX.out] at z;have R2:RdP B w5 gr c1 (.slice (some ⟨g,o,none⟩) n c) c3 c4 { s' with x:=5 }:=⟨⟨D2,m2,d2,z,al.out.rg q.out.hB U⟩,q.out.mx.rg q.out.hB U,q.out.hB,q.out.len,q.out.txt,q.out.hw⟩;clear z;go_wp2_with fail;refine bodyPost_ret (v:=.tuple #[.int .i64 0,.int .i64 0]) (by simp [results,Tryz.results107,go_sem, *] <;> trivial) rfl ?_;exact ⟨rfl,R2,aH g1 U⟩
 rw [if_pos (by simpa using l)] at j;subst j;rw [eVp l] at a5;clear l;go_wp2_with fail;refine bodyPost_ret (v:=.tuple #[.int .i64 0,.int .i64 0]) (by simp [results,Tryz.results107,go_sem, *] <;> trivial) rfl ?_;exact ⟨rfl,H3.out,T⟩
def FQ (ops:Array Oper) (fr:(Nat->Value)->Act) (R:Nat->Value->Prop) (T:Nat->(Nat->Value)->World->Prop) (st:Nat->Option Nat) (K:Nat) (L:Array Bool) (a:Act) (w:World):Prop :=
  ∃ x k,a=fr x/\k<=K/\T k x w/\(∀ i j,st i=some j->(L.getD i false=true ↔ j<k))/\(∀ i,L.getD i false=true->R i (x i)) /\
  (∀ i o,ops[i]?=some o->L.getD i false=true->∀ e∈o.after,Region.binds .any e=true->L.getD e.on false=true)
section
variable (P:Program) (ops:Array Oper) (Q:Exit->Act->World->Prop) (fr:(Nat->Value)->Act) (R:Nat->Value->Prop) (T:Nat->(Nat->Value)->World->Prop)
def sd (i:Nat) (o:Oper):Prop :=
  ∀ k x wq,T k x wq->(∀ e∈o.after,Region.binds .any e=true->R e.on (x e.on))->∀ K':Act->World->Prop,Shut (∀ v,R i v->K' ((fr x).put o.dst v) wq) ->
      if Region.wanted o (yielded ops (fr x).tmps)=true then Oper.wp P o (fr x) wq K' Q else K' ((fr x).put o.dst undef) wq
def o0 (k:Nat) (i:Nat) (o:Oper):Prop :=
  ∀ x wq,T k x wq->(∀ e∈o.after,Region.binds .any e=true->R e.on (x e.on))->∀ K':Act->World->Prop,Shut (∀ v w',R i v->T (k+1) (upd x i v) w'->K' ((fr x).put o.dst v) w') ->
      if Region.wanted o (yielded ops (fr x).tmps)=true then Oper.wp P o (fr x) wq K' Q else K' ((fr x).put o.dst undef) wq
end
section
variable {P:Program}{ops:Array Oper}{Q:Exit->Act->World->Prop}{fr:(Nat->Value)->Act}{R:Nat->Value->Prop}{T:Nat->(Nat->Value)->World->Prop}{st:Nat->Option Nat}{K:Nat}{id:Nat}{w:World}{x0:Nat->Value}
theorem lG {n:Nat}(hm:P.follows .mixedOrders=true) (hn:ops.size=n+1)
 (G:∀ i o,ops[i]?=some o->i<n->∀ x v,(fr x).put o.dst v=fr (upd x i v))
 (aC:∀ i o,ops[i]?=some o->∀ e∈o.after,Region.binds .any e=true->e.on<i)
 (t:∀ j,j<n->∃ k o,j<k/\k<=n/\ops[k]?=some o/\∃ e∈o.after,Region.binds .any e=true/\e.on=j)
 (ac:∀ i j,st i=some j->i<n/\j<K)
 (ab:∀ i g j,st i=some j->st g=some j->i=g)
 (ad:∀ j,j<K->∃ i,st i=some j)
 (u:∀ i o j,ops[i]?=some o->st i=some (j+1)->∃ e∈o.after,Region.binds .any e=true/\st e.on=some j)
 (hT:∀ k x i v w,st i=none->T k x w->T k (upd x i v) w)
 (h0:T 0 x0 w.drew)
 (U:∀ i o,ops[i]?=some o->i<n->st i=none->sd P ops Q fr R T i o)
 (y:∀ i o k,ops[i]?=some o->st i=some k->o0 P ops Q fr R T k i o)
 (N:∀ o,ops[n]?=some o->∀ x wq,T K x wq->(∀ j,j<n->R j (x j))->∀ V:Act->World->Prop,Shut (∀ a' J,Q .normal a' J->V a' J) ->
  if Region.wanted o (yielded ops (fr x).tmps)=true then Oper.wp P o (fr x) wq V Q else V ((fr x).put o.dst undef) wq) :
 (Code.region id ops true).wp P Q (fr x0) w:=by
 refine wp_region_any hm (fO (fun L a J=>(L.getD n false=false/\FQ ops fr R T st K L a J)\/((∀ i,i<ops.size->L.getD i false=true)/\Q .normal a J)) ?_ ?_ _ _ _ _ (by simp) ?_ ?_)
 ·rintro L a w1 i hs hi I
  obtain ⟨A,o,s,b⟩:=mem_ready.1 hi
  have f:i<L.size:=by
   rcases Nat.lt_or_ge i L.size with h | h
   ·exact h
   rw [Array.getD_eq_getD_getElem?,Array.getElem?_eq_none h] at A;cases A
  have E:L.getD i false=false:=by
   rw [Array.getD_eq_getD_getElem?,Array.getElem?_eq_getElem f] at A ⊢;exact A
  rcases I with ⟨S,x,k,rfl,X,q,p,hr,B⟩ | ⟨O,_⟩
  ·have F:∀ e∈o.after,Region.binds .any e=true->R e.on (x e.on):=fun e D d=>hr _ (b e D d)
   refine wpOp_step s fun V hK=>?_
   rcases Nat.lt_or_ge i n with z | z
   ·have C:(L.setIfInBounds i true).getD n false=false:=by
     rw [av f,S];simp;omega
    have W:∀ v,R i v->∀ j,(L.setIfInBounds i true).getD j false=true->R j (upd x i v j):=by
     intro v hv j c;by_cases h:j=i
     ·subst h;rw [dR];exact hv
     rw [bD _ _ h];rw [av f] at c;exact hr j (by simpa [h] using c)
    cases hsi:st i with
    | none =>
     refine U i o s z hsi k x w1 q F V (fun v M=>hK _ _ (Or.inl ⟨C,upd x i v,k,G i o s z x v,X,hT _ _ _ _ _ hsi q,fun g j c=>?_,W v M,fS f s b B⟩));have al:g≠i:=by rintro rfl;rw [hsi] at c;cases c
     rw [av f,<- p g j c];simp [al]
    | some j0 =>
     have hk:k=j0:=by
      have h1:¬ j0<k:=fun h=>by
       have:=(p i j0 hsi).2 h;rw [E] at this;cases this
      cases j0 with
      | zero=>omega
      | succ j =>
       obtain ⟨e,D,d,aT⟩:=u i o j s hsi;have:=(p e.on j aT).1 (b e D d);omega
     subst hk;refine y i o k s hsi x w1 q F V (fun v J M a0=>hK _ _ (Or.inl ⟨C,upd x i v,k+1,G i o s z x v,(ac i k hsi).2,a0,fun g j c=>?_,W v M,fS f s b B⟩));rw [av f];by_cases h:g=i
     ·subst h
      rw [hsi] at c;injection c with c;subst c;simp
     have aS:j≠k:=fun e=>h (ab _ _ _ c (by rw [e];exact hsi))
     rw [show (decide (g=i)||L.getD g false)=L.getD g false by simp [h],p g j c];omega
   have e:i=n:=by omega
   subst e
   have l:∀ m j,j<i->i-j<=m->L.getD j false=true:=by
    intro m
    induction m with
    | zero=>intro j c hm;omega
    | succ m ih =>
     intro j c hm;obtain ⟨k,o',aS,hk,r,e,D,d,Y⟩:=t j c;rcases Nat.lt_or_ge k i with h | h
     ·rw [<- Y];exact B k o' r (ih k h (by omega)) e D d
     have e2:k=i:=by omega
     subst e2;rw [s] at r;injection r with r;subst r;rw [<- Y];exact b e D d
   have an:k=K:=by
    rcases Nat.lt_or_ge k K with h | h
    ·obtain ⟨g,Z⟩:=ad k h
     have:=(p g k Z).1 (l (i-g) g (ac g k Z).1 Qr);omega
    omega
   subst an;refine N o s x w1 q (fun j c=>hr j (l (i-j) j c Qr)) V (fun a' J hq=>hK _ _ (Or.inr ⟨fun j c=>?_,hq⟩));rw [av f];by_cases h:j=i
   ·simp [h]
   rw [l (i-j) j (by omega) Qr];simp
  have:=O i (by omega);rw [E] at this;cases this
 ·rintro L a w1 hs ao (⟨S,x,k,rfl,X,q,p,hr,B⟩ | ⟨_,hq⟩)
  ·have H:∀ i,i<ops.size->L.getD i false=true:=by
    intro i
    induction i using Nat.strongRecOn with
    | ind i ih =>
     intro hi;cases h:L.getD i false
     ·exfalso
      have:i∈Region.ready .any ops L:=by
       refine mem_ready.2 ⟨?_,ops[i],Array.getElem?_eq_getElem hi,fun e D d=>?_⟩
       ·rw [Array.getD_eq_getD_getElem?,Array.getElem?_eq_getElem (by omega)] at h ⊢;exact h
       have h1:=aC i _ (Array.getElem?_eq_getElem hi) e D d;exact ih e.on h1 (by omega)
      rw [ao] at this;cases this
     rfl
   have:=H n (by omega);rw [S] at this;cases this
  exact hq
 ·simp
 ·have hz:∀ j,(Array.replicate ops.size false).getD j false=false:=by
   intro j;rw [Array.getD_eq_getD_getElem?,Array.getElem?_replicate];split <;> rfl
  refine Or.inl ⟨hz n,x0,0,rfl,Nat.zero_le _,h0,fun i j c=>?_,fun i h=>?_,fun i o _ h=>?_⟩
  ·rw [hz];simp
  ·rw [hz] at h;cases h
  rw [hz] at h;cases h
end
def stg (a K i:Nat):Option Nat:=if a<=i/\i<a+K then some (i-a) else none
theorem il {a K i j:Nat}(h:stg a K i=some j):i=a+j/\j<K:=by
 unfold stg at h;split at h
 ·injection h with h;omega
 cases h
theorem zx {a K j:Nat}(h:j<K):stg a K (a+j)=some j:=by
 unfold stg;rw [if_pos (by omega)];congr 1;omega
theorem se {a K i:Nat}(h:stg a K i=none):i<a\/a+K<=i:=by
 unfold stg at h;split at h
 ·cases h
 omega
section
variable {P:Program}{ops:Array Oper}{Q:Exit->Act->World->Prop}{fr:(Nat->Value)->Act}{R:Nat->Value->Prop}{T:Nat->(Nat->Value)->World->Prop}{K a:Nat}{id:Nat}{w:World}{x0:Nat->Value}
theorem dL {n:Nat}(C:P.follows .mixedOrders=true) (B:ops.size=n+1)
 (p:∀ i o,ops[i]?=some o->i<n->∀ x v,(fr x).put o.dst v=fr (upd x i v))
 (q:∀ i o,ops[i]?=some o->∀ e∈o.after,Region.binds .any e=true->e.on<i)
 (b:∀ j,j<n->∃ k o,j<k/\k<=n/\ops[k]?=some o/\∃ e∈o.after,Region.binds .any e=true/\e.on=j)
 (u:a+K<=n)
 (c:∀ j o,j+1<K->ops[a+(j+1)]?=some o->∃ e∈o.after,Region.binds .any e=true/\e.on=a+j)
 (y:∀ k x i v w,i<a\/a+K<=i->T k x w->T k (upd x i v) w)
 (s:T 0 x0 w.drew)
 (g:∀ i o,ops[i]?=some o->i<n->i<a\/a+K<=i->sd P ops Q fr R T i o)
 (d:∀ k o,k<K->ops[a+k]?=some o->o0 P ops Q fr R T k (a+k) o)
 (f:∀ o,ops[n]?=some o->∀ x wq,T K x wq->(∀ j,j<n->R j (x j))->∀ K':Act->World->Prop,Shut (∀ a' w',Q .normal a' w'->K' a' w') ->
  if Region.wanted o (yielded ops (fr x).tmps)=true then Oper.wp P o (fr x) wq K' Q else K' ((fr x).put o.dst undef) wq) :
 (Code.region id ops true).wp P Q (fr x0) w :=
 lG (R:=R) (T:=T) (st:=stg a K) (K:=K) C B p q b
  (fun i j h=>by obtain ⟨z,l⟩:=il h;omega)
  (fun i E j h t=>by obtain ⟨z,_⟩:=il h;obtain ⟨l,_⟩:=il t;omega)
  (fun j h=>⟨a+j,zx h⟩)
  (fun i o j m h=>by
   obtain ⟨rfl,l⟩:=il h;obtain ⟨e,D,hb,r⟩:=c j o l m
   exact ⟨e,D,hb,by rw [r];exact zx (by omega)⟩)
  (fun k x i v w h=>y k x i v w (se h)) s
  (fun i o m A h=>g i o m A (se h))
  (fun i o k m h=>by obtain ⟨rfl,l⟩:=il h;exact d k o l m) f
end
def stl (sl:List Nat) (i:Nat):Option Nat:=sl.findIdx? (· == i)
theorem io {sl:List Nat}{i j:Nat}(h:stl sl i=some j):sl[j]?=some i:=by
 unfold stl at h;rw [List.findIdx?_eq_some_iff_getElem] at h;obtain ⟨b,a,_⟩:=h;rw [List.getElem?_eq_getElem b];rw [beq_iff_eq] at a;rw [a]
theorem zy {sl:List Nat}{i:Nat}(h:stl sl i=none):i ∉ sl:=by
 unfold stl at h;rw [List.findIdx?_eq_none_iff] at h;intro a;have:=h i a;simp at this
theorem ip {sl:List Nat}{i j:Nat}(h:sl[j]?=some i):j<sl.length:=(List.getElem?_eq_some_iff.1 h).1
section
variable {P:Program}{ops:Array Oper}{Q:Exit->Act->World->Prop}{fr:(Nat->Value)->Act}{R:Nat->Value->Prop}{T:Nat->(Nat->Value)->World->Prop}{id:Nat}{w:World}{x0:Nat->Value}
end
def VE (u:Value):Value->Prop:=fun v=>v=u
def VA:Value->Prop:=fun _=>True
structure RdL (B:Nat) (w:World) (gr:Nat) (s:PS) (A:Option Addr) (n c:Nat) (A':Option Addr) (n' c':Nat) (A'':Option Addr) (n'' c'':Nat):Prop where
  rd:RdP B w gr (aa s.L.name) (.slice A n c) (.slice A' n' c') (.slice A'' n'' c'') s
  bd:aq 51 (BdC 130) 2 w B (.slice A n c) n s.L.bodies
  jt:aq 81 JtC 7 w B (.slice A' n' c') n' s.L.joints
  dr:aq 86 DrC 2 w B (.slice A'' n'' c'') n'' s.L.drivers
  nm:NmL s.L.name
  cnt:n+n'+n''+s.toks.length<=70000
  pts:∀ b∈s.L.bodies,b.pts.length<=70000
def E3 (B:Nat) (w:World) (gr:Nat) (s:PS) (e:Ending) (w':World):Prop:=e=.returned (.tuple #[])/\(∃ A n c A' n' c' A'' n'' c'',RdL B w' gr s A n c A' n' c' A'' n'' c'')/\Below B w w'
section
variable {B:Nat}{w w':World}{gr:Nat}{c1 c2 c3 c4:Value}{s:PS}
theorem RdP.other {T:TypeId->Bool}(h:RdP B w gr c1 c2 c3 c4 s) (b:Tch T w w') (d:T 118=false) (hb:Below B w w'):RdP B w' gr c1 c2 c3 c4 s:=by
 obtain ⟨A,n,c,f,a⟩:=h.blk;exact ⟨⟨A,n,c,b.2 gr _ _ _ f (.inl d),a.belB hb⟩,h.mx.belB hb,h.hB,h.len,h.txt,h.hw⟩
theorem RdP.put2 (h:RdP B w gr c1 c2 c3 c4 s) (v:Value) (f:noW v=true) {b:PS}(a:b.toks=s.toks) (i:b.x=s.x):RdP B (w.setCell ⟨gr,2,none⟩ v) gr c1 v c3 c4 b:=by
 obtain ⟨A,n,c,g,d⟩:=h.blk;have hb:Below B w (w.setCell ⟨gr,2,none⟩ v):=(Below.refl B w).setCell (p:=⟨gr,2,none⟩) h.hB v;exact ⟨⟨A,n,c,by rw [i];exact g.s62 v,by rw [a];exact d.belB hb⟩,h.mx.belB hb,h.hB,by rw [a];exact h.len,by rw [a];exact h.txt,h.hw.1,f,h.hw.2.2⟩
theorem RdP.put3 (h:RdP B w gr c1 c2 c3 c4 s) (v:Value) (f:noW v=true) {b:PS}(a:b.toks=s.toks) (i:b.x=s.x):RdP B (w.setCell ⟨gr,3,none⟩ v) gr c1 c2 v c4 b:=by
 obtain ⟨A,n,c,g,d⟩:=h.blk;have hb:Below B w (w.setCell ⟨gr,3,none⟩ v):=(Below.refl B w).setCell (p:=⟨gr,3,none⟩) h.hB v;exact ⟨⟨A,n,c,by rw [i];exact g.s63 v,by rw [a];exact d.belB hb⟩,h.mx.belB hb,h.hB,by rw [a];exact h.len,by rw [a];exact h.txt,h.hw.1,h.hw.2.1,f,h.hw.2.2.2⟩
theorem RdP.put4 (h:RdP B w gr c1 c2 c3 c4 s) (v:Value) (f:noW v=true) {b:PS}(a:b.toks=s.toks) (i:b.x=s.x):RdP B (w.setCell ⟨gr,4,none⟩ v) gr c1 c2 c3 v b:=by
 obtain ⟨A,n,c,g,d⟩:=h.blk;have hb:Below B w (w.setCell ⟨gr,4,none⟩ v):=(Below.refl B w).setCell (p:=⟨gr,4,none⟩) h.hB v;exact ⟨⟨A,n,c,by rw [i];exact g.s64 v,by rw [a];exact d.belB hb⟩,h.mx.belB hb,h.hB,by rw [a];exact h.len,by rw [a];exact h.txt,h.hw.1,h.hw.2.1,h.hw.2.2.1,f⟩
theorem RdP.put1 (h:RdP B w gr c1 c2 c3 c4 s) (v:Value) (f:noW v=true) {b:PS}(a:b.toks=s.toks) (i:b.x=s.x):RdP B (w.setCell ⟨gr,1,none⟩ v) gr v c2 c3 c4 b:=by
 obtain ⟨A,n,c,g,d⟩:=h.blk;have hb:Below B w (w.setCell ⟨gr,1,none⟩ v):=(Below.refl B w).setCell (p:=⟨gr,1,none⟩) h.hB v;exact ⟨⟨A,n,c,by rw [i];exact g.s61 v,by rw [a];exact d.belB hb⟩,h.mx.belB hb,h.hB,by rw [a];exact h.len,by rw [a];exact h.txt,f,h.hw.2⟩
theorem RdP.drew (h:RdP B w gr c1 c2 c3 c4 s):RdP B w.drew gr c1 c2 c3 c4 s:=⟨h.blk,h.mx,h.hB,h.len,h.txt,h.hw⟩
theorem RdP.cells (h:RdP B w gr c1 c2 c3 c4 s):w.cell? ⟨gr,1,none⟩=some c1/\w.cell? ⟨gr,2,none⟩=some c2/\w.cell? ⟨gr,3,none⟩=some c3/\w.cell? ⟨gr,4,none⟩=some c4/\w.frozen? ⟨gr,1,none⟩=false/\w.frozen? ⟨gr,2,none⟩=false/\w.frozen? ⟨gr,3,none⟩=false/\w.frozen? ⟨gr,4,none⟩=false:=by
 obtain ⟨A,n,c,hb,_⟩:=h.blk;obtain ⟨_,b,d,f,a,_⟩:=hb.c6;exact ⟨b,d,f,a,hb.frozen 1,hb.frozen 2,hb.frozen 3,hb.frozen 4⟩
def bi (t:TypeId):TypeId->Bool:=fun u=>u==t
theorem RdP.tchR (h:RdP B w gr c1 c2 c3 c4 s) (k:w.grownBy w' (some gr)):Tch (bi 118) w w':=h.tch k (by simp [bi])
end
theorem km {α:Type}{T0:TypeId}{Pc:World->List Value->α->Prop}{sz B n:Nat}{w g:World}{v q:Value}{l:List α}{h cs:List Value}{a:α}{o:Obj}(s:l.length=n) (c:OwJ noW w B T0 sz v n h) (j:co Pc sz w l h)
 (u:Pc w cs a) (p:cs.length=sz) (f:OwJ noW g B T0 sz q (n+1) (h++cs)) (b:(w.alloc o).grownBy g v.ownBlock) (hB:B<=w.heap.size) (i:∀ w' cs a,Tch (bi T0) w w'->Pc w cs a->Pc w' cs a) :
 aq T0 Pc sz g B q (n+1) (l++[a])/\Tch (bi T0) w g/\Below B w g:=by
 have d:OwJ noW (w.alloc o) B T0 sz v n h:=c.belw ((Below.refl _ _).alloc Qr o);have m:Tch (bi T0) w g:=(Tch.below ((Below.refl _ _).alloc Qr o)).trans (Tch.grown (fun _ t=>t) (by simp [bi]) d b);exact ⟨⟨by simp [s],h++cs,f,(j.map_ fun cs a x=>i _ _ _ m x).snoc (i _ _ _ m u) p⟩,m,((Below.refl B w).alloc hB o).grown b (by simp;omega) (fun k r=>(c.at_ r).1)⟩
def DH (B gr:Nat) (w:World) (c1 c2 c3 c4:Value) (s:PS) (b:BodyL) (v:Value) (wq:World):Prop :=
  ∃ A n c,v=.agg #[aa b.name,.slice A n c]/\nU 130 wq A n c b.pts/\NmL b.name/\RdP B wq gr c1 c2 c3 c4 s/\w.grownBy wq (some gr)
def TB (B gr:Nat) (w:World) (c1 c2 c3 c4:Value) (s:PS) (b:BodyL) (n:Nat) (l:List BodyL):Nat->Value->Value->Value->World->Prop
  | 0,_,_,_,wq=>wq=w.drew
  | 1,v7,_,_,wq=>DH B gr w c1 c2 c3 c4 s b v7 wq
  | 2,_,v8,_,wq=>∃ w2 A n' c',DH B gr w c1 c2 c3 c4 s b (.agg #[aa b.name,.slice A n' c']) w2/\v8=.slice (some ⟨w2.heap.size,0,none⟩) 1 1/\wq=w2.alloc (.cells #[aa b.name,.slice A n' c'] 51)
  | 3,_,_,v9,wq=>∃ w2 v A5 c5,DH B gr w c1 c2 c3 c4 s b v w2/\v9=.slice A5 (n+1) c5/\aq 51 (BdC 130) 2 wq B v9 (n+1) (l++[b])/\Tch (bi 51) w2 wq/\Below B w2 wq
  | _,_,_,_,_=>False
theorem TB.rd {B gr:Nat}{w:World}{c1 c2 c3 c4:Value}{d s:PS}{b:BodyL}{n:Nat}{l:List BodyL}(a:RdP B w gr c1 c2 c3 c4 d):∀ {k:Nat}{g i f:Value}{c:World},TB B gr w c1 c2 c3 c4 s b n l k g i f c->∃ s',RdP B c gr c1 c2 c3 c4 s'
 | 0,_,_,_,_,h=>by
  have h:_=_:=h;rw [h];exact ⟨d,⟨a.blk,a.mx,a.hB,a.len,a.txt,a.hw⟩⟩
 | 1,_,_,_,_,⟨_,_,_,_,_,_,h,_⟩=>⟨s,h⟩
 | 2,_,_,_,_,⟨w2,_,_,_,⟨_,_,_,_,_,_,h,_⟩,_,e⟩=>⟨s,by rw [e];exact h.alloc _⟩
 | 3,_,_,_,_,⟨w2,_,_,_,⟨_,_,_,_,_,_,h,_⟩,_,_,ht,hb⟩=>⟨s,h.other ht (by decide) hb⟩
 | _+4,_,_,_,_,h=>False.elim h
def TJ_ {α:Type}(T0:TypeId) (Pc:World->List Value->α->Prop) (sz:Nat) (B gj:Nat) (w:World) (cs:List Value) (a:α) (n:Nat) (l:List α):Nat->Value->Value->World->Prop
  | 0,_,_,wq=>wq=w.drew
  | 1,v7,_,wq=>v7=.slice (some ⟨w.heap.size,0,none⟩) 1 1/\wq=w.drew.alloc (.cells cs.toArray T0)
  | 2,_,v8,wq=>∃ A5 c5,v8=.slice A5 (n+1) c5/\aq T0 Pc sz wq B v8 (n+1) (l++[a])/\Blk wq gj T0 cs.toArray/\Tch (bi T0) w wq/\Below B w wq
  | _,_,_,_=>False
theorem TJ_.rd {α:Type}{T0:TypeId}{Pc:World->List Value->α->Prop}{sz B d gr n:Nat}{w:World}{cs:List Value}{a:α}{l:List α}{c1 c2 c3 c4:Value}{s:PS}(f:bi T0 118=false) (b:RdP B w gr c1 c2 c3 c4 s):∀ {k:Nat}{g i:Value}{c:World},TJ_ T0 Pc sz B d w cs a n l k g i c->RdP B c gr c1 c2 c3 c4 s
 | 0,_,_,_,h=>by
  have h:_=_:=h;rw [h];exact ⟨b.blk,b.mx,b.hB,b.len,b.txt,b.hw⟩
 | 1,_,_,_,⟨_,e⟩=>by
  rw [e];exact b.drew.alloc _
 | 2,_,_,_,⟨_,_,_,_,_,ht,hb⟩=>b.other ht f hb
 | _+3,_,_,_,h=>False.elim h
theorem TJ_.blk {α:Type}{T0:TypeId}{Pc:World->List Value->α->Prop}{sz B b n:Nat}{w:World}{cs:List Value}{a:α}{l:List α}(hb:Blk w b T0 cs.toArray):∀ {k:Nat}{f d:Value}{c:World},TJ_ T0 Pc sz B b w cs a n l k f d c->Blk c b T0 cs.toArray
 | 0,_,_,_,h=>by
  have h:_=_:=h;rw [h];exact hb.drew
 | 1,_,_,_,⟨_,e⟩=>by rw [e];exact hb.drew.alloc _
 | 2,_,_,_,⟨_,_,_,_,h,_⟩=>h
 | _+3,_,_,_,h=>False.elim h
abbrev fr4 (u0 u1 u2 u3 u4 u5 u6 u7 u8 u9 u10 u11 u12 u26 u27 u28 u29 u30 u31 u32 u33 u34 u35 u36 u37 u38 u39 u40 u41 u42 u43 u44 u45 u46 u47 u48 u49 u50 u51 u52 u53 u54 u55 u56 u57 u58 u59 u60 u61 u62 u63 u64 u65 u66 u67 u68 u69 u70 u71 u72 u73 u74 u75 u76 u77 u78 u79 u80 u81 u82 u83 u84 u85 u86 u87 u88 u89 u90 u91 u92:Value) (xf:Nat->Value):Act:=⟨List.toArray (u0::u1::u2::u3::u4::u5::u6::u7::u8::u9::u10::u11::u12::xf 0::xf 1::xf 2::xf 3::xf 4::xf 5::xf 6::xf 7::xf 8::xf 9::xf 10::xf 11::xf 12::u26::u27::u28::u29::u30::u31::u32::u33::u34::u35::u36::u37::u38::u39::u40::u41::u42::u43::u44::u45::u46::u47::u48::u49::u50::u51::u52::u53::u54::u55::u56::u57::u58::u59::u60::u61::u62::u63::u64::u65::u66::u67::u68::u69::u70::u71::u72::u73::u74::u75::u76::u77::u78::u79::u80::u81::u82::u83::u84::u85::u86::u87::u88::u89::u90::u91::u92::[]),[]⟩
abbrev lH (u0 u1 u2 u3 u4 u5 u6 u7 u8 u9 u10 u11 u12 u13 u14 u15 u16 u17 u18 u19 u20 u21 u22 u23 u24 u25 u26 u27 u28 u29 u30 u31 u32 u33 u34 u35 u36 u37 u38 u39 u40 u41 u42 u43 u44 u45 u46 u47 u48 u49 u50 u51 u52 u53 u54 u55 u56 u57 u58 u71 u72 u73 u74 u75 u76 u77 u78 u79 u80 u81 u82 u83 u84 u85 u86 u87 u88 u89 u90 u91 u92:Value) (xf:Nat->Value):Act:=⟨List.toArray (u0::u1::u2::u3::u4::u5::u6::u7::u8::u9::u10::u11::u12::u13::u14::u15::u16::u17::u18::u19::u20::u21::u22::u23::u24::u25::u26::u27::u28::u29::u30::u31::u32::u33::u34::u35::u36::u37::u38::u39::u40::u41::u42::u43::u44::u45::u46::u47::u48::u49::u50::u51::u52::u53::u54::u55::u56::u57::u58::xf 0::xf 1::xf 2::xf 3::xf 4::xf 5::xf 6::xf 7::xf 8::xf 9::xf 10::xf 11::u71::u72::u73::u74::u75::u76::u77::u78::u79::u80::u81::u82::u83::u84::u85::u86::u87::u88::u89::u90::u91::u92::[]),[]⟩
abbrev wK (u0 u1 u2 u3 u4 u5 u6 u7 u8 u9 u10 u11 u12 u13 u14 u15 u16 u17 u18 u19 u20 u21 u22 u23 u24 u25 u26 u27 u28 u29 u30 u31 u32 u33 u34 u35 u36 u37 u38 u39 u40 u41 u42 u43 u44 u45 u46 u47 u48 u49 u50 u51 u52 u53 u54 u55 u56 u57 u58 u59 u60 u61 u62 u63 u64 u65 u66 u67 u68 u69 u70 u71 u72 u73 u74 u75 u76 u77 u78 u79 u80:Value) (xf:Nat->Value):Act:=⟨List.toArray (u0::u1::u2::u3::u4::u5::u6::u7::u8::u9::u10::u11::u12::u13::u14::u15::u16::u17::u18::u19::u20::u21::u22::u23::u24::u25::u26::u27::u28::u29::u30::u31::u32::u33::u34::u35::u36::u37::u38::u39::u40::u41::u42::u43::u44::u45::u46::u47::u48::u49::u50::u51::u52::u53::u54::u55::u56::u57::u58::u59::u60::u61::u62::u63::u64::u65::u66::u67::u68::u69::u70::u71::u72::u73::u74::u75::u76::u77::u78::u79::u80::xf 0::xf 1::xf 2::xf 3::xf 4::xf 5::xf 6::xf 7::xf 8::xf 9::xf 10::xf 11::[]),[]⟩
theorem tE {α:Type}{T0:TypeId}{Pc:World->List Value->α->Prop}{sz base n g:Nat}{w:World}{v:Value}{l:List α}(h:aq T0 Pc sz w base v n l) (d:w.heap.size<=g):some g≠v.ownBlock:=by
 intro e;obtain ⟨_,c,a,_⟩:=h;obtain ⟨_,cur,b,_⟩:=a.at_ e.symm;have:=lt_of_block b;omega
theorem dX {B g:Nat}(w:World) (hB:B<=g) (i j:Nat) (a b:Value):Below B w ((w.setCell ⟨g,i,none⟩ a).setCell ⟨g,j,none⟩ b) :=
 ((Below.refl B w).setCell (p:=⟨g,i,none⟩) hB a).setCell (p:=⟨g,j,none⟩) hB b
theorem BV (B:Nat) (w:World) (gr:Nat) (s:PS) (A:Option Addr) (n c:Nat) (U:Option Addr) (G S:Nat) (D:Option Addr) (r C:Nat) (h:RdL B w gr s A n c U G S D r C):Calls Tryz.prog 73 #[.pointer (some ⟨gr,0,none⟩)] w (E3 B w gr s.item):=by
 have ds:s.word.1=mW\/s.word.1=wH\/s.word.1=lf\/s.word.1=iR\/(s.word.1≠mW/\s.word.1≠wH/\s.word.1≠lf/\s.word.1≠iR):=by
  by_cases h1:s.word.1=mW
  ·exact .inl h1
  by_cases h2:s.word.1=wH
  ·exact .inr (.inl h2)
  by_cases h3:s.word.1=lf
  ·exact .inr (.inr (.inl h3))
  by_cases h4:s.word.1=iR
  ·exact .inr (.inr (.inr (.inl h4)))
  exact .inr (.inr (.inr (.inr ⟨h1,h2,h3,h4⟩)))
 rcases ds with J | J | J | J | ⟨k1,k2,k3,k4⟩
 have O:=Qh J;have cL:(s.word.1==[98,111,100,121])=true:=by rw [J];decide
 clear J;rotate_left;have O:=Qh J;have cL:(s.word.1==[98,111,100,121])=false:=by rw [J];decide
 have dv:(s.word.1==[112,105,110])=true:=by rw [J];decide
 have aT:(s.word.1==[115,108,105,100,101])=false:=by rw [J];decide
 clear J;rotate_left;have O:=Qh J;have cL:(s.word.1==[98,111,100,121])=false:=by rw [J];decide
 have dv:(s.word.1==[112,105,110])=false:=by rw [J];decide
 have aT:(s.word.1==[115,108,105,100,101])=true:=by rw [J];decide
 clear J;rotate_left;have O:=Qh J;have cL:(s.word.1==[98,111,100,121])=false:=by rw [J];decide
 have dv:(s.word.1==[112,105,110])=false:=by rw [J];decide
 have aT:(s.word.1==[115,108,105,100,101])=false:=by rw [J];decide
 have em:(s.word.1==[100,114,105,118,101,114])=true:=by rw [J];decide
 clear J;rotate_left;have cL:(s.word.1==[98,111,100,121])=false:=beq_eq_false_iff_ne.2 k1;have dv:(s.word.1==[112,105,110])=false:=beq_eq_false_iff_ne.2 k2;have aT:(s.word.1==[115,108,105,100,101])=false:=beq_eq_false_iff_ne.2 k3;have em:(s.word.1==[100,114,105,118,101,114])=false:=beq_eq_false_iff_ne.2 k4;have HK:=Qh (show s.item=s.word.2.fail 2 by unfold PS.item;rw [if_neg k1,if_neg k2,if_neg k3,if_neg k4]);clear k1 k2 k3 k4;rotate_left
 all_goals
  obtain ⟨i0,d4,eb,eg,d3⟩:=info_parts pW;obtain ⟨ij,d0,d9,d7,eh⟩:=info_parts pX;obtain ⟨id,cb,cp,cy,cz⟩:=info_parts pY;have HI:=Qh (And.intro d4 (And.intro eb (And.intro eg d3)));have bw:=Qh (And.intro d0 (And.intro d9 (And.intro d7 eh)));have cx:=Qh (And.intro cb (And.intro cp (And.intro cy cz)));clear d4 eb eg d3 d0 d9 d7 eh cb cp cy cz;have bf:=Qh (aV s).2.2.2;have b9:=Qh ((aV s).trans (aV s.word.2)).2.2.2;have N:=Qh h;obtain ⟨W,hW⟩:∃ W,s.item=W:=⟨_,rfl⟩;rw [hW];have HW:=Qh hW;clear h hW;go_in;go_wp2_with fail;refine (dK B _ gr (aa s.L.name) (.slice A n c) (.slice U G S) (.slice D r C) s N.out.rd).mono ?_;rintro e w1 ⟨rfl,h1,db⟩;have E:=Qh h1;have et:=h1.lt;have b6:=Qh (jy db (B:=B) (by have:=N.out.rd.lt;have:=N.out.rd.hB;omega) N.out.rd.hB);have t0:=N.out.rd.tchR db;have al:=Qh (N.out.bd.tch t0 (by decide) (fun _ _ x=>x.tch t0 (by decide)));have b1:=Qh (N.out.jt.tch t0 (by decide) (fun _ _ x=>x));have b4:=Qh (N.out.dr.tch t0 (by decide) (fun _ _ x=>x));obtain ⟨Ak,nk,ck,cv,_⟩:=h1.blk;have cr:=Qh cv;clear h1 db t0 cv;have hn:=aF s.word.1
 ·go_wp2_with fail
  change Code.wp _ _ _ (fr4 _ _ _ _ _ _ _ _ _ _ _ _ _ _ _ _ _ _ _ _ _ _ _ _ _ _ _ _ _ _ _ _ _ _ _ _ _ _ _ _ _ _ _ _ _ _ _ _ _ _ _ _ _ _ _ _ _ _ _ _ _ _ _ _ _ _ _ _ _ _ _ _ _ _ _ _ _ _ _ _ (fun _=>undef)) _;refine dL (n:=13) (a:=7) (K:=3) (x0:=fun _=>undef) (R:=fun ri=>List.getD ((VE (.pointer (some ⟨gr,0,none⟩)))::(VE (.pointer (some ⟨gr,0,none⟩)))::(VE (.pointer (some ⟨gr,0,none⟩)))::(VE (.pointer (some ⟨gr,1,none⟩)))::(VE (.pointer (some ⟨gr,2,none⟩)))::(VE (.slice A n c))::(VE (.pointer (some ⟨gr,0,none⟩)))::VA::VA::VA::(VE (.pointer (some ⟨gr,0,none⟩)))::(VE (.pointer (some ⟨gr,1,none⟩)))::(VE (.pointer (some ⟨gr,2,none⟩)))::[]) ri VA) (T:=fun k x t=>TB B gr w1 (aa s.L.name) (.slice A n c) (.slice U G S) (.slice D r C) s.word.2.body.2 s.word.2.body.1 n s.L.bodies k (x 7) (x 8) (x 9) t) (by kernel_rfl) rfl ?_ ?_ ?_ (by decide) ?_ ?_ rfl ?_ ?_ ?_
  ·exact aw ⟨(fun _ _ _=>rfl),(fun _ _ _=>rfl),(fun _ _ _=>rfl),(fun _ _ _=>rfl),(fun _ _ _=>rfl),(fun _ _ _=>rfl),(fun _ _ _=>rfl),(fun _ _ _=>rfl),(fun _ _ _=>rfl),(fun _ _ _=>rfl),(fun _ _ _=>rfl),(fun _ _ _=>rfl),(fun _ _ _=>rfl),(fun h=>absurd h (by decide)),trivial⟩
  ·exact aw (bF _ 0 (by kernel_rfl))
  ·exact (fun j hj=>eU (by kernel_rfl) hj)
  ·intro j o hj z
   obtain rfl | rfl:j=0\/j=1:=by omega
   ·injection z with z
    subst z;exact ⟨⟨7,.data⟩,by simp,rfl,rfl⟩
   injection z with z;subst z;exact ⟨⟨8,.data⟩,by simp,rfl,rfl⟩
  ·intro k x i v w hi h
   have e7:upd x i v 7=x 7:=bD _ _ (by omega);have e8:upd x i v 8=x 8:=bD _ _ (by omega);have e9:upd x i v 9=x 9:=bD _ _ (by omega);simp only [e7,e8,e9];exact h
  ·refine aw ⟨?_,?_,?_,?_,?_,?_,?_,(fun _ h=>absurd h (by decide)),(fun _ h=>absurd h (by decide)),(fun _ h=>absurd h (by decide)),?_,?_,?_,(fun h=>absurd h (by decide)),trivial⟩
   intro _ _ k f t u hd K y;have m:=trivial;rotate_left;intro _ _ k f t u hd K y;have m:=trivial;rotate_left;intro _ _ k f t u hd K y;have m:f 1=_:=hd ⟨1,.data⟩ (by simp) rfl;rotate_left;intro _ _ k f t u hd K y;have m:f 2=_:=hd ⟨2,.data⟩ (by simp) rfl;rotate_left;intro _ _ k f t u hd K y;have m:f 3=_:=hd ⟨3,.data⟩ (by simp) rfl;rotate_left;intro _ _ k f t u hd K y;have m:f 4=_:=hd ⟨4,.data⟩ (by simp) rfl;obtain ⟨sz,ei⟩:=TB.rd E.out u;obtain ⟨_,ab,_⟩:=ei.cells;rotate_left;intro _ _ k f t u hd K y;have m:=trivial;rotate_left;intro _ _ k f t u hd K y;have m:f 0=_:=hd ⟨0,.data⟩ (by simp) rfl;rotate_left;intro _ _ k f t u hd K y;have m:f 10=_:=hd ⟨10,.data⟩ (by simp) rfl;rotate_left;intro _ _ k f t u hd K y;have m:f 11=_:=hd ⟨11,.data⟩ (by simp) rfl;rotate_left
   all_goals
    (try dsimp only [fr4]);(try simp only [m]);go_simp;have P:=y.out _ rfl;dsimp only [fr4] at P;(try simp only [m] at P);exact P
  ·intro k o hk z
   obtain rfl | rfl | rfl:=(show k=0\/k=1\/k=2 by omega)
   ·injection z with z
    subst z;intro f t u hd K y;have ao:f 6=.pointer (some ⟨gr,0,none⟩):=hd ⟨6,.data⟩ (by simp) rfl;have u:t=w1.drew:=u;subst u;(try dsimp only [fr4]);(try simp only [ao]);go_simp;go_at_call 106;refine (BU B _ gr (aa s.L.name) (.slice A n c) (.slice U G S) (.slice D r C) s.word.2 E.out.drew).mono ?_;rintro e wr ⟨A3,n3,c3,rfl,hm,bu,hr,hg⟩;have P:=y.out _ _ trivial ⟨A3,n3,c3,rfl,hm,bu,hr,aH (BS (rg_refl gr w1)) hg⟩;dsimp only [fr4] at P;simp only [ao] at P;exact P
   ·injection z with z
    subst z;intro f t u hd K y;obtain ⟨A3,n3,c3,e7,hm,bu,hr,hg⟩:TB B gr w1 (aa s.L.name) (.slice A n c) (.slice U G S) (.slice D r C) s.word.2.body.2 s.word.2.body.1 n s.L.bodies 1 (f 7) (f 8) (f 9) t:=u;(try dsimp only [fr4]);(try simp only [e7]);go_simp;have P:=y.out (.slice (some ⟨t.heap.size,0,none⟩) 1 1) (t.alloc (.cells #[aa s.word.2.body.1.name,.slice A3 n3 c3] 51)) trivial ⟨t,A3,n3,c3,⟨A3,n3,c3,rfl,hm,bu,hr,hg⟩,rfl,rfl⟩;dsimp only [fr4] at P;simp only [e7] at P;exact P
   injection z with z;subst z;intro f t u hd K y;obtain ⟨w2,A3,n3,c3,⟨A4,n4,c4,e4,hm,bu,hr,hg⟩,e8,ew⟩:TB B gr w1 (aa s.L.name) (.slice A n c) (.slice U G S) (.slice D r C) s.word.2.body.2 s.word.2.body.1 n s.L.bodies 2 (f 7) (f 8) (f 9) t:=u;subst ew;cases e4;have b2:f 5=.slice A n c:=hd ⟨5,.data⟩ (by simp) rfl;obtain ⟨hl,xs,F,q⟩:=al.out.rgt cr.out (by decide) hg (fun _ _ x=>x.tch (E.out.tchR hg) (by decide));have c9:=hr.lt;have dn:=hr.hB;rw [if_pos (show Region.wanted _ _=true from rfl)];refine cA _ noW _ _ _ rfl B 51 i0 (.agg #[.string ⟨#[]⟩,.slice none 0 0]) 2 40 Tryz.underlying22 HI.out.1 HI.out.2.1 HI.out.2.2.1 HI.out.2.2.2 rfl (by omega) rfl (.slice A n c) n xs b2 (F.belw ((Below.refl _ _).alloc Qr _)) ⟨w2.heap.size,0,none⟩ 1 1 [aa s.word.2.body.1.name,.slice A3 n3 c3] e8 rfl (World.news_of_block (heap_alloc_new w2 _)) (by simp [Value.oneCell']) rfl (by omega) (by have:=N.out.cnt;unfold maxLen;omega) (by have:=N.out.cnt;omega) (by simp;omega) ?_;intro g5 cap w5 V M _;have hp:=km hl F q (a:=s.word.2.body.1) (cs:=[aa s.word.2.body.1.name,.slice A3 n3 c3]) ⟨A3,n3,c3,rfl,hm,bu⟩ rfl V M (by omega) (fun _ _ _ ht x=>x.tch ht (by decide));exact y.out _ _ trivial ⟨w2,_,some ⟨g5,0,none⟩,cap,⟨A3,n3,c3,rfl,hm,bu,hr,hg⟩,rfl,hp.1,hp.2.1,hp.2.2⟩
  intro o z f t u hr K y;injection z with z;subst z;obtain ⟨w2,v,A5,c5,⟨A4,n4,c4,e4,hm,bu,ee,hg⟩,e9,q,ht,hb⟩:TB B gr w1 (aa s.L.name) (.slice A n c) (.slice U G S) (.slice D r C) s.word.2.body.2 s.word.2.body.1 n s.L.bodies 3 (f 7) (f 8) (f 9) t:=u;have d5:f 12=.pointer (some ⟨gr,2,none⟩):=hr 12 (by decide);have RQ:=ee.other ht (by decide) hb;obtain ⟨_,ab,_,_,_,di,_⟩:=RQ.cells;rw [e9] at q;have aC:=Qh RQ;have a0:=Qh q;clear RQ q ee hm bu hr;(try dsimp only [fr4]);(try simp only [d5,e9]);go_simp;refine y.out _ _ ?_;go_wp2_with fail;go_end0;have t1:=E.out.tchR hg;have t3:=aC.out.tchR (eZ (rg_refl gr t) 2 (.slice A5 (n+1) c5));have Y:=rT s.word.2;have Q:s.word.2.body.2.L=s.L:=((aV s).trans Y).2.2.2;have b5:=iV (s:=s) (by rw [O.out];decide);have eW:W=s.word.2.body.2.addB s.word.2.body.1:=by rw [<- HW.out];unfold PS.item;rw [if_pos O.out]
  subst eW;refine ⟨rfl,⟨A5,n+1,c5,U,G,S,D,r,C,⟨?_,?_,?_,?_,?_,?_,?_⟩⟩,?_⟩
  ·show RdP B _ gr (aa s.word.2.body.2.L.name) _ _ _ _
   rw [Q];exact aC.out.put2 _ rfl rfl rfl
  ·show aq _ _ _ _ _ _ _ (s.word.2.body.2.L.bodies++[s.word.2.body.1])
   rw [Q];exact a0.out.tch t3 (by decide) (fun _ _ x=>x.tch t3 (by decide))
  ·show aq _ _ _ _ _ _ _ s.word.2.body.2.L.joints
   rw [Q];exact ((b1.out.tch t1 (by decide) (fun _ _ x=>x)).tch ht (by decide) (fun _ _ x=>x)).tch t3 (by decide) (fun _ _ x=>x)
  ·show aq _ _ _ _ _ _ _ s.word.2.body.2.L.drivers
   rw [Q];exact ((b4.out.tch t1 (by decide) (fun _ _ x=>x)).tch ht (by decide) (fun _ _ x=>x)).tch t3 (by decide) (fun _ _ x=>x)
  ·show NmL s.word.2.body.2.L.name
   rw [Q];exact N.out.nm
  ·show n+1+G+r+s.word.2.body.2.toks.length<=_
   have h1:=N.out.cnt;have h2:=Y.1;omega
  ·intro b H
   have H:b∈s.word.2.body.2.L.bodies++[s.word.2.body.1]:=H;rw [Q] at H;rcases List.mem_append.1 H with H | H
   ·exact N.out.pts b H
   simp at H;subst H;have h1:=zp s.word.2;have h2:=E.out.len;omega
  exact ((b6.out.trans (jy hg (by have:=E.out.lt;have:=E.out.hB;omega) E.out.hB)).trans hb).setCell (p:=⟨gr,2,none⟩) E.out.hB _
 ·go_wp2_with fail
  refine (dK B _ gr (aa s.L.name) (.slice A n c) (.slice U G S) (.slice D r C) s.word.2 E.out).mono ?_;rintro e w2 ⟨rfl,h2,Z⟩;have H2:=Qh h2;have ac:=h2.lt;have ad:=Z.size;have b7:=Qh (gF E.out.txt);clear h2;go_wp2_with fail;refine (kh B _ gr (aa s.L.name) (.slice U G S) (.slice D r C) A n c s.word.2.word.2 (H2.out.alloc _) (by rw [b9.out];exact E.out.bodies al.out (bE Z _)) (by have:=N.out.cnt;omega) (by rw [b9.out];exact fun b hb=>Nat.le_trans (N.out.pts b hb) (by decide)) (-1)).mono ?_;rintro e w3 ⟨rfl,h3,aS⟩;have a1:=dl s.word.2.word.2 (-1);generalize bv:s.word.2.word.2.full (-1)=d at h3 a1 ⊢;have cc:=Qh bv;have bk:=Qh ((aV s.word.2).trans a1);clear bv a1;have G3:=aH (bE Z _) aS;have p3:Blk w3 w2.heap.size 81 #[aa s.word.2.word.1,.int .i64 0,.int .i64 0,.int .i64 0,.int .i64 0,.int .i64 0,.int .i64 0]:=bZ aS (Blk.new _ _ _) (by omega);have bz:=p3.lt;have H3:=Qh h3;generalize ch:w2.heap.size=gj at ac ad p3 bz ⊢;have ca:=Qh (tE b1.out (g:=gj) (by omega));clear ch aS h3 Z H2;obtain ⟨an,a4,br,a6,a9,a8,bb⟩:=p3.c7;obtain ⟨a2,a5,a7,bs,bg,bn,bl⟩:=p3.f7;have P3:=Qh p3;clear p3;go_wp2_with fail;clear an a4 br a6 a9 a8 bb a2 a5 a7 bs bg bn bl;have B3:=dX w3 ac 2 3 (.int .i64 d.1) (.int .i64 d.2.1);have bY:=dm G3 (dX w3 ad 2 3 (.int .i64 d.1) (.int .i64 d.2.1));refine (kh B _ gr (aa s.L.name) (.slice U G S) (.slice D r C) A n c d.2.2 (H3.out.bel1 B3) (by rw [bk.out.sameL,bf.out];exact E.out.bodies al.out bY) (by have:=N.out.cnt;omega) (by rw [bk.out.sameL,bf.out];exact fun b hb=>Nat.le_trans (N.out.pts b hb) (by decide)) (-1)).mono ?_;rintro e w4 ⟨rfl,h4,b3⟩;have b0:=dl d.2.2 (-1);generalize cu:d.2.2.full (-1)=l at h4 b0 ⊢;have dq:=Qh cu;have cn:=Qh (bk.out.trans b0);clear cu b0;have G4:=aH bY b3;have p4:=bZ b3 ((P3.out.set_ 2 (.int .i64 d.1)).set_ 3 (.int .i64 d.2.1)) (by omega);have p4:=p4;have H4:=Qh h4;have ed:=p4.lt;obtain ⟨an,a4,br,a6,a9,a8,bb⟩:=p4.c7;obtain ⟨a2,a5,a7,bs,bg,bn,bl⟩:=p4.f7;have P4:=Qh p4;clear p4 h4 b3 G3 bY B3 P3 H3 bz;go_wp2_with fail;clear an a4 br a6 a9 a8 bb a2 a5 a7 bs bg bn bl;refine (eE B _ gr (aa s.L.name) (.slice A n c) (.slice U G S) (.slice D r C) l.2.2 (H4.out.bel1 (dX w4 ac 4 5 (.int .i64 l.1) (.int .i64 l.2.1))) [59]).mono ?_;rintro e I ⟨rfl,h6,a3⟩;have G6:=Qh (aH (dm G4 (dX w4 ad 4 5 (.int .i64 l.1) (.int .i64 l.2.1))) a3);have p6:=bZ a3 ((P4.out.set_ 4 (.int .i64 l.1)).set_ 5 (.int .i64 l.2.1)) (by omega);have H6:=Qh h6;have P6:=Qh p6;have HC:=Qh (show JtC I [aa s.word.2.word.1,.int .i64 0,.int .i64 d.1,.int .i64 d.2.1,.int .i64 l.1,.int .i64 l.2.1,.int .i64 0] ⟨s.word.2.word.1,0,d.1,d.2.1,l.1,l.2.1,0⟩ from ⟨rfl,b7.out⟩);have c8:=Qh (b1.out.tch (E.out.tchR G6.out) (by decide) (fun _ _ x=>x));clear h6 a3 p6;go_wp2_with fail;change Code.wp _ _ _ (lH _ _ _ _ _ _ _ _ _ _ _ _ _ _ _ _ _ _ _ _ _ _ _ _ _ _ _ _ _ _ _ _ _ _ _ _ _ _ _ _ _ _ _ _ _ _ _ _ _ _ _ _ _ _ _ _ _ _ _ _ _ _ _ _ _ _ _ _ _ _ _ _ _ _ _ _ _ _ _ _ _ (fun _=>undef)) _;refine dL (n:=12) (a:=7) (K:=2) (x0:=fun _=>undef) (R:=fun ri=>List.getD ((VE (.pointer (some ⟨gr,0,none⟩)))::(VE (.pointer (some ⟨gr,0,none⟩)))::(VE (.pointer (some ⟨gr,0,none⟩)))::(VE (.pointer (some ⟨gr,1,none⟩)))::(VE (.pointer (some ⟨gr,3,none⟩)))::(VE (.slice U G S))::(VE (.agg #[aa s.word.2.word.1,.int .i64 0,.int .i64 d.1,.int .i64 d.2.1,.int .i64 l.1,.int .i64 l.2.1,.int .i64 0]))::VA::VA::(VE (.pointer (some ⟨gr,0,none⟩)))::(VE (.pointer (some ⟨gr,1,none⟩)))::(VE (.pointer (some ⟨gr,3,none⟩)))::[]) ri VA) (T:=fun k x t=>TJ_ 81 JtC 7 B gj I [aa s.word.2.word.1,.int .i64 0,.int .i64 d.1,.int .i64 d.2.1,.int .i64 l.1,.int .i64 l.2.1,.int .i64 0] ⟨s.word.2.word.1,0,d.1,d.2.1,l.1,l.2.1,0⟩ G s.L.joints k (x 7) (x 8) t) (by kernel_rfl) rfl ?_ ?_ ?_ (by decide) ?_ ?_ rfl ?_ ?_ ?_
  ·exact aw ⟨(fun _ _ _=>rfl),(fun _ _ _=>rfl),(fun _ _ _=>rfl),(fun _ _ _=>rfl),(fun _ _ _=>rfl),(fun _ _ _=>rfl),(fun _ _ _=>rfl),(fun _ _ _=>rfl),(fun _ _ _=>rfl),(fun _ _ _=>rfl),(fun _ _ _=>rfl),(fun _ _ _=>rfl),(fun h=>absurd h (by decide)),trivial⟩
  ·exact aw (bF _ 0 (by kernel_rfl))
  ·exact (fun j hj=>eU (by kernel_rfl) hj)
  ·intro j o hj z
   obtain rfl:j=0:=by omega
   injection z with z;subst z;exact ⟨⟨7,.data⟩,by simp,rfl,rfl⟩
  ·intro k x i v w hi h
   have e7:upd x i v 7=x 7:=bD _ _ (by omega);have e8:upd x i v 8=x 8:=bD _ _ (by omega);simp only [e7,e8];exact h
  ·refine aw ⟨?_,?_,?_,?_,?_,?_,?_,(fun _ h=>absurd h (by decide)),(fun _ h=>absurd h (by decide)),?_,?_,?_,(fun h=>absurd h (by decide)),trivial⟩
   intro _ _ k f t u hd K y;have m:=trivial;rotate_left;intro _ _ k f t u hd K y;have m:=trivial;rotate_left;intro _ _ k f t u hd K y;have m:f 1=_:=hd ⟨1,.data⟩ (by simp) rfl;rotate_left;intro _ _ k f t u hd K y;have m:f 2=_:=hd ⟨2,.data⟩ (by simp) rfl;rotate_left;intro _ _ k f t u hd K y;have m:f 3=_:=hd ⟨3,.data⟩ (by simp) rfl;rotate_left;intro _ _ k f t u hd K y;have m:f 4=_:=hd ⟨4,.data⟩ (by simp) rfl;have ab:=(TJ_.rd (by decide) H6.out u).cells;obtain ⟨_,ab,b8,cm,_⟩:=ab;rotate_left;intro _ _ k f t u hd K y;obtain ⟨cb,cp,cy,cz,en,ek,ej⟩:=(TJ_.blk P6.out u).c7;have m:=trivial;rotate_left;intro _ _ k f t u hd K y;have m:f 0=_:=hd ⟨0,.data⟩ (by simp) rfl;rotate_left;intro _ _ k f t u hd K y;have m:f 9=_:=hd ⟨9,.data⟩ (by simp) rfl;rotate_left;intro _ _ k f t u hd K y;have m:f 10=_:=hd ⟨10,.data⟩ (by simp) rfl;rotate_left
   all_goals
    (try dsimp only [lH]);(try simp only [m]);go_simp;have P:=y.out _ rfl;dsimp only [lH] at P;(try simp only [m] at P);exact P
  ·intro k o hk z
   obtain rfl | rfl:=(show k=0\/k=1 by omega)
   ·injection z with z
    subst z;intro f t u hd K y;have u:t=I.drew:=u;subst u;have ao:f 6=.agg #[aa s.word.2.word.1,.int .i64 0,.int .i64 d.1,.int .i64 d.2.1,.int .i64 l.1,.int .i64 l.2.1,.int .i64 0]:=hd ⟨6,.data⟩ (by simp) rfl;(try dsimp only [lH]);(try simp only [ao]);go_simp;have P:=y.out (.slice (some ⟨I.heap.size,0,none⟩) 1 1) (I.drew.alloc (.cells #[aa s.word.2.word.1,.int .i64 0,.int .i64 d.1,.int .i64 d.2.1,.int .i64 l.1,.int .i64 l.2.1,.int .i64 0] 81)) trivial ⟨rfl,rfl⟩;dsimp only [lH] at P;simp only [ao] at P;exact P
   injection z with z;subst z;intro f t u hd K y;obtain ⟨e7,ew⟩:TJ_ 81 JtC 7 B gj I [aa s.word.2.word.1,.int .i64 0,.int .i64 d.1,.int .i64 d.2.1,.int .i64 l.1,.int .i64 l.2.1,.int .i64 0] ⟨s.word.2.word.1,0,d.1,d.2.1,l.1,l.2.1,0⟩ G s.L.joints 1 (f 7) (f 8) t:=u;subst ew;have b2:f 5=.slice U G S:=hd ⟨5,.data⟩ (by simp) rfl;obtain ⟨hl,xs,F,q⟩:=c8.out;have F:OwJ noW I.drew B 81 7 (.slice U G S) G xs:=F;have q:co JtC 7 I.drew s.L.joints xs:=q;have c9:=H6.out.lt;have dn:=H6.out.hB;have d2:I.drew.heap.size=I.heap.size:=rfl;rw [if_pos (show Region.wanted _ _=true from rfl)];refine cA _ noW _ _ _ rfl B 81 ij (.agg #[.string ⟨#[]⟩,.int .i64 0,.int .i64 0,.int .i64 0,.int .i64 0,.int .i64 0,.int .i64 0]) 7 64 Tryz.underlying23 bw.out.1 bw.out.2.1 bw.out.2.2.1 bw.out.2.2.2 rfl (by omega) rfl (.slice U G S) G xs b2 (F.belw ((Below.refl _ _).alloc Qr _)) ⟨I.heap.size,0,none⟩ 1 1 [aa s.word.2.word.1,.int .i64 0,.int .i64 d.1,.int .i64 d.2.1,.int .i64 l.1,.int .i64 l.2.1,.int .i64 0] e7 rfl (World.news_of_block (heap_alloc_new I.drew _)) (by simp [Value.oneCell']) rfl (by omega) (by have:=N.out.cnt;unfold maxLen;omega) (by have:=N.out.cnt;omega) (by simp;omega) ?_;intro g5 cap w5 V M _;have hp:=km hl F q (a:=⟨s.word.2.word.1,0,d.1,d.2.1,l.1,l.2.1,0⟩) (cs:=[aa s.word.2.word.1,.int .i64 0,.int .i64 d.1,.int .i64 d.2.1,.int .i64 l.1,.int .i64 l.2.1,.int .i64 0]) (show JtC I.drew _ (⟨s.word.2.word.1,0,d.1,d.2.1,l.1,l.2.1,0⟩:aD) from HC.out) rfl V M (by omega) (fun _ _ _ _ x=>x);exact y.out _ _ trivial ⟨some ⟨g5,0,none⟩,cap,rfl,hp.1,(P6.out.drew.alloc _).grown M ca.out,hp.2.1,((Below.refl B I).drew).trans hp.2.2⟩
  intro o z f t u hr K y;injection z with z;subst z;obtain ⟨A5,c5,e8,q,_,ht,hb⟩:TJ_ 81 JtC 7 B gj I [aa s.word.2.word.1,.int .i64 0,.int .i64 d.1,.int .i64 d.2.1,.int .i64 l.1,.int .i64 l.2.1,.int .i64 0] ⟨s.word.2.word.1,0,d.1,d.2.1,l.1,l.2.1,0⟩ G s.L.joints 2 (f 7) (f 8) t:=u;have bx:f 11=.pointer (some ⟨gr,3,none⟩):=hr 11 (by decide);have RQ:=H6.out.other ht (by decide) hb;obtain ⟨_,ab,b8,cm,_,di,ec,d1⟩:=RQ.cells;rw [e8] at q;have aC:=Qh RQ;have a0:=Qh q;clear RQ q hr;(try dsimp only [lH]);(try simp only [bx,e8]);go_simp;refine y.out _ _ ?_;go_wp2_with fail;go_end0;have t1:=E.out.tchR G6.out;have t3:=aC.out.tchR (eZ (rg_refl gr t) 3 (.slice A5 (G+1) c5));have Y:=cn.out.trans (aY l.2.2 2 [59]);have Q:(PS.expect l.2.2 2 [59]).L=s.L:=Y.2.2.2.trans bf.out;have b5:=iV (s:=s) (by rw [O.out];decide);have c0:=Y.1
  have eW:W=PS.addJ (PS.expect l.2.2 2 [59]) ⟨s.word.2.word.1,0,d.1,d.2.1,l.1,l.2.1,0⟩:=by
   rw [<- HW.out];unfold PS.item;rw [if_neg (by rw [O.out];decide),if_pos O.out];unfold PS.joint;simp only [cc.out,dq.out,Bool.false_eq_true,if_false]
  subst eW;refine ⟨rfl,⟨A,n,c,A5,G+1,c5,D,r,C,⟨?_,?_,?_,?_,?_,?_,?_⟩⟩,?_⟩
  ·show RdP B _ gr (aa (PS.expect l.2.2 2 [59]).L.name) _ _ _ _
   rw [Q];exact aC.out.put3 _ rfl rfl rfl
  ·show aq _ _ _ _ _ _ _ (PS.expect l.2.2 2 [59]).L.bodies
   rw [Q];exact ((al.out.tch t1 (by decide) (fun _ _ x=>x.tch t1 (by decide))).tch ht (by decide) (fun _ _ x=>x.tch ht (by decide))).tch t3 (by decide) (fun _ _ x=>x.tch t3 (by decide))
  ·show aq _ _ _ _ _ _ _ ((PS.expect l.2.2 2 [59]).L.joints++[⟨s.word.2.word.1,0,d.1,d.2.1,l.1,l.2.1,0⟩])
   rw [Q];exact a0.out.tch t3 (by decide) (fun _ _ x=>x)
  ·show aq _ _ _ _ _ _ _ (PS.expect l.2.2 2 [59]).L.drivers
   rw [Q];exact ((b4.out.tch t1 (by decide) (fun _ _ x=>x)).tch ht (by decide) (fun _ _ x=>x)).tch t3 (by decide) (fun _ _ x=>x)
  ·show NmL (PS.expect l.2.2 2 [59]).L.name
   rw [Q];exact N.out.nm
  ·show n+(G+1)+r+(PS.expect l.2.2 2 [59]).toks.length<=_
   have h1:=N.out.cnt;omega
  ·intro b H
   have H:b∈(PS.expect l.2.2 2 [59]).L.bodies:=H;rw [Q] at H;exact N.out.pts b H
  exact ((b6.out.trans (jy G6.out (by have:=E.out.lt;have:=E.out.hB;omega) E.out.hB)).trans hb).setCell (p:=⟨gr,3,none⟩) E.out.hB _
 ·go_wp2_with fail
  refine (dK B _ gr (aa s.L.name) (.slice A n c) (.slice U G S) (.slice D r C) s.word.2 E.out).mono ?_;rintro e w2 ⟨rfl,h2,Z⟩;have H2:=Qh h2;have ac:=h2.lt;have ad:=Z.size;have b7:=Qh (gF E.out.txt);clear h2;go_wp2_with fail;refine (kh B _ gr (aa s.L.name) (.slice U G S) (.slice D r C) A n c s.word.2.word.2 (H2.out.alloc _) (by rw [b9.out];exact E.out.bodies al.out (bE Z _)) (by have:=N.out.cnt;omega) (by rw [b9.out];exact fun b hb=>Nat.le_trans (N.out.pts b hb) (by decide)) (-1)).mono ?_;rintro e w3 ⟨rfl,h3,aS⟩;have a1:=dl s.word.2.word.2 (-1);generalize bv:s.word.2.word.2.full (-1)=d at h3 a1 ⊢;have cc:=Qh bv;have bk:=Qh ((aV s.word.2).trans a1);clear bv a1;have G3:=aH (bE Z _) aS;have p3:Blk w3 w2.heap.size 81 #[aa s.word.2.word.1,.int .i64 0,.int .i64 0,.int .i64 0,.int .i64 0,.int .i64 0,.int .i64 0]:=bZ aS (Blk.new _ _ _) (by omega);have bz:=p3.lt;have H3:=Qh h3;generalize ch:w2.heap.size=gj at ac ad p3 bz ⊢;have ca:=Qh (tE b1.out (g:=gj) (by omega));clear ch aS h3 Z H2;obtain ⟨an,a4,br,a6,a9,a8,bb⟩:=p3.c7;obtain ⟨a2,a5,a7,bs,bg,bn,bl⟩:=p3.f7;have P3:=Qh p3;clear p3;go_wp2_with fail;clear an a4 br a6 a9 a8 bb a2 a5 a7 bs bg bn bl;have B3:=dX w3 ac 2 3 (.int .i64 d.1) (.int .i64 d.2.1);have bY:=dm G3 (dX w3 ad 2 3 (.int .i64 d.1) (.int .i64 d.2.1));refine (kh B _ gr (aa s.L.name) (.slice U G S) (.slice D r C) A n c d.2.2 (H3.out.bel1 B3) (by rw [bk.out.sameL,bf.out];exact E.out.bodies al.out bY) (by have:=N.out.cnt;omega) (by rw [bk.out.sameL,bf.out];exact fun b hb=>Nat.le_trans (N.out.pts b hb) (by decide)) (-1)).mono ?_;rintro e w4 ⟨rfl,h4,b3⟩;have b0:=dl d.2.2 (-1);generalize cu:d.2.2.full (-1)=l at h4 b0 ⊢;have dq:=Qh cu;have cn:=Qh (bk.out.trans b0);clear cu b0;have G4:=aH bY b3;have p4:=bZ b3 ((P3.out.set_ 2 (.int .i64 d.1)).set_ 3 (.int .i64 d.2.1)) (by omega);have p4:=p4;have H4:=Qh h4;have ed:=p4.lt;obtain ⟨an,a4,br,a6,a9,a8,bb⟩:=p4.c7;obtain ⟨a2,a5,a7,bs,bg,bn,bl⟩:=p4.f7;have P4:=Qh p4;clear p4 h4 b3 G3 bY B3 P3 H3 bz;go_wp2_with fail;clear an a4 br a6 a9 a8 bb a2 a5 a7 bs bg bn bl;have B4:=(dX w4 ac 4 5 (.int .i64 l.1) (.int .i64 l.2.1)).setCell (p:=⟨gj,1,none⟩) ac (.int .i64 1);have c1:=dm G4 ((dX w4 ad 4 5 (.int .i64 l.1) (.int .i64 l.2.1)).setCell (p:=⟨gj,1,none⟩) ad (.int .i64 1));have Q4:=Qh (((P4.out.set_ 4 (.int .i64 l.1)).set_ 5 (.int .i64 l.2.1)).set_ 1 (.int .i64 1));refine (kh B _ gr (aa s.L.name) (.slice U G S) (.slice D r C) A n c l.2.2 (H4.out.bel1 B4) (by rw [cn.out.sameL,bf.out];exact E.out.bodies al.out c1) (by have:=N.out.cnt;omega) (by rw [cn.out.sameL,bf.out];exact fun b hb=>Nat.le_trans (N.out.pts b hb) (by decide)) l.1).mono ?_;rintro e w5 ⟨rfl,h5,dO⟩;have c6:=dl l.2.2 l.1;generalize d6:l.2.2.full l.1=X at h5 c6 ⊢;have eo:=Qh d6;have es:=Qh (cn.out.trans c6);clear d6 c6;have G5:=aH c1 dO;have p5:=bZ dO Q4.out (by omega);have H5:=Qh h5;have ev:=p5.lt;obtain ⟨an,a4,br,a6,a9,a8,bb⟩:=p5.c7;obtain ⟨a2,a5,a7,bs,bg,bn,bl⟩:=p5.f7;have P5:=Qh p5;clear p5 h5 dO G4 c1 B4 P4 H4 Q4 ed;go_wp2_with fail;clear an a4 br a6 a9 a8 bb a2 a5 a7 bs bg bn bl;refine (eE B _ gr (aa s.L.name) (.slice A n c) (.slice U G S) (.slice D r C) X.2.2 (H5.out.bel1 ((Below.refl _ w5).setCell (p:=⟨gj,6,none⟩) ac (.int .i64 X.2.1))) [59]).mono ?_;rintro e I ⟨rfl,h6,a3⟩;have G6:=Qh (aH (dm G5 ((Below.refl _ w5).setCell (p:=⟨gj,6,none⟩) ad (.int .i64 X.2.1))) a3);have p6:=bZ a3 (P5.out.set_ 6 (.int .i64 X.2.1)) (by omega);have H6:=Qh h6;have P6:=Qh p6;have HC:=Qh (show JtC I [aa s.word.2.word.1,.int .i64 1,.int .i64 d.1,.int .i64 d.2.1,.int .i64 l.1,.int .i64 l.2.1,.int .i64 X.2.1] ⟨s.word.2.word.1,1,d.1,d.2.1,l.1,l.2.1,X.2.1⟩ from ⟨rfl,b7.out⟩);have c8:=Qh (b1.out.tch (E.out.tchR G6.out) (by decide) (fun _ _ x=>x));clear h6 a3 p6;go_wp2_with fail;change Code.wp _ _ _ (lH _ _ _ _ _ _ _ _ _ _ _ _ _ _ _ _ _ _ _ _ _ _ _ _ _ _ _ _ _ _ _ _ _ _ _ _ _ _ _ _ _ _ _ _ _ _ _ _ _ _ _ _ _ _ _ _ _ _ _ _ _ _ _ _ _ _ _ _ _ _ _ _ _ _ _ _ _ _ _ _ _ (fun _=>undef)) _;refine dL (n:=12) (a:=7) (K:=2) (x0:=fun _=>undef) (R:=fun ri=>List.getD ((VE (.pointer (some ⟨gr,0,none⟩)))::(VE (.pointer (some ⟨gr,0,none⟩)))::(VE (.pointer (some ⟨gr,0,none⟩)))::(VE (.pointer (some ⟨gr,1,none⟩)))::(VE (.pointer (some ⟨gr,3,none⟩)))::(VE (.slice U G S))::(VE (.agg #[aa s.word.2.word.1,.int .i64 1,.int .i64 d.1,.int .i64 d.2.1,.int .i64 l.1,.int .i64 l.2.1,.int .i64 X.2.1]))::VA::VA::(VE (.pointer (some ⟨gr,0,none⟩)))::(VE (.pointer (some ⟨gr,1,none⟩)))::(VE (.pointer (some ⟨gr,3,none⟩)))::[]) ri VA) (T:=fun k x t=>TJ_ 81 JtC 7 B gj I [aa s.word.2.word.1,.int .i64 1,.int .i64 d.1,.int .i64 d.2.1,.int .i64 l.1,.int .i64 l.2.1,.int .i64 X.2.1] ⟨s.word.2.word.1,1,d.1,d.2.1,l.1,l.2.1,X.2.1⟩ G s.L.joints k (x 7) (x 8) t) (by kernel_rfl) rfl ?_ ?_ ?_ (by decide) ?_ ?_ rfl ?_ ?_ ?_
  ·exact aw ⟨(fun _ _ _=>rfl),(fun _ _ _=>rfl),(fun _ _ _=>rfl),(fun _ _ _=>rfl),(fun _ _ _=>rfl),(fun _ _ _=>rfl),(fun _ _ _=>rfl),(fun _ _ _=>rfl),(fun _ _ _=>rfl),(fun _ _ _=>rfl),(fun _ _ _=>rfl),(fun _ _ _=>rfl),(fun h=>absurd h (by decide)),trivial⟩
  ·exact aw (bF _ 0 (by kernel_rfl))
  ·exact (fun j hj=>eU (by kernel_rfl) hj)
  ·intro j o hj z
   obtain rfl:j=0:=by omega
   injection z with z;subst z;exact ⟨⟨7,.data⟩,by simp,rfl,rfl⟩
  ·intro k x i v w hi h
   have e7:upd x i v 7=x 7:=bD _ _ (by omega);have e8:upd x i v 8=x 8:=bD _ _ (by omega);simp only [e7,e8];exact h
  ·refine aw ⟨?_,?_,?_,?_,?_,?_,?_,(fun _ h=>absurd h (by decide)),(fun _ h=>absurd h (by decide)),?_,?_,?_,(fun h=>absurd h (by decide)),trivial⟩
   intro _ _ k f t u hd K y;have m:=trivial;rotate_left;intro _ _ k f t u hd K y;have m:=trivial;rotate_left;intro _ _ k f t u hd K y;have m:f 1=_:=hd ⟨1,.data⟩ (by simp) rfl;rotate_left;intro _ _ k f t u hd K y;have m:f 2=_:=hd ⟨2,.data⟩ (by simp) rfl;rotate_left;intro _ _ k f t u hd K y;have m:f 3=_:=hd ⟨3,.data⟩ (by simp) rfl;rotate_left;intro _ _ k f t u hd K y;have m:f 4=_:=hd ⟨4,.data⟩ (by simp) rfl;have ab:=(TJ_.rd (by decide) H6.out u).cells;obtain ⟨_,ab,b8,cm,_⟩:=ab;rotate_left;intro _ _ k f t u hd K y;obtain ⟨cb,cp,cy,cz,en,ek,ej⟩:=(TJ_.blk P6.out u).c7;have m:=trivial;rotate_left;intro _ _ k f t u hd K y;have m:f 0=_:=hd ⟨0,.data⟩ (by simp) rfl;rotate_left;intro _ _ k f t u hd K y;have m:f 9=_:=hd ⟨9,.data⟩ (by simp) rfl;rotate_left;intro _ _ k f t u hd K y;have m:f 10=_:=hd ⟨10,.data⟩ (by simp) rfl;rotate_left
   all_goals
    (try dsimp only [lH]);(try simp only [m]);go_simp;have P:=y.out _ rfl;dsimp only [lH] at P;(try simp only [m] at P);exact P
  ·intro k o hk z
   obtain rfl | rfl:=(show k=0\/k=1 by omega)
   ·injection z with z
    subst z;intro f t u hd K y;have u:t=I.drew:=u;subst u;have ao:f 6=.agg #[aa s.word.2.word.1,.int .i64 1,.int .i64 d.1,.int .i64 d.2.1,.int .i64 l.1,.int .i64 l.2.1,.int .i64 X.2.1]:=hd ⟨6,.data⟩ (by simp) rfl;(try dsimp only [lH]);(try simp only [ao]);go_simp;have P:=y.out (.slice (some ⟨I.heap.size,0,none⟩) 1 1) (I.drew.alloc (.cells #[aa s.word.2.word.1,.int .i64 1,.int .i64 d.1,.int .i64 d.2.1,.int .i64 l.1,.int .i64 l.2.1,.int .i64 X.2.1] 81)) trivial ⟨rfl,rfl⟩;dsimp only [lH] at P;simp only [ao] at P;exact P
   injection z with z;subst z;intro f t u hd K y;obtain ⟨e7,ew⟩:TJ_ 81 JtC 7 B gj I [aa s.word.2.word.1,.int .i64 1,.int .i64 d.1,.int .i64 d.2.1,.int .i64 l.1,.int .i64 l.2.1,.int .i64 X.2.1] ⟨s.word.2.word.1,1,d.1,d.2.1,l.1,l.2.1,X.2.1⟩ G s.L.joints 1 (f 7) (f 8) t:=u;subst ew;have b2:f 5=.slice U G S:=hd ⟨5,.data⟩ (by simp) rfl;obtain ⟨hl,xs,F,q⟩:=c8.out;have F:OwJ noW I.drew B 81 7 (.slice U G S) G xs:=F;have q:co JtC 7 I.drew s.L.joints xs:=q;have c9:=H6.out.lt;have dn:=H6.out.hB;have d2:I.drew.heap.size=I.heap.size:=rfl;rw [if_pos (show Region.wanted _ _=true from rfl)];refine cA _ noW _ _ _ rfl B 81 ij (.agg #[.string ⟨#[]⟩,.int .i64 0,.int .i64 0,.int .i64 0,.int .i64 0,.int .i64 0,.int .i64 0]) 7 64 Tryz.underlying23 bw.out.1 bw.out.2.1 bw.out.2.2.1 bw.out.2.2.2 rfl (by omega) rfl (.slice U G S) G xs b2 (F.belw ((Below.refl _ _).alloc Qr _)) ⟨I.heap.size,0,none⟩ 1 1 [aa s.word.2.word.1,.int .i64 1,.int .i64 d.1,.int .i64 d.2.1,.int .i64 l.1,.int .i64 l.2.1,.int .i64 X.2.1] e7 rfl (World.news_of_block (heap_alloc_new I.drew _)) (by simp [Value.oneCell']) rfl (by omega) (by have:=N.out.cnt;unfold maxLen;omega) (by have:=N.out.cnt;omega) (by simp;omega) ?_;intro g5 cap w5 V M _;have hp:=km hl F q (a:=⟨s.word.2.word.1,1,d.1,d.2.1,l.1,l.2.1,X.2.1⟩) (cs:=[aa s.word.2.word.1,.int .i64 1,.int .i64 d.1,.int .i64 d.2.1,.int .i64 l.1,.int .i64 l.2.1,.int .i64 X.2.1]) (show JtC I.drew _ (⟨s.word.2.word.1,1,d.1,d.2.1,l.1,l.2.1,X.2.1⟩:aD) from HC.out) rfl V M (by omega) (fun _ _ _ _ x=>x);exact y.out _ _ trivial ⟨some ⟨g5,0,none⟩,cap,rfl,hp.1,(P6.out.drew.alloc _).grown M ca.out,hp.2.1,((Below.refl B I).drew).trans hp.2.2⟩
  intro o z f t u hr K y;injection z with z;subst z;obtain ⟨A5,c5,e8,q,_,ht,hb⟩:TJ_ 81 JtC 7 B gj I [aa s.word.2.word.1,.int .i64 1,.int .i64 d.1,.int .i64 d.2.1,.int .i64 l.1,.int .i64 l.2.1,.int .i64 X.2.1] ⟨s.word.2.word.1,1,d.1,d.2.1,l.1,l.2.1,X.2.1⟩ G s.L.joints 2 (f 7) (f 8) t:=u;have bx:f 11=.pointer (some ⟨gr,3,none⟩):=hr 11 (by decide);have RQ:=H6.out.other ht (by decide) hb;obtain ⟨_,ab,b8,cm,_,di,ec,d1⟩:=RQ.cells;rw [e8] at q;have aC:=Qh RQ;have a0:=Qh q;clear RQ q hr;(try dsimp only [lH]);(try simp only [bx,e8]);go_simp;refine y.out _ _ ?_;go_wp2_with fail;go_end0;have t1:=E.out.tchR G6.out;have t3:=aC.out.tchR (eZ (rg_refl gr t) 3 (.slice A5 (G+1) c5));have Y:=es.out.trans (aY X.2.2 2 [59]);have Q:(PS.expect X.2.2 2 [59]).L=s.L:=Y.2.2.2.trans bf.out;have b5:=iV (s:=s) (by rw [O.out];decide);have c0:=Y.1
  have eW:W=PS.addJ (PS.expect X.2.2 2 [59]) ⟨s.word.2.word.1,1,d.1,d.2.1,l.1,l.2.1,X.2.1⟩:=by
   rw [<- HW.out];unfold PS.item;rw [if_neg (by rw [O.out];decide),if_neg (by rw [O.out];decide),if_pos O.out];unfold PS.joint;simp only [cc.out,dq.out,eo.out,if_true]
  subst eW;refine ⟨rfl,⟨A,n,c,A5,G+1,c5,D,r,C,⟨?_,?_,?_,?_,?_,?_,?_⟩⟩,?_⟩
  ·show RdP B _ gr (aa (PS.expect X.2.2 2 [59]).L.name) _ _ _ _
   rw [Q];exact aC.out.put3 _ rfl rfl rfl
  ·show aq _ _ _ _ _ _ _ (PS.expect X.2.2 2 [59]).L.bodies
   rw [Q];exact ((al.out.tch t1 (by decide) (fun _ _ x=>x.tch t1 (by decide))).tch ht (by decide) (fun _ _ x=>x.tch ht (by decide))).tch t3 (by decide) (fun _ _ x=>x.tch t3 (by decide))
  ·show aq _ _ _ _ _ _ _ ((PS.expect X.2.2 2 [59]).L.joints++[⟨s.word.2.word.1,1,d.1,d.2.1,l.1,l.2.1,X.2.1⟩])
   rw [Q];exact a0.out.tch t3 (by decide) (fun _ _ x=>x)
  ·show aq _ _ _ _ _ _ _ (PS.expect X.2.2 2 [59]).L.drivers
   rw [Q];exact ((b4.out.tch t1 (by decide) (fun _ _ x=>x)).tch ht (by decide) (fun _ _ x=>x)).tch t3 (by decide) (fun _ _ x=>x)
  ·show NmL (PS.expect X.2.2 2 [59]).L.name
   rw [Q];exact N.out.nm
  ·show n+(G+1)+r+(PS.expect X.2.2 2 [59]).toks.length<=_
   have h1:=N.out.cnt;omega
  ·intro b H
   have H:b∈(PS.expect X.2.2 2 [59]).L.bodies:=H;rw [Q] at H;exact N.out.pts b H
  exact ((b6.out.trans (jy G6.out (by have:=E.out.lt;have:=E.out.hB;omega) E.out.hB)).trans hb).setCell (p:=⟨gr,3,none⟩) E.out.hB _
 ·go_wp2_with fail
  refine (dK B _ gr (aa s.L.name) (.slice A n c) (.slice U G S) (.slice D r C) s.word.2 E.out).mono ?_;rintro e w2 ⟨rfl,h2,Z⟩;have H2:=Qh h2;have ac:=h2.lt;have ad:=Z.size;have b7:=Qh (gF E.out.txt);clear h2;go_wp2_with fail;refine (rZ B _ gr (aa s.L.name) (.slice U G S) (.slice D r C) A n c s.word.2.word.2 (H2.out.alloc _) (by rw [b9.out];exact E.out.bodies al.out (bE Z _)) (by have:=N.out.cnt;omega) (-1)).mono ?_;rintro e w3 ⟨rfl,h3,aS⟩;have a1:=iU s.word.2.word.2 (-1);generalize bv:s.word.2.word.2.named (-1)=d at h3 a1 ⊢;have cc:=Qh bv;have bk:=Qh ((aV s.word.2).trans a1);clear bv a1;have G3:=aH (bE Z _) aS;have p3:Blk w3 w2.heap.size 86 #[aa s.word.2.word.1,.int .i64 0]:=bZ aS (Blk.new _ _ _) (by omega);have bz:=p3.lt;have H3:=Qh h3;generalize ch:w2.heap.size=gj at ac ad p3 bz ⊢;have ca:=Qh (tE b4.out (g:=gj) (by omega));clear ch aS h3 Z H2;obtain ⟨an,a4⟩:=p3.c2;obtain ⟨a2,a5⟩:=p3.f2;have P3:=Qh p3;clear p3;go_wp2_with fail;clear an a4 a2 a5;refine (eE B _ gr (aa s.L.name) (.slice A n c) (.slice U G S) (.slice D r C) d.2 (H3.out.bel1 ((Below.refl _ w3).setCell (p:=⟨gj,1,none⟩) ac (.int .i64 d.1))) [59]).mono ?_;rintro e I ⟨rfl,h6,a3⟩;have G6:=Qh (aH (dm G3 ((Below.refl _ w3).setCell (p:=⟨gj,1,none⟩) ad (.int .i64 d.1))) a3);have p6:=bZ a3 (P3.out.set_ 1 (.int .i64 d.1)) (by omega);have H6:=Qh h6;have P6:=Qh p6;have HC:=Qh (show DrC I [aa s.word.2.word.1,.int .i64 d.1] ⟨s.word.2.word.1,d.1⟩ from ⟨rfl,b7.out⟩);have ep:=Qh (b4.out.tch (E.out.tchR G6.out) (by decide) (fun _ _ x=>x));clear h6 a3 p6;go_wp2_with fail;change Code.wp _ _ _ (wK _ _ _ _ _ _ _ _ _ _ _ _ _ _ _ _ _ _ _ _ _ _ _ _ _ _ _ _ _ _ _ _ _ _ _ _ _ _ _ _ _ _ _ _ _ _ _ _ _ _ _ _ _ _ _ _ _ _ _ _ _ _ _ _ _ _ _ _ _ _ _ _ _ _ _ _ _ _ _ _ _ (fun _=>undef)) _;refine dL (n:=12) (a:=7) (K:=2) (x0:=fun _=>undef) (R:=fun ri=>List.getD ((VE (.pointer (some ⟨gr,0,none⟩)))::(VE (.pointer (some ⟨gr,0,none⟩)))::(VE (.pointer (some ⟨gr,0,none⟩)))::(VE (.pointer (some ⟨gr,1,none⟩)))::(VE (.pointer (some ⟨gr,4,none⟩)))::(VE (.slice D r C))::(VE (.agg #[aa s.word.2.word.1,.int .i64 d.1]))::VA::VA::(VE (.pointer (some ⟨gr,0,none⟩)))::(VE (.pointer (some ⟨gr,1,none⟩)))::(VE (.pointer (some ⟨gr,4,none⟩)))::[]) ri VA) (T:=fun k x t=>TJ_ 86 DrC 2 B gj I [aa s.word.2.word.1,.int .i64 d.1] ⟨s.word.2.word.1,d.1⟩ r s.L.drivers k (x 7) (x 8) t) (by kernel_rfl) rfl ?_ ?_ ?_ (by decide) ?_ ?_ rfl ?_ ?_ ?_
  ·exact aw ⟨(fun _ _ _=>rfl),(fun _ _ _=>rfl),(fun _ _ _=>rfl),(fun _ _ _=>rfl),(fun _ _ _=>rfl),(fun _ _ _=>rfl),(fun _ _ _=>rfl),(fun _ _ _=>rfl),(fun _ _ _=>rfl),(fun _ _ _=>rfl),(fun _ _ _=>rfl),(fun _ _ _=>rfl),(fun h=>absurd h (by decide)),trivial⟩
  ·exact aw (bF _ 0 (by kernel_rfl))
  ·exact (fun j hj=>eU (by kernel_rfl) hj)
  ·intro j o hj z
   obtain rfl:j=0:=by omega
   injection z with z;subst z;exact ⟨⟨7,.data⟩,by simp,rfl,rfl⟩
  ·intro k x i v w hi h
   have e7:upd x i v 7=x 7:=bD _ _ (by omega);have e8:upd x i v 8=x 8:=bD _ _ (by omega);simp only [e7,e8];exact h
  ·refine aw ⟨?_,?_,?_,?_,?_,?_,?_,(fun _ h=>absurd h (by decide)),(fun _ h=>absurd h (by decide)),?_,?_,?_,(fun h=>absurd h (by decide)),trivial⟩
   intro _ _ k f t u hd K y;have m:=trivial;rotate_left;intro _ _ k f t u hd K y;have m:=trivial;rotate_left;intro _ _ k f t u hd K y;have m:f 1=_:=hd ⟨1,.data⟩ (by simp) rfl;rotate_left;intro _ _ k f t u hd K y;have m:f 2=_:=hd ⟨2,.data⟩ (by simp) rfl;rotate_left;intro _ _ k f t u hd K y;have m:f 3=_:=hd ⟨3,.data⟩ (by simp) rfl;rotate_left;intro _ _ k f t u hd K y;have m:f 4=_:=hd ⟨4,.data⟩ (by simp) rfl;have ab:=(TJ_.rd (by decide) H6.out u).cells;obtain ⟨_,ab,b8,cm,_⟩:=ab;rotate_left;intro _ _ k f t u hd K y;obtain ⟨cb,cp⟩:=(TJ_.blk P6.out u).c2;have m:=trivial;rotate_left;intro _ _ k f t u hd K y;have m:f 0=_:=hd ⟨0,.data⟩ (by simp) rfl;rotate_left;intro _ _ k f t u hd K y;have m:f 9=_:=hd ⟨9,.data⟩ (by simp) rfl;rotate_left;intro _ _ k f t u hd K y;have m:f 10=_:=hd ⟨10,.data⟩ (by simp) rfl;rotate_left
   all_goals
    (try dsimp only [wK]);(try simp only [m]);go_simp;have P:=y.out _ rfl;dsimp only [wK] at P;(try simp only [m] at P);exact P
  ·intro k o hk z
   obtain rfl | rfl:=(show k=0\/k=1 by omega)
   ·injection z with z
    subst z;intro f t u hd K y;have u:t=I.drew:=u;subst u;have ao:f 6=.agg #[aa s.word.2.word.1,.int .i64 d.1]:=hd ⟨6,.data⟩ (by simp) rfl;(try dsimp only [wK]);(try simp only [ao]);go_simp;have P:=y.out (.slice (some ⟨I.heap.size,0,none⟩) 1 1) (I.drew.alloc (.cells #[aa s.word.2.word.1,.int .i64 d.1] 86)) trivial ⟨rfl,rfl⟩;dsimp only [wK] at P;simp only [ao] at P;exact P
   injection z with z;subst z;intro f t u hd K y;obtain ⟨e7,ew⟩:TJ_ 86 DrC 2 B gj I [aa s.word.2.word.1,.int .i64 d.1] ⟨s.word.2.word.1,d.1⟩ r s.L.drivers 1 (f 7) (f 8) t:=u;subst ew;have b2:f 5=.slice D r C:=hd ⟨5,.data⟩ (by simp) rfl;obtain ⟨hl,xs,F,q⟩:=ep.out;have F:OwJ noW I.drew B 86 2 (.slice D r C) r xs:=F;have q:co DrC 2 I.drew s.L.drivers xs:=q;have c9:=H6.out.lt;have dn:=H6.out.hB;have d2:I.drew.heap.size=I.heap.size:=rfl;rw [if_pos (show Region.wanted _ _=true from rfl)];refine cA _ noW _ _ _ rfl B 86 id (.agg #[.string ⟨#[]⟩,.int .i64 0]) 2 24 Tryz.underlying24 cx.out.1 cx.out.2.1 cx.out.2.2.1 cx.out.2.2.2 rfl (by omega) rfl (.slice D r C) r xs b2 (F.belw ((Below.refl _ _).alloc Qr _)) ⟨I.heap.size,0,none⟩ 1 1 [aa s.word.2.word.1,.int .i64 d.1] e7 rfl (World.news_of_block (heap_alloc_new I.drew _)) (by simp [Value.oneCell']) rfl (by omega) (by have:=N.out.cnt;unfold maxLen;omega) (by have:=N.out.cnt;omega) (by simp;omega) ?_;intro g5 cap w5 V M _;have hp:=km hl F q (a:=⟨s.word.2.word.1,d.1⟩) (cs:=[aa s.word.2.word.1,.int .i64 d.1]) (show DrC I.drew _ (⟨s.word.2.word.1,d.1⟩:aE) from HC.out) rfl V M (by omega) (fun _ _ _ _ x=>x);exact y.out _ _ trivial ⟨some ⟨g5,0,none⟩,cap,rfl,hp.1,(P6.out.drew.alloc _).grown M ca.out,hp.2.1,((Below.refl B I).drew).trans hp.2.2⟩
  intro o z f t u hr K y;injection z with z;subst z;obtain ⟨A5,c5,e8,q,_,ht,hb⟩:TJ_ 86 DrC 2 B gj I [aa s.word.2.word.1,.int .i64 d.1] ⟨s.word.2.word.1,d.1⟩ r s.L.drivers 2 (f 7) (f 8) t:=u;have bx:f 11=.pointer (some ⟨gr,4,none⟩):=hr 11 (by decide);have RQ:=H6.out.other ht (by decide) hb;obtain ⟨_,ab,b8,cm,_,di,ec,d1⟩:=RQ.cells;rw [e8] at q;have aC:=Qh RQ;have a0:=Qh q;clear RQ q hr;(try dsimp only [wK]);(try simp only [bx,e8]);go_simp;refine y.out _ _ ?_;go_wp2_with fail;go_end0;have t1:=E.out.tchR G6.out;have t3:=aC.out.tchR (eZ (rg_refl gr t) 4 (.slice A5 (r+1) c5));have Y:=bk.out.trans (aY d.2 2 [59]);have Q:(PS.expect d.2 2 [59]).L=s.L:=Y.2.2.2.trans bf.out;have b5:=iV (s:=s) (by rw [O.out];decide);have c0:=Y.1
  have eW:W=PS.addD (PS.expect d.2 2 [59]) ⟨s.word.2.word.1,d.1⟩:=by
   rw [<- HW.out];unfold PS.item;rw [if_neg (by rw [O.out];decide),if_neg (by rw [O.out];decide),if_neg (by rw [O.out];decide),if_pos O.out];unfold PS.driver;simp only [cc.out]
  subst eW;refine ⟨rfl,⟨A,n,c,U,G,S,A5,r+1,c5,⟨?_,?_,?_,?_,?_,?_,?_⟩⟩,?_⟩
  ·show RdP B _ gr (aa (PS.expect d.2 2 [59]).L.name) _ _ _ _
   rw [Q];exact aC.out.put4 _ rfl rfl rfl
  ·show aq _ _ _ _ _ _ _ (PS.expect d.2 2 [59]).L.bodies
   rw [Q];exact ((al.out.tch t1 (by decide) (fun _ _ x=>x.tch t1 (by decide))).tch ht (by decide) (fun _ _ x=>x.tch ht (by decide))).tch t3 (by decide) (fun _ _ x=>x.tch t3 (by decide))
  ·show aq _ _ _ _ _ _ _ (PS.expect d.2 2 [59]).L.joints
   rw [Q];exact ((b1.out.tch t1 (by decide) (fun _ _ x=>x)).tch ht (by decide) (fun _ _ x=>x)).tch t3 (by decide) (fun _ _ x=>x)
  ·show aq _ _ _ _ _ _ _ ((PS.expect d.2 2 [59]).L.drivers++[⟨s.word.2.word.1,d.1⟩])
   rw [Q];exact a0.out.tch t3 (by decide) (fun _ _ x=>x)
  ·show NmL (PS.expect d.2 2 [59]).L.name
   rw [Q];exact N.out.nm
  ·show n+G+(r+1)+(PS.expect d.2 2 [59]).toks.length<=_
   have h1:=N.out.cnt;omega
  ·intro b H
   have H:b∈(PS.expect d.2 2 [59]).L.bodies:=H;rw [Q] at H;exact N.out.pts b H
  exact ((b6.out.trans (jy G6.out (by have:=E.out.lt;have:=E.out.hB;omega) E.out.hB)).trans hb).setCell (p:=⟨gr,4,none⟩) E.out.hB _
 have eq:=cr.out;clear cr;obtain ⟨Ak,nk,ck,cv,b5⟩:=E.out.blk;have cr:=Qh cv;have ea:=Qh b5;clear cv b5 eq;go_wp2_with fail;refine (fq _ gr (.slice Ak nk ck) (aa s.L.name) (.slice A n c) (.slice U G S) (.slice D r C) s.word.2.x 2 cr.out (by decide)).mono ?_;rintro e w2 ⟨rfl,aT,g2⟩;have el:=Qh aT;clear aT;go_wp2_with fail;go_end0;have t1:=E.out.tchR g2;have eW:W=s.word.2.fail 2:=by rw [<- HW.out,HK.out]
 have R2:RdP B w2 gr (aa s.L.name) (.slice A n c) (.slice U G S) (.slice D r C) (s.word.2.fail 2):=by
  have aT:=el.out;unfold PS.fail;split
  ·rename_i hx
   rw [if_pos hx] at aT;exact ⟨⟨Ak,nk,ck,aT,ea.out.rg E.out.hB g2⟩,E.out.mx.rg E.out.hB g2,E.out.hB,E.out.len,E.out.txt,E.out.hw⟩
  rename_i hx;rw [if_neg hx] at aT;exact ⟨⟨Ak,nk,ck,aT,ea.out.rg E.out.hB g2⟩,E.out.mx.rg E.out.hB g2,E.out.hB,E.out.len,E.out.txt,E.out.hw⟩
 have Y:=(aV s).trans (eX s.word.2 2 (by decide) 0);have Q:(s.word.2.fail 2).L=s.L:=Y.2.2.2;subst eW;refine ⟨rfl,⟨A,n,c,U,G,S,D,r,C,⟨by rw [Q];exact R2,?_,?_,?_,by rw [Q];exact N.out.nm,?_,by rw [Q];exact N.out.pts⟩⟩,?_⟩
 ·rw [Q];exact al.out.tch t1 (by decide) (fun _ _ x=>x.tch t1 (by decide))
 ·rw [Q];exact b1.out.tch t1 (by decide) (fun _ _ x=>x)
 ·rw [Q];exact b4.out.tch t1 (by decide) (fun _ _ x=>x)
 ·have h1:=N.out.cnt
  have h2:=Y.1;omega
 exact b6.out.trans (jy g2 (by have:=E.out.lt;have:=E.out.hB;omega) E.out.hB)
theorem zz:∀ (f:Nat) (r:List UInt8) (line col:Nat) (l:List Tkn),toks f r line col=.ok l->(l.map fun t=>t.text.length).sum<=r.length/\∀ t∈l,0<t.text.length:=by
 intro f
 induction f with
 | zero=>intro r line col l h;unfold toks at h;injection h with h;subst h;simp
 | succ f ih =>
  intro r line col l h
  cases r with
  | nil=>unfold toks at h;injection h with h;subst h;simp
  | cons c s =>
   unfold toks at h;split at h
   ·have:=ih _ _ _ _ h
    refine ⟨?_,this.2⟩;rw [List.length_cons];omega
   split at h
   ·have:=ih _ _ _ _ h
    refine ⟨?_,this.2⟩;rw [List.length_cons];omega
   split at h
   ·have:=ih _ _ _ _ h
    refine ⟨?_,this.2⟩;rw [List.length_drop] at this;omega
   split at h
   ·cases h
   rename_i k n a;have g:=eI a
   cases hx:toks f ((c::s).drop n) line (col+n) with
   | err x=>rw [hx] at h;cases h
   | ok l' =>
    rw [hx] at h;injection h with h;subst h;have:=ih _ _ _ _ hx;have b:((c::s).take n).length=n:=by rw [List.length_take];omega
    rw [List.length_drop] at this;refine ⟨?_,fun t d=>?_⟩
    ·simp only [List.map_cons,List.sum_cons,b];omega
    rcases List.mem_cons.1 d with e | e
    ·subst e;show 0<((c::s).take n).length;omega
    exact this.2 t e
theorem m8:∀ {l:List Tkn},(∀ t∈l,0<t.text.length)->l.length<=(l.map fun t=>t.text.length).sum
 | [],_=>by simp
 | t::l,h=>by
  have c:=m8 (l:=l) (fun x a=>h x (by simp [a]));have b:=h t (by simp);simp only [List.length_cons,List.map_cons,List.sum_cons];omega
theorem nc {s:List UInt8}{l:List Tkn}(h:cS s=.ok l):l.length<=s.length/\(l.map fun t=>t.text.length).sum<=s.length:=by
 obtain ⟨b,a⟩:=zz _ _ _ _ _ h;have:=m8 a;omega
theorem bh.len {s:List UInt8}{x:Int}{l:List Tkn}(h:bh s x l):l.length<=65536:=by
 rcases h with ⟨_,_,rfl⟩ | ⟨h,a,_⟩ | ⟨_,_,_,_,rfl⟩
 ·simp
 ·have:=(nc a).1;omega
 simp
def LkY (k:Nat) (w:World) (A:Option Addr) (n c:Nat) (B:Option Addr) (p d:Nat) (C:Option Addr) (q e:Nat) (L:ag):Prop :=
  ∀ (T:TypeId->Bool) (w2:World),Tch T w w2->T 51=false->T 81=false->T 86=false->T 56=false->LkS k w2 A n c B p d C q e L
theorem LkY.out {k:Nat}{w:World}{A B C:Option Addr}{n c p d q e:Nat}{L:ag}(h:LkY k w A n c B p d C q e L):LkS k w A n c B p d C q e L:=h (fun _=>false) w (Tch.refl w) rfl rfl rfl rfl
theorem LkY.tch {T:TypeId->Bool}{k:Nat}{w b:World}{A B C:Option Addr}{n c p d q e:Nat}{L:ag}(h:LkY k w A n c B p d C q e L) (t:Tch T w b) (r:T 51=false) (j:T 81=false) (l:T 86=false) (o:T 56=false):LkY k b A n c B p d C q e L:=by
 intro T2 s g i m u f;refine h (fun t=>T t||T2 t) s ((t.mono fun _ a=>by simp [a]).trans (g.mono fun _ a=>by simp [a])) ?_ ?_ ?_ ?_ <;> simp [r,j,l,o,i,m,u,f]
def iq (w:World) (v:Value) (L:ag) (e:Ending) (w':World):Prop :=
  ∃ A n c A' n' c' A'' n'' c'',e=.returned (.tuple #[.agg #[aa L.name,.slice A n c,.slice A' n' c',.slice A'' n'' c''],v])/\LkY 130 w' A n c A' n' c' A'' n'' c'' L/\Below w.heap.size w w'
theorem BX {l:List Tkn}{t:Tkn}(h:t∈l):t.text.length<=(l.map fun t=>t.text.length).sum:=by
 induction l with
 | nil=>cases h
 | cons a l ih =>
  rw [List.map_cons,List.sum_cons];rcases List.mem_cons.1 h with rfl | h
  ·omega
  have:=ih h;omega
theorem wL {s:List UInt8}{l:List Tkn}(h:bh s 0 l):∀ t∈l,NmL t.text:=by
 intro t a;rcases h with ⟨_,h,_⟩ | ⟨h,b,_⟩ | ⟨_,_,_,_,rfl⟩
 ·cases h
 ·have d:=(nc b).2
  have c:=BX a;show t.text.length<_;omega
 cases a
theorem BZ (w:World) (k:Nat):LkS k w none 0 0 none 0 0 none 0 0 L0:=⟨by show ([]:List UInt8).length<_;decide,⟨rfl,Qr,fun h=>absurd h (by omega)⟩,⟨rfl,Qr,fun h=>absurd h (by omega)⟩,⟨rfl,Qr,fun h=>absurd h (by omega)⟩⟩
theorem LkY.zero (k:Nat) (w:World):LkY k w none 0 0 none 0 0 none 0 0 L0:=fun _ a _ _ _ _ _=>BZ a k
theorem zA {w:World}{A:Option Addr}{n c:Nat}{s:List UInt8}{l:List Tkn}(f:bh s 0 l) (i:TkS w A n c l) (d:Mx w) (L:ag) (k:L.name=[]/\L.bodies=[]/\L.joints=[]/\L.drivers=[]):RdL w.heap.size (w.alloc (.cells #[.slice A n c,.string ⟨#[]⟩,.slice none 0 0,.slice none 0 0,.slice none 0 0,.nilIface] 118)) w.heap.size ⟨l,L,0⟩ none 0 0 none 0 0 none 0 0:=by
 obtain ⟨a,g,j,h⟩:=k;have hb:Below w.heap.size w (w.alloc (.cells #[.slice A n c,.string ⟨#[]⟩,.slice none 0 0,.slice none 0 0,.slice none 0 0,.nilIface] 118)):=(Below.refl _ _).alloc Qr _;refine ⟨⟨⟨A,n,c,?_,(TkA.of_tks i).belB hb⟩,(MxA.of_mx d).belB hb,Qr,f.len,wL f,by rw [a];exact ⟨rfl,rfl,rfl,rfl⟩⟩,by rw [g];exact aq.nil,by rw [j];exact aq.nil,by rw [h];exact aq.nil,by rw [a];show ([]:List UInt8).length<_;decide,?_,by rw [g];intro b hb;cases hb⟩
 ·rw [a];exact Blk.new _ _ _
 have:=f.len;show 0+0+0+l.length<=_;omega
theorem RdL.lk {B:Nat}{w:World}{gr:Nat}{s:PS}{A i b:Option Addr}{n c f g d a:Nat}(h:RdL B w gr s A n c i f g b d a):LkS 130 w A n c i f g b d a s.L:=⟨h.nm,h.bd.bds,h.jt.jts,h.dr.drs⟩
theorem RdL.call {B:Nat}{w j:World}{gr:Nat}{s g:PS}{A m d:Option Addr}{n c i l a b:Nat}(h:RdL B w gr s A n c m i l d a b) (o:RdP B j gr (aa s.L.name) (.slice A n c) (.slice m i l) (.slice d a b) g) (k:w.grownBy j (some gr)) (f:g.L=s.L) (p:g.toks.length<=s.toks.length):RdL B j gr g A n c m i l d a b:=by
 have t:=h.rd.tchR k;exact ⟨by rw [f];exact o,by rw [f];exact h.bd.tch t (by decide) (fun _ _ x=>x.tch t (by decide)),by rw [f];exact h.jt.tch t (by decide) (fun _ _ x=>x),by rw [f];exact h.dr.tch t (by decide) (fun _ _ x=>x),by rw [f];exact h.nm,by have:=h.cnt;omega,by rw [f];exact h.pts⟩
theorem RdL.below {B:Nat}{w f:World}{gr:Nat}{s:PS}{A j b:Option Addr}{n c g i d a:Nat}(h:RdL B w gr s A n c j g i b d a) (k:w.grownBy f (some gr)):Below B w f:=jy k (by have:=h.rd.lt;have:=h.rd.hB;omega) h.rd.hB
theorem RdL.name {B:Nat}{w:World}{gr:Nat}{s:PS}{A i d:Option Addr}{n c f g a b:Nat}(h:RdL B w gr s A n c i f g d a b) (nm:List UInt8) (j:NmL nm):RdL B (w.setCell ⟨gr,1,none⟩ (aa nm)) gr { s with L:={ s.L with name:=nm } } A n c i f g d a b:=by
 have t:=h.rd.tchR (eZ (rg_refl gr w) 1 (aa nm));exact ⟨h.rd.put1 _ rfl rfl rfl,h.bd.tch t (by decide) (fun _ _ x=>x.tch t (by decide)),h.jt.tch t (by decide) (fun _ _ x=>x),h.dr.tch t (by decide) (fun _ _ x=>x),j,h.cnt,h.pts⟩
theorem RdL.belw {B:Nat}{w f:World}{gr:Nat}{s:PS}{A j d:Option Addr}{n c g i a b:Nat}(h:RdL B w gr s A n c j g i d a b) (k:Below w.heap.size w f):RdL B f gr s A n c j g i d a b:=by
 have t:Tch (fun _=>false) w f:=Tch.below k;exact ⟨h.rd.belw k,h.bd.tch t rfl (fun _ _ x=>x.tch t rfl),h.jt.tch t rfl (fun _ _ x=>x),h.dr.tch t rfl (fun _ _ x=>x),h.nm,h.cnt,h.pts⟩
theorem RdL.lkY {B:Nat}{w g:World}{gr:Nat}{s:PS}{A j d:Option Addr}{n c f i a b:Nat}(h:RdL B w gr s A n c j f i d a b) (t:Tch (bi 26) w g):LkY 130 g A n c j f i d a b s.L:=by
 intro T z l y m o r;have u:Tch (fun x=>bi 26 x||T x) w z:=(t.mono fun _ k=>by simp [k]).trans (l.mono fun _ k=>by simp [k]);have p:(bi 26 51||T 51)=false:=by rw [y];decide
 have C:(bi 26 81||T 81)=false:=by rw [m];decide
 have q:(bi 26 86||T 86)=false:=by rw [o];decide
 have v:(bi 26 56||T 56)=false:=by rw [r];decide
 exact ⟨h.nm,(h.bd.tch u p (fun _ _ x=>x.tch u v)).bds,(h.jt.tch u C (fun _ _ x=>x)).jts,(h.dr.tch u q (fun _ _ x=>x)).drs⟩
theorem lm {w:World}{g:Nat}{t:TypeId}{b d c f:Value}(z:Blk w g t #[b,d,c,f]) (l:noW b=true/\noW d=true/\noW c=true/\noW f=true) (j k h i:Value):Tch (bi t) w ((((w.setCell ⟨g,0,none⟩ j).setCell ⟨g,1,none⟩ k).setCell ⟨g,2,none⟩ h).setCell ⟨g,3,none⟩ i) :=
 Tch.of_ne (by simp [World.setCell]) z (by simp [bi]) (by simp [l]) fun m _ a=>by
  rw [Below.heap_setCell _ _ _ _ a,Below.heap_setCell _ _ _ _ a,Below.heap_setCell _ _ _ _ a,Below.heap_setCell _ _ _ _ a]
theorem cO {B g:Nat}{a w:World}(h:Below B a w) (hB:B<=g) (d f c b:Value):Below B a ((((w.setCell ⟨g,0,none⟩ d).setCell ⟨g,1,none⟩ f).setCell ⟨g,2,none⟩ c).setCell ⟨g,3,none⟩ b) :=
 (((h.setCell (p:=⟨g,0,none⟩) hB d).setCell (p:=⟨g,1,none⟩) hB f).setCell (p:=⟨g,2,none⟩) hB c).setCell (p:=⟨g,3,none⟩) hB b
theorem sh (w:World) (s:List UInt8) (x:Int) (l:List Tkn) (f:bh s x l) (b:x≠0):Calls Tryz.prog 35 #[aa s] w (iq w (bo x) L0):=by
 have i:=Qh f;have k:=Qh b;rw [eVp b];clear f b;go_in;go_wp2_with fail;refine (lj _ s x l i.out).mono ?_;rintro e g ⟨A,n,c,rfl,_,a⟩;rw [eVp k.out];have d:Blk g w.heap.size 26 #[.string ⟨#[]⟩,.slice none 0 0,.slice none 0 0,.slice none 0 0]:=(ak _ _ _ (by simp)).below a (by simp);have h:=d.c4;have j:=d.f4;have q1:=a.q1;clear a d;go_wp2_with fail;refine bodyPost_ret (v:=.tuple #[.agg #[.string ⟨#[]⟩,.slice none 0 0,.slice none 0 0,.slice none 0 0],.iface 58 (.int .i64 x)]) (by simp [results,Tryz.results35,go_sem, *] <;> trivial) rfl ?_;exact ⟨_,_,_,_,_,_,_,_,_,rfl,LkY.zero _ _,(((q1.setCell (p:=⟨w.heap.size,0,none⟩) Qr _).setCell (p:=⟨w.heap.size,1,none⟩) Qr _).setCell (p:=⟨w.heap.size,2,none⟩) Qr _).setCell (p:=⟨w.heap.size,3,none⟩) Qr _⟩
theorem ir (w:World) (s:List UInt8) (l:List Tkn) (aC:Mx w) (hs:bh s 0 l) (x:Int) (L:ag) (h:((cE l).x≠0/\x=(cE l).x/\L=L0)\/((cE l).x=0/\aG (cE l).L≠0/\x=aG (cE l).L/\L=L0)\/((cE l).x=0/\aG (cE l).L=0/\x=0/\L=(cE l).L)):Calls Tryz.prog 35 #[aa s] w (iq w (bo x) L):=by
 have HS:=Qh hs;have HM:=Qh aC;obtain ⟨R,hR⟩:∃ R,cE l=R:=⟨_,rfl⟩;rw [hR] at h;have HR:=Qh hR;have HH:=Qh h;clear hs aC hR h;go_in;go_wp2_with fail;refine (lj _ s 0 l HS.out).mono ?_;rintro e w1 ⟨A,n,c,rfl,ht,O⟩;rw [aO];have z1:Blk w1 w.heap.size 26 #[.string ⟨#[]⟩,.slice none 0 0,.slice none 0 0,.slice none 0 0]:=(ak _ _ _ (by simp)).below O (by simp);have q1:=O.q1;have o:=z1.lt;have H1:=Qh (zA HS.out ht (HM.out.belw q1) L0 ⟨rfl,rfl,rfl,rfl⟩);have Z1:=Qh (z1.alloc (.cells #[.slice A n c,.string ⟨#[]⟩,.slice none 0 0,.slice none 0 0,.slice none 0 0,.nilIface] 118));have Q1:=Qh (q1.alloc q1.size (.cells #[.slice A n c,.string ⟨#[]⟩,.slice none 0 0,.slice none 0 0,.slice none 0 0,.nilIface] 118));clear O z1 q1 ht;go_wp2_with fail;refine (oY w1.heap.size _ w1.heap.size _ _ _ _ ⟨l,L0,0⟩ H1.out.rd 0 0 rfl [108,105,110,107,97,103,101]).mono ?_;rintro e w2 ⟨rfl,h2,M⟩;have E:=Qh (H1.out.call h2 M (aY _ 0 _).sameL (aY _ 0 _).1);have B2:=H1.out.below M;have Z2:=Qh (Z1.out.below B2 o);have Q2:=Qh (Q1.out.trans (B2.mono (by omega)));have bb:=h2.lt;clear h2 M B2 Z1 Q1 H1;generalize bv:w1.heap.size=gr at o E bb ⊢;have aT:(⟨l,L0,0⟩:PS).expect 0 [108,105,110,107,97,103,101]=(⟨l,L0,0⟩:PS).expect 0 aP:=rfl;rw [aT] at E;clear aT;have t:=HR.out;unfold cE at t;simp only at t;have r:=aY (⟨l,L0,0⟩:PS) 0 aP;generalize (⟨l,L0,0⟩:PS).expect 0 aP=s1 at E t r;have J:=Qh t;have F:=Qh r;clear t r HR;go_wp2_with fail;refine (dK gr _ gr _ _ _ _ s1 E.out.rd).mono ?_;rintro e w3 ⟨rfl,P,H⟩;have al:=gF E.out.rd.txt;have H3:=Qh (E.out.call P H (aV _).sameL (aV _).1);have B3:=E.out.below H;have Z3:=Qh (Z2.out.below B3 o);have Q3:=Qh (Q2.out.trans (B3.mono (by omega)));have C:=Qh (H3.out.name s1.word.1 al);have br:=P.lt;obtain ⟨bf,_,_,_,bd,_⟩:=P.cells;clear P H B3 al;go_wp2_with fail;clear bf bd;refine (eE gr _ gr _ _ _ _ _ C.out.rd [59]).mono ?_;rintro e w4 ⟨rfl,h4,K⟩;have H4:=Qh (C.out.call h4 K (aY _ 2 _).sameL (aY _ 2 _).1);have B4:=C.out.below K;have ac:=Z3.out.far (p:=⟨gr,1,none⟩) (by show w.heap.size≠gr;omega) (aa s1.word.1);have Z4:=Qh (ac.below B4 o);have Q4:=Qh ((Q3.out.setCell (p:=⟨gr,1,none⟩) (by show w.heap.size<=gr;omega) (aa s1.word.1)).trans (B4.mono (by omega)))
 have Y:s1.word.2.toks.length<l.length+1:=by
  have h1:=F.out.1;have h2:=(aV s1).1;have P:s1.toks.length<=l.length:=h1;omega
 have u:=(aY (⟨s1.word.2.toks,⟨s1.word.1,s1.word.2.L.bodies,s1.word.2.L.joints,s1.word.2.L.drivers⟩,s1.word.2.x⟩:PS) 2 [59]).1;clear h4 K B4 C H3 E Z2 Q2 Z3 Q3 ac F;generalize (⟨s1.word.2.toks,⟨s1.word.1,s1.word.2.L.bodies,s1.word.2.L.joints,s1.word.2.L.drivers⟩,s1.word.2.x⟩:PS).expect 2 [59]=s4 at H4 J u
 have y:s4.toks.length<l.length+1:=by
  have P:s4.toks.length<=s1.word.2.toks.length:=u;omega
 clear u Y;go_wp2_with fail;go_loopw [] (fun wr=>∃ f q A n c U Q T m k j,RdL gr wr gr q A n c U Q T m k j/\(q.x=0->q.toks.length<f)/\Hid (PS.items f q=R)/\Below w.heap.size w wr/\Blk wr w.heap.size 26 #[.string ⟨#[]⟩,.slice none 0 0,.slice none 0 0,.slice none 0 0]) (fun wr=>mOf gr wr)
 case atStart=>exact ⟨l.length+1,s4,_,_,_,_,_,_,_,_,_,H4.out,fun _=>y,J,Q4.out,Z4.out⟩
 case round =>
  clear H4 J Q4 Z4 y;obtain ⟨f,q,A,n,c,U,Q,T,m,k,j,a0,hf,ab,hq,hz⟩:=hrel;rename World=>wr;have b:=Qh a0;have HQ:=Qh hq;have HZ:=Qh hz;have HF:=Qh hf;clear a0 hq hz hf;by_cases z:q.x=0/\q.toks≠[]
  ·have g:=Qh z
   clear z;go_wp2_with fail;refine (uF gr _ gr _ _ _ _ q b.out.rd true (by simp only [g.out,and_self,decide_true,ne_eq,not_false_eq_true])).mono ?_;rintro e w5 ⟨rfl,I,i⟩;have X:=Qh (b.out.call I i rfl Qr);have B5:=b.out.below i;clear I i;go_wp2_with fail;refine (BV gr _ gr q A n c U Q T m k j X.out).mono ?_;rintro e w6 ⟨rfl,⟨A5,n5,c5,A6,n6,c6,A7,n7,c7,h6⟩,a⟩;have V:=Qh h6;have B6:=B5.trans a;clear h6 a;go_wp2_with fail;have N:=rU q;have bs:=HF.out g.out.1;have an:=mY (f:=f) (by omega) g.out;rw [ab.out] at an;go_roundw
   case rel=>exact ⟨f-1,q.item,_,_,_,_,_,_,_,_,_,V.out,fun d=>by have:=N.2 d;omega,Qh an.symm,HQ.out.trans (B6.mono (by omega)),HZ.out.below B6 o⟩
   case measure =>
    rw [V.out.rd.meas,b.out.rd.meas,if_pos g.out.1];have h8:=N.1;by_cases d:q.item.x=0
    ·have h9:=N.2 d
     rw [if_pos d];omega
    rw [if_neg d];omega
  have D:=oW (f:=f) z;rw [ab.out] at D;subst D;have g:=Qh z;clear z;go_wp2_with fail;refine (uF gr _ gr _ _ _ _ R b.out.rd false (decide_eq_false g.out)).mono ?_;rintro e w5 ⟨rfl,I,i⟩;have B5:=b.out.below i;have X:=Qh (b.out.call I i rfl Qr);have S:=Qh (HQ.out.trans (B5.mono (by omega)));have z5:=HZ.out.below B5 o;have Z5:=Qh z5;obtain ⟨D5,m5,d5,a1,_⟩:=I.blk;obtain ⟨_,g1,g2,g3,g4,g5⟩:=a1.c6;have bu:=I.lt;obtain ⟨Z,aS,W,a2⟩:=z5.c4;obtain ⟨ao,a3,a4,ad⟩:=z5.f4;have bn:¬ gr=w.heap.size:=by omega
  clear I i B5 z5 a1 b HQ HZ g HF;rcases HH.out with ⟨d,rfl,rfl⟩ | ⟨d,hc,rfl,rfl⟩ | ⟨d,hc,rfl,rfl⟩
  ·rw [eVp d] at g5
   have HX:=Qh d;clear d;go_wp2_with fail;go_region
   all_goals
    go_wp2_with fail;refine bodyPost_ret (v:=.tuple #[.agg #[.string ⟨#[]⟩,.slice none 0 0,.slice none 0 0,.slice none 0 0],.iface 58 (.int .i64 R.x)]) (by simp [results,Tryz.results35,go_sem, *] <;> trivial) rfl ?_;rw [eVp HX.out];exact ⟨_,_,_,_,_,_,_,_,_,rfl,LkY.zero _ _,by first | exact cO S.out Qr _ _ _ _ | exact cO S.out.drew Qr _ _ _ _⟩
  ·rw [d,aO] at g5
   clear d;have B:=Qh hc;clear hc;go_wp2_with fail;refine (dJ _ A n c U Q T m k j R.L 130 X.out.lk (by decide) (by decide) _ rfl).mono ?_;rintro e w6 ⟨rfl,a⟩;rw [eVp B.out];have G:=Z5.out.below a (by omega);obtain ⟨a8,bk,a9,a5⟩:=G.c4;obtain ⟨a6,bg,a7,bl⟩:=G.f4;have Q6:=Qh (S.out.trans (a.mono S.out.size));clear a G Z aS W a2 ao a3 a4 ad g1 g2 g3 g4 g5;go_wp2_with fail;refine bodyPost_ret (v:=.tuple #[.agg #[.string ⟨#[]⟩,.slice none 0 0,.slice none 0 0,.slice none 0 0],.iface 58 (.int .i64 (aG R.L))]) (by simp [results,Tryz.results35,go_sem, *] <;> trivial) rfl ?_;rw [eVp B.out];exact ⟨_,_,_,_,_,_,_,_,_,rfl,LkY.zero _ _,cO Q6.out Qr _ _ _ _⟩
  rw [d,aO] at g5;clear d;have B:=Qh hc;clear hc;go_wp2_with fail;refine (dJ _ A n c U Q T m k j R.L 130 X.out.lk (by decide) (by decide) 0 B.out).mono ?_;rintro e w6 ⟨rfl,a⟩;rw [aO];have G:=Z5.out.below a (by omega);obtain ⟨a8,bk,a9,a5⟩:=G.c4;obtain ⟨a6,bg,a7,bl⟩:=G.f4;have V:=Qh (X.out.belw a);have Z6:=Qh G;obtain ⟨k1,k2,k3,k4,_⟩:=V.out.rd.cells;have Q6:=Qh (S.out.trans (a.mono S.out.size));clear a G Z aS W a2 ao a3 a4 ad g1 g2 g3 g4 g5;go_wp2_with fail;refine bodyPost_ret (v:=.tuple #[.agg #[aa R.L.name,.slice A n c,.slice U Q T,.slice m k j],.nilIface]) (by simp [results,Tryz.results35,go_sem, *] <;> trivial) rfl ?_;exact ⟨_,_,_,_,_,_,_,_,_,rfl,V.out.lkY (lm Z6.out ⟨rfl,rfl,rfl,rfl⟩ _ _ _ _),cO Q6.out Qr _ _ _ _⟩
theorem si (w:World) (s:List UInt8) (x:Int) (L:ag) (b:Mx w) (h:dk s x L):Calls Tryz.prog 35 #[aa s] w (iq w (bo x) L):=by
 rcases h with ⟨l,a,d,rfl⟩ | ⟨l,a,c,d,rfl⟩ | ⟨l,a,c,f,d,rfl⟩ | ⟨l,a,c,f,rfl,rfl⟩
 ·exact sh w s x l a d
 ·exact ir w s l b a x L0 (.inl ⟨by rw [c];exact d,c.symm,rfl⟩)
 ·exact ir w s l b a x L0 (.inr (.inl ⟨c,by rw [f];exact d,f.symm,rfl⟩))
 exact ir w s l b a 0 _ (.inr (.inr ⟨c,f,rfl,rfl⟩))
theorem dj.nm {b:BodyL}(h:dj b):b.name.length<=1000:=by have:=h.1;omega
theorem dj.mks {b:BodyL}(h:dj b):∀ m∈b.pts,m.name.length<=1000:=fun m a=>by have:=(h.2.2 m a).1;omega
theorem dj.np {b:BodyL}(h:dj b):b.pts.length<=8:=h.2.1
theorem Sees.al {a w:World}(h:Below a.heap.size a w) (o:Obj):Sees a.heap.size a (w.alloc o):=Sees.of Qr (h.alloc h.size o)
theorem Blk.strs {w:World}{g t:Nat}{l:List (List UInt8)}(h:Blk w g t (fY l).toArray) (k:Nat) (x:List UInt8) (a:l[k]?=some x):w.cell? ⟨g,k,none⟩=some (aa x):=by
 rw [h.cell k,List.getElem?_toArray];unfold fY;rw [List.getElem?_map,a];rfl
theorem Blk.owns {w:World}{base g t n:Nat}{l:List (List UInt8)}(h:Blk w g t (fY l).toArray) (hb:base<=g) (a:l.length=n) (b:n<=1000):w.ownsRow base t 1 (.slice (some ⟨g,0,none⟩) n n) n (fY l):=by
 subst a;exact ⟨by simp [fY],.inr ⟨g,_,_,rfl,hb,h,Qr,by unfold maxLen;omega,by simp [fY],by rw [List.take_of_length_le (by simp [fY])]⟩⟩
theorem wM {w:World}{base t n g cap:Nat}{l:List (List UInt8)}(h:w.ownsRow base t 1 (.slice (some ⟨g,0,none⟩) n cap) n (fY l)):n<=cap/\∀ (k:Nat) x,l[k]?=some x->w.cell? ⟨g,k,none⟩=some (aa x):=by
 rcases h.2 with ⟨a,_⟩ | ⟨m,c,cur,a,_,i,d,_,_,f⟩
 ·cases a
 injection a with a _ h1';injection a with a;injection a with a;subst a h1';refine ⟨d,fun k x j=>?_⟩;rw [cell_of_row w g k cur _ (0,0) i];have b:(fY l)[k]?=some (aa x):=by unfold fY;rw [List.getElem?_map,j];rfl
 rw [<- f,List.getElem?_take] at b;split at b
 ·simpa using b
 cases b
abbrev SD (g g1 g2 o2:Nat) (a0 a1 a2 a3:Value) (w:World):Prop:=w.cell? ⟨g,0,none⟩=some a0/\w.cell? ⟨g,1,none⟩=some a1/\w.cell? ⟨g1,1,none⟩=some a2/\w.cell? ⟨g2,o2,none⟩=some a3
theorem SlS.bodyShort {w:World}{A:Option Addr}{n c:Nat}{l:List BodyL}(h:SlS (dV 500) 2 w A n c l) (k:∀ b∈l,dj b):∀ b∈l,∀ m∈b.pts,iP m:=by
 intro b hb;obtain ⟨i,j,e⟩:=List.getElem_of_mem hb;obtain ⟨g,o,a,_,_,_,d,f⟩:=h.at_ (i:=i) (by rw [<- h.1];exact j);rw [List.getElem?_eq_getElem j] at d;injection d with d;rw [<- d,e] at f;obtain ⟨t,r,s,_,_,p,_⟩:=f;exact p.short fun m q=>by have:=((k b hb).2.2 m q).1;omega
theorem SlS.lineLen {w:World}{A:Option Addr}{n c:Nat}{l:List BodyL}(h:SlS (dV 500) 2 w A n c l) (a:∀ b∈l,dj b):∀ b∈l,(bQ b).length<=180000:=fun b hb=>pS (a b hb).1 (a b hb).2.1 (h.bodyShort a b hb)
theorem zB (w:World) (A:Option Addr) (n c:Nat) (B:Option Addr) (p d:Nat) (C:Option Addr) (q e:Nat) (L:ag) (h:LkS 500 w A n c B p d C q e L) (i:aG L≠0):Calls Tryz.prog 34 #[.agg #[aa L.name,.slice A n c,.slice B p d,.slice C q e]] w (fun j k=>j=.returned (.tuple #[aa [],bo (aG L)])/\Below w.heap.size w k):=by
 obtain ⟨x,g⟩:∃ x,aG L=x:=⟨_,rfl⟩;rw [g] at i ⊢;have m:=Qh g;have H:=Qh h;have a:bo x=.iface 58 (.int .i64 x):=if_neg i;rw [a];have l:=Qh a;clear h g a;go_in;go_wp2_with fail;have f:Below w.heap.size w (w.alloc (.cells #[aa L.name,.slice A n c,.slice B p d,.slice C q e] 26)):=(ae w).alloc Qr _;refine (dJ _ A n c B p d C q e L 500 (H.out.belw f) (by decide) (by decide) x m.out).mono ?_;rintro j o ⟨rfl,b⟩;rw [l.out];have q1:=f.trans (b.mono f.size);clear b;go_wp2_with fail;go_ret2;exact ⟨rfl,q1⟩
theorem B8 (w:World) (A:Option Addr) (n c:Nat) (B:Option Addr) (p d:Nat) (C:Option Addr) (q e:Nat) (L:ag) (h:LkS 500 w A n c B p d C q e L) (cr:Tab w) (hc:aG L=0):Calls Tryz.prog 34 #[.agg #[aa L.name,.slice A n c,.slice B p d,.slice C q e]] w (fun V w'=>V=.returned (.tuple #[aa (dI L),bo (cg L)])/\Below w.heap.size w w'):=by
 have hk:=rP hc;have br:=h.bodies.1;have bw:=h.joints.1;have b6:=h.drivers.1;have f5:=hk.nb;have gt:=hk.nj;have go:=hk.nd;have gT:=hk.b0;have hU:=h.bodies.2.1;have ik:=h.joints.2.1;have id:=h.drivers.2.1;have hO:L.name.length<=24:=hk.name;have ib:=aJ L.name;rw [br] at f5 gT;rw [bw] at gt;rw [b6] at go;have ed:=gB bQ 180000 L.bodies (h.bodies.lineLen hk.body);have ec:=gB (aW L.bodies) 200 L.joints fun j hj=>jr hk.body (hk.joint j hj).1
 have cL:=gB (bq L.bodies) 60 L.drivers fun d hd=>mT hk.body (hk.driver d hd).1
 rw [br] at ed;rw [bw] at ec;rw [b6] at cL;obtain ⟨h1,cc⟩:∃ t,[108,105,110,107,97,103,101,32]++L.name=t:=⟨_,rfl⟩;have hA:=cR ([108,105,110,107,97,103,101,32]) (L.name);rw [cc] at hA;have hD:h1.length=8+L.name.length:=by rw [<- cc,List.length_append];try simp
 have hV:(9223372036854775807<8+L.name.length)=False:=eq_false (by omega);have hS:=aJ h1;obtain ⟨h2,bv⟩:∃ t,h1++[59,10]=t:=⟨_,rfl⟩;have hp:=cR (h1) ([59,10]);rw [bv] at hp;have fr:h2.length=h1.length+2:=by rw [<- bv,List.length_append];try simp
 have h0:(9223372036854775807<h1.length+2)=False:=eq_false (by omega);have h6:=aJ h2;have ih:h2.length<=34:=by omega
 obtain ⟨S1,b1⟩:∃ S,h2++L.bodies.flatMap bQ=S:=⟨_,rfl⟩;obtain ⟨S2,cb⟩:∃ S,S1++L.joints.flatMap (aW L.bodies)=S:=⟨_,rfl⟩;obtain ⟨S3,b5⟩:∃ S,S2++L.drivers.flatMap (bq L.bodies)=S:=⟨_,rfl⟩;have cn:S1.length<=34+180000*n:=by rw [<- b1,List.length_append];omega
 have cs:S2.length<=34+180000*n+200*p:=by rw [<- cb,List.length_append];omega
 have cp:S3.length<=34+180000*n+200*p+60*q:=by rw [<- b5,List.length_append];omega
 have eD:bX L=S3:=by
  rw [<- b5,<- cb,<- b1,<- bv,<- cc];unfold bX mS;simp
 have H:=Qh h;have HK:=Qh hk;have HC:=Qh hc;have bg:=Qh cr;have fa:=Qh b1;have gD:=Qh cb;have g0:=Qh b5;have eg:=Qh eD;have ho:=Qh ed;have gl:=Qh ec;have ha:=Qh cL;have ek:=Qh br;have gO:=Qh bw;have g9:=Qh b6;have g6:=Qh cn;have f7:=Qh cs;have hW:=Qh cp;clear h hk hc cr b1 cb b5 eD ed ec cL br bw b6 cc bv hD fr cn cs cp;go_in;go_wp2_with fail;have q0:Below w.heap.size w (w.alloc (.cells #[aa L.name,.slice A n c,.slice B p d,.slice C q e] 26)):=(ae w).alloc Qr _;have x0:Blk (w.alloc (.cells #[aa L.name,.slice A n c,.slice B p d,.slice C q e] 26)) w.heap.size 26 #[aa L.name,.slice A n c,.slice B p d,.slice C q e]:=ak _ _ _ rfl;refine (dJ _ A n c B p d C q e L 500 (H.out.belw q0) (by decide) (by decide) 0 HC.out).mono ?_;rintro V s ⟨rfl,ee⟩;rw [show bo 0=.nilIface from if_pos rfl];have q1:=q0.trans (ee.mono q0.size);have x1:=x0.below ee x0.lt;have r:w.heap.size<s.heap.size:=x1.lt;have gd:=x1.cell 0;clear ee q0 x0;go_wp2_with fail;clear gd;have B1:Bu s.heap.size s.heap.size (s.alloc (.cells #[.pointer none,.slice none 0 0] 104)) []:=Bu.new;have qa:Below s.heap.size s (s.alloc (.cells #[.pointer none,.slice none 0 0] 104)):=(ae s).alloc Qr _;have W:=x1.below qa x1.lt;refine (dW _ _ _ _ h2 B1 (by simp only [List.length_nil];omega)).mono ?_;rintro V w2 ⟨rfl,B2,q2,_⟩;rw [List.nil_append] at B2;have q2:=qa.trans q2;have x2:=x1.below q2 x1.lt;have cx:=q1.trans (q2.mono q1.size);have a4:=Qh B2;have ft:=x2.cell 1;clear qa W B1 B2 q1 x1;go_wp2_with fail;clear ft;go_loopw [26] (fun iv wr=>∃ i:Nat,iv=.int .i64 (i:Nat)/\i<=n/\Hid (Bu s.heap.size s.heap.size wr (h2++(L.bodies.take i).flatMap bQ))/\Below s.heap.size w2 wr) (fun iv _=>n-(intOf iv).toNat)
 case atStart=>exact ⟨0,rfl,Nat.zero_le _,by simpa using a4,Below.refl _ _⟩
 case round =>
  clear a4;obtain ⟨i,rfl,hi,G,hb⟩:=hrel;rename World=>wa;have W:=x2.below hb r;have f:=cx.trans (hb.mono (Nat.le_of_lt r));rcases Nat.lt_or_ge i n with f0 | hs
  ·have fy:((i:Int)<(n:Int))=True:=by simp;omega
   obtain ⟨g,o,b,e1,hg,_,z,hf⟩:=(H.out.bodies.bd f).at_ f0;subst e1;have a0:=HK.out.body b (List.mem_of_getElem? z);have ht:=(H.out.bodies.bd f).bodyShort HK.out.body b (List.mem_of_getElem? z);obtain ⟨A',n',c',d0,d1,hM,_⟩:=hf;have u:=iQ bQ z;have m:=fT bQ L.bodies (i+1);rw [u,List.length_append] at m;obtain ⟨T,hT⟩:∃ T,bK b=T:=⟨_,rfl⟩;obtain ⟨T1,bY⟩:∃ t,T++[10]=t:=⟨_,rfl⟩;have ac:bQ b=T1:=by rw [<- bY,<- hT];rfl
   rw [ac] at u m;have gm:=cR T [10];rw [bY] at gm;have dn:T1.length=T.length+1:=by rw [<- bY,List.length_append];rfl
   have h9:=ho.out;have hQ:(9223372036854775807<T.length+1)=False:=eq_false (by omega);have hZ:=aJ T;have O:(h2++(L.bodies.take i).flatMap bQ).length+T1.length<=140737488355328:=by rw [List.length_append];omega
   have HW:=Qh O;have Z:Hid (h2++(L.bodies.take (i+1)).flatMap bQ=h2++(L.bodies.take i).flatMap bQ++T1):=Qh (by rw [u,List.append_assoc]);have HT:=Qh hT;have HM:=Qh hM;have en:=Qh a0;have c0:=a0.2.1;rw [hM.1] at c0;clear z a0 ht hM u m hT bY ac dn h9 O;have el:g<wa.heap.size:=hg;go_wp2_with fail;have xp:Blk (wa.alloc (.cells #[aa b.name,.slice A' n' c'] 51)) wa.heap.size 51 #[aa b.name,.slice A' n' c']:=ak _ _ _ rfl;have M:Below wa.heap.size wa (wa.alloc (.cells #[aa b.name,.slice A' n' c'] 51)):=(ae wa).alloc Qr _;have I:=Qh (G.out.belw M);have bs:=Qh ((bg.out.belw f).belw M);have eA:=Qh (HM.out.mk_ M);have a9:s.heap.size<wa.heap.size:=G.out.lt;clear G HM d0 d1;generalize (wa.alloc (.cells #[aa b.name,.slice A' n' c'] 51))=wb at xp M I bs eA ⊢;refine (DA _ A' n' c' b eA.out bs.out (by omega) en.out.nm en.out.mks T HT.out).mono ?_;rintro V wc ⟨rfl,qc⟩;have gs:=aj M qc;go_wp2_with fail;refine (dW _ _ _ _ T1 (I.out.belw qc) HW.out).mono ?_;rintro V wd ⟨rfl,Bd,qd,_⟩;have gq:Hid (Bu s.heap.size s.heap.size wd (h2++(L.bodies.take (i+1)).flatMap bQ)):=Qh (by rw [Z.out];exact Bd);have bd:=(hb.trans (gs.mono (Nat.le_of_lt a9))).trans qd;clear Bd Z;go_wp2_with fail;go_roundw
   case rel=>exact ⟨i+1,by go_num,by omega,gq,bd⟩
   case measure=>simp [intOf];omega
  have fy:((i:Int)<(n:Int))=False:=by simp;omega
  have Q:L.bodies.take i=L.bodies:=List.take_of_length_le (by rw [ek.out];exact hs);rw [Q,fa.out] at G;have e5:=G;have hm:=W.cell 2;clear Q G;go_wp2_with fail;clear hm;go_loopw [38] (fun iv wr=>∃ U:Nat,iv=.int .i64 (U:Nat)/\U<=p/\Hid (Bu s.heap.size s.heap.size wr (S1++(L.joints.take U).flatMap (aW L.bodies)))/\Below s.heap.size w2 wr) (fun iv _=>p-(intOf iv).toNat)
  case atStart=>exact ⟨0,rfl,Nat.zero_le _,by simpa using e5,hb⟩
  case round =>
   clear e5 W f hb;obtain ⟨U,rfl,h7,G,hb⟩:=hrel;rename World=>wj;have W:=x2.below hb r;have f:=cx.trans (hb.mono (Nat.le_of_lt r));rcases Nat.lt_or_ge U p with e7 | ex
   ·have hE:((U:Int)<(p:Int))=True:=by simp;omega
    obtain ⟨g,o,j,e1,hg,_,z,f6⟩:=(H.out.joints.jt f).at_ e7;subst e1;have a0:=HK.out.joint j (List.mem_of_getElem? z);obtain ⟨gv,ja,jb,jp,jo,x,y,m1,m2,ea,eb,ep,eo,hx,hy,cm,b8,eq⟩:=a0;obtain ⟨d0,d1,d2,d3,d4,d5,d6,_⟩:=f6;obtain ⟨F1,d9⟩:∃ F,x.name++46::m1.name=F:=⟨_,rfl⟩;obtain ⟨F2,dq⟩:∃ F,y.name++46::m2.name=F:=⟨_,rfl⟩;have c1:=HK.out.body x (List.mem_of_getElem? hx);have D:=HK.out.body y (List.mem_of_getElem? hy);have a7:=Qh (And.intro hx (And.intro cm (And.intro c1.nm (And.intro (c1.mks m1 (List.mem_of_getElem? cm)) d9))));have bf:=Qh (And.intro hy (And.intro b8 (And.intro D.nm (And.intro (D.mks m2 (List.mem_of_getElem? b8)) dq))));have e8:gJ L.bodies j.a j.point=F1:=by rw [ea,ep,lV hx cm,d9]
    have em:gJ L.bodies j.b j.on=F2:=by rw [eb,eo,lV hy b8,dq]
    have u:=iQ (aW L.bodies) z;have m:=fT (aW L.bodies) L.joints (U+1);rw [u,List.length_append] at m;have eh:=jr HK.out.body gv;rw [ea] at d2;rw [ep] at d3;rw [eb] at d4;rw [eo] at d5;have h3:=aJ j.name;have el:g<wj.heap.size:=hg;have h9:=gl.out;have h8:=g6.out;have O:(S1++(L.joints.take U).flatMap (aW L.bodies)).length+(aW L.bodies j).length<=140737488355328:=by rw [List.length_append];omega
    have HW:=Qh O;have Z:Hid (S1++(L.joints.take (U+1)).flatMap (aW L.bodies)=S1++(L.joints.take U).flatMap (aW L.bodies)++aW L.bodies j):=Qh (by rw [u,List.append_assoc]);have aS:=Qh (And.intro e8 (And.intro em eh));have hz:=Qh eq;have cu:=Qh (And.intro hy D);have f4:=Qh eb;clear d9 dq hx hy cm b8 c1 D e8 em u m eh ea ep eb eo z h9 h8 O eq;go_wp2_with fail;have xp:Blk (wj.alloc (.cells #[aa j.name,.int .i64 j.kind,.int .i64 (ja:Nat),.int .i64 (jp:Nat),.int .i64 (jb:Nat),.int .i64 (jo:Nat),.int .i64 j.to_] 81)) wj.heap.size 81 #[aa j.name,.int .i64 j.kind,.int .i64 (ja:Nat),.int .i64 (jp:Nat),.int .i64 (jb:Nat),.int .i64 (jo:Nat),.int .i64 j.to_]:=ak _ _ _ rfl;have M:Below wj.heap.size wj (wj.alloc (.cells #[aa j.name,.int .i64 j.kind,.int .i64 (ja:Nat),.int .i64 (jp:Nat),.int .i64 (jb:Nat),.int .i64 (jo:Nat),.int .i64 j.to_] 81)):=(ae wj).alloc Qr _;have I:=Qh (G.out.belw M);have bs:=Qh ((bg.out.belw f).belw M);have ab:=Qh ((H.out.bodies.bd f).bd M);have a9:s.heap.size<wj.heap.size:=G.out.lt;have xb:=W.below M W.lt;have aC:=hb.trans (M.mono (Nat.le_of_lt a9));clear G d0 d1 d2 d3 d4 d5 d6 W;generalize (wj.alloc (.cells #[aa j.name,.int .i64 j.kind,.int .i64 (ja:Nat),.int .i64 (jp:Nat),.int .i64 (jb:Nat),.int .i64 (jo:Nat),.int .i64 j.to_] 81))=wb at xp M I bs ab xb aC ⊢;have gu:wj.heap.size<wb.heap.size:=xp.lt;have e4:w.heap.size<wb.heap.size:=xb.lt;obtain ⟨b7,ao,fc,g7,c3,ga,ds⟩:=xp.c7;obtain ⟨bn,N,bb,a8⟩:=xb.c4
    go_region_held3 (fun w'=>Sees wb.heap.size wb w') (first | with_reducible exact Sees.of Qr (by assumption) | with_reducible exact Sees.of Qr (ae _).drew | with_reducible exact Sees.al (by assumption) _ | exact Sees.of Qr (af (ae _) 1) | exact Sees.of Qr (af (by assumption) _))
     (first
      | (go_at_call 63;(with_reducible refine (tu _ _ _ _ _ _ _ _ _ _ _ L.bodies 500 ?_ ja jp x m1 a7.out.1 a7.out.2.1 a7.out.2.2.1 a7.out.2.2.2.1 F1 a7.out.2.2.2.2).mono ?_);(exact ab.out.bd (by first | exact a2 | exact ae _ | exact (ae wb).drew | exact af (ae wb) _));rintro V ey ⟨rfl,ad⟩;have a6:Below wb.heap.size wb ey:=(by first | exact aj a2 ad | exact aj (ae wb) ad | exact aj (af (ae wb) _) ad))
      | (go_at_call 63;(with_reducible refine (tu _ _ _ _ _ _ _ _ _ _ _ L.bodies 500 ?_ jb jo y m2 bf.out.1 bf.out.2.1 bf.out.2.2.1 bf.out.2.2.2.1 F2 bf.out.2.2.2.2).mono ?_);(exact ab.out.bd (by first | exact a6 | exact ae _ | exact (ae wb).drew | exact af (ae wb) _));rintro V e3 ⟨rfl,an⟩;have a2:Below wb.heap.size wb e3:=(by first | exact aj a6 an | exact aj (ae wb) an | exact aj (af (ae wb) _) an)))
    all_goals
     rename_i c8;clear c8 ad an
     first
      | clear a6 ey
      | clear a2 e3
     rename World=>wl;rename Below wb.heap.size wb wl=>ql;have xs:Blk (wl.alloc (.cells #[.string ⟨#[112,105,110]⟩,aa j.name,aa F1,aa F2] 9)) wl.heap.size 9 (fY [[112,105,110],j.name,F1,F2]).toArray:=ak _ _ _ rfl;have qs:Below wb.heap.size wb (wl.alloc (.cells #[.string ⟨#[112,105,110]⟩,aa j.name,aa F1,aa F2] 9)):=ql.alloc ql.size _;have cz:wb.heap.size<=wl.heap.size:=ql.size;clear b7 ao fc g7 c3 ga ds bn N bb a8 ql;generalize (wl.alloc (.cells #[.string ⟨#[112,105,110]⟩,aa j.name,aa F1,aa F2] 9))=ws at xs qs ⊢;have hq:wl.heap.size<ws.heap.size:=xs.lt;have b3:=xp.below qs xp.lt;have f8:=xb.below qs xb.lt;have fn:=aC.trans (qs.mono (by omega));have ao:=b3.cell 1;rcases hz.out with ⟨e0,_⟩ | ⟨db,jt,m3,et,ck⟩
     ·have f9:(j.kind==1)=false:=by rw [e0];rfl
      have bk:cU L.bodies j=[[112,105,110],j.name,F1,F2]:=by
       unfold cU;rw [if_neg (by omega),aS.out.1,aS.out.2.1]
      obtain ⟨J,hJ⟩:∃ J,gH [[112,105,110],j.name,F1,F2]=J:=⟨_,rfl⟩;obtain ⟨T,hT⟩:∃ T,J++[59,10]=T:=⟨_,rfl⟩;have K:aW L.bodies j=T:=by unfold aW;rw [bk,hJ,hT]
      have aT:=cR J [59,10];rw [hT] at aT;have dn:T.length=J.length+2:=by rw [<- hT,List.length_append];rfl
      have Y:=aS.out.2.2;rw [K] at Y;have kT:(9223372036854775807<J.length+2)=False:=eq_false (by omega);have hB:=aJ J;have X:=HW.out;rw [K] at X;have c5:=Qh X;have dO:=Qh K;have HJ:=Qh hJ;clear e0 bk hT K X;go_wp2_with fail;refine (rV ws wl.heap.size 4 4 _ rfl xs.strs hq (by decide) (by decide) (by rw [HJ.out];omega)).mono ?_;rintro V wt ⟨rfl,qt⟩;rw [HJ.out];go_wp2_with fail;refine (dW _ _ _ _ T ((I.out.belw qs).belw qt) c5.out).mono ?_;rintro V wu ⟨rfl,Bw,qu,_⟩;have a1:Hid (Bu s.heap.size s.heap.size wu (S1++(L.joints.take (U+1)).flatMap (aW L.bodies))):=Qh (by rw [Z.out,dO.out];exact Bw);have bu:=(fn.trans (qt.mono (by omega))).trans qu;clear Bw;go_wp2_with fail;go_roundw
      case rel=>exact ⟨U+1,by go_num,by omega,a1,bu⟩
      case measure=>simp [intOf];omega
     have f9:(j.kind==1)=true:=by rw [db];rfl
     obtain ⟨F3,c6⟩:∃ F,y.name++46::m3.name=F:=⟨_,rfl⟩;have D:=cu.out.2;have bl:=Qh (And.intro cu.out.1 (And.intro ck (And.intro D.nm (And.intro (D.mks m3 (List.mem_of_getElem? ck)) c6))))
     have bk:cU L.bodies j=[[115,108,105,100,101],j.name,F1,F2,F3]:=by
      unfold cU;have gA:=lV cu.out.1 ck;rw [if_pos db,aS.out.1,aS.out.2.1,f4.out,et,gA,c6]
     have e9:((jt:Nat):Int)=j.to_:=et.symm;obtain ⟨J,hJ⟩:∃ J,gH [[115,108,105,100,101],j.name,F1,F2,F3]=J:=⟨_,rfl⟩;obtain ⟨T,hT⟩:∃ T,J++[59,10]=T:=⟨_,rfl⟩;have K:aW L.bodies j=T:=by unfold aW;rw [bk,hJ,hT]
     have aT:=cR J [59,10];rw [hT] at aT;have dn:T.length=J.length+2:=by rw [<- hT,List.length_append];rfl
     have Y:=aS.out.2.2;rw [K] at Y;have kT:(9223372036854775807<J.length+2)=False:=eq_false (by omega);have hB:=aJ J;have X:=HW.out;rw [K] at X;have c5:=Qh X;have dO:=Qh K;have HJ:=Qh hJ;rw [et] at b3 xp;obtain ⟨i0,ev,eW,e6,es⟩:=info_parts rl;have HI:=Qh (And.intro ev (And.intro eW (And.intro e6 es)));clear db ev eW e6 es et e9 ck c6 D bk hT K X;have hC:=xs.cell 0;have he:=xs.frozen 0;have gg:=xs.cell 1;have c3:=b3.cell 4;have ds:=b3.cell 6;obtain ⟨bn,N,bb,a8⟩:=f8.c4;have hI:¬ w.heap.size=wl.heap.size:=by omega
     have hK:¬ wj.heap.size=wl.heap.size:=by omega
     have cy:Blk (ws.setCell ⟨wl.heap.size,0,none⟩ (aa [115,108,105,100,101])) wl.heap.size 9 (fY [[115,108,105,100,101],j.name,F1,F2]).toArray:=xs.set_ 0 _;have cv:Below wb.heap.size wb (ws.setCell ⟨wl.heap.size,0,none⟩ (aa [115,108,105,100,101])):=qs.setCell (p:=⟨wl.heap.size,0,none⟩) cz _;clear xs;go_wp2_with fail;clear bn N bb a8 c3 ds ao hC gg he;generalize (ws.setCell ⟨wl.heap.size,0,none⟩ (aa [115,108,105,100,101]))=wv at cy cv ⊢;refine (tu _ _ _ _ _ _ _ _ _ _ _ L.bodies 500 (ab.out.bd cv) jb jt y m3 bl.out.1 bl.out.2.1 bl.out.2.2.1 bl.out.2.2.2.1 F3 bl.out.2.2.2.2).mono ?_;rintro V wt ⟨rfl,qt⟩;have hr:=cy.below qt cy.lt;have q6:=aj cv qt;have HO:=Qh ((hr.owns (n:=4) cz rfl (by decide)).alloc (.cells #[aa F3] 9));go_wp2_with (at_builtin;refine wpList_append_lies _ rfl _ _ _ rfl wb.heap.size 9 i0 (.string ⟨#[]⟩) 1 16 Tryz.underlying109 HI.out.1 HI.out.2.1 HI.out.2.2.1 HI.out.2.2.2 rfl (by omega) (.slice (some ⟨wl.heap.size,0,none⟩) 4 4) 4 (fY [[115,108,105,100,101],j.name,F1,F2]) rfl HO.out ⟨wt.heap.size,0,none⟩ 1 1 [_] rfl rfl (World.news_of_block (heap_alloc_new wt _)) (by simp [Value.oneCell']) (by omega) (by unfold maxLen;omega) (by omega) (by have:=q6.size;simp;omega) (wt.heap.size+1) (by simp) ?_;intro gx cap w9 a3 a5 hw ac);have ej:=wM (l:=[[115,108,105,100,101],j.name,F1,F2,F3]) a3;have eQ:=Qh ej;have b9:Below wb.heap.size wb w9:=(q6.alloc q6.size _).grown a5 (by have:=q6.size;simp;omega) (fun k hk=>by cases hk;exact cz);clear ej a3 a5 hw;refine (rV w9 gx cap 5 _ rfl eQ.out.2 ac (by decide) eQ.out.1 (by rw [HJ.out];omega)).mono ?_;rintro V wy ⟨rfl,qy⟩;rw [HJ.out];have q9:=aj b9 qy;go_wp2_with fail;refine (dW _ _ _ _ T (I.out.belw q9) c5.out).mono ?_;rintro V wu ⟨rfl,Bw,qu,_⟩;have a1:Hid (Bu s.heap.size s.heap.size wu (S1++(L.joints.take (U+1)).flatMap (aW L.bodies))):=Qh (by rw [Z.out,dO.out];exact Bw);have bu:=(aC.trans (q9.mono (by omega))).trans qu;clear Bw;go_wp2_with fail;go_roundw
     case rel=>exact ⟨U+1,by go_num,by omega,a1,bu⟩
     case measure=>simp [intOf];omega
   have hE:((U:Int)<(p:Int))=False:=by simp;omega
   have Q:L.joints.take U=L.joints:=List.take_of_length_le (by rw [gO.out];exact ex);rw [Q,gD.out] at G;have a4:=G;have hn:=W.cell 3;clear Q G;go_wp2_with fail;clear hn;go_loopw [79] (fun iv wr=>∃ i3:Nat,iv=.int .i64 (i3:Nat)/\i3<=q/\Hid (Bu s.heap.size s.heap.size wr (S2++(L.drivers.take i3).flatMap (bq L.bodies)))/\Below s.heap.size w2 wr) (fun iv _=>q-(intOf iv).toNat)
   case atStart=>exact ⟨0,rfl,Nat.zero_le _,by simpa using a4,hb⟩
   case round =>
    clear a4 W f hb;obtain ⟨i3,rfl,hG,G,hb⟩:=hrel;rename World=>wk;have W:=x2.below hb r;have f:=cx.trans (hb.mono (Nat.le_of_lt r));rcases Nat.lt_or_ge i3 q with ew | ez
    ·have gE:((i3:Int)<(q:Int))=True:=by simp;omega
     obtain ⟨g,o,dv,e1,hg,_,z,fx⟩:=(H.out.drivers.dr f).at_ ew;subst e1;obtain ⟨hL,di,y,ei,hy⟩:=HK.out.driver dv (List.mem_of_getElem? z);have gp:di<n:=by rw [<- ek.out];exact (List.getElem?_eq_some_iff.1 hy).1
     obtain ⟨gb,ob,y',e1,gr,_,b2,ge⟩:=H.out.bodies.at_ gp;rw [hy] at b2;injection b2 with b2;subst b2 e1;obtain ⟨A',n',c',k0,k1,hM,_⟩:=ge;have D:=HK.out.body y (List.mem_of_getElem? hy);have hX:=D.nm;obtain ⟨d0,d1,_⟩:=fx;rw [ei] at d1;have ie:=aJ dv.name;have hP:=aJ y.name;obtain ⟨g1,bx⟩:∃ t,[100,114,105,118,101,114,32]++dv.name=t:=⟨_,rfl⟩;have gj:=cR ([100,114,105,118,101,114,32]) (dv.name);rw [bx] at gj;have g8:g1.length=7+dv.name.length:=by rw [<- bx,List.length_append];try simp
     have hN:(9223372036854775807<7+dv.name.length)=False:=eq_false (by omega);have h4:=aJ g1;obtain ⟨g2,ch⟩:∃ t,g1++[32]=t:=⟨_,rfl⟩;have f2:=cR (g1) ([32]);rw [ch] at f2;have hu:g2.length=g1.length+1:=by rw [<- ch,List.length_append];try simp
     have im:(9223372036854775807<g1.length+1)=False:=eq_false (by omega);have hY:=aJ g2;obtain ⟨g3,b4⟩:∃ t,g2++y.name=t:=⟨_,rfl⟩;have g5:=cR (g2) (y.name);rw [b4] at g5;have fs:g3.length=g2.length+y.name.length:=by rw [<- b4,List.length_append];try simp
     have h5:(9223372036854775807<g2.length+y.name.length)=False:=eq_false (by omega);have hR:=aJ g3;obtain ⟨g4,ca⟩:∃ t,g3++[59,10]=t:=⟨_,rfl⟩;have gk:=cR (g3) ([59,10]);rw [ca] at gk;have fp:g4.length=g3.length+2:=by rw [<- ca,List.length_append];try simp
     have ij:(9223372036854775807<g3.length+2)=False:=eq_false (by omega);have it:=aJ g4
     have d7:bq L.bodies dv=g4:=by
      rw [<- ca,<- b4,<- ch,<- bx];unfold bq;rw [ei,pR hy]
     have u:=iQ (bq L.bodies) z;have m:=fT (bq L.bodies) L.drivers (i3+1);rw [u,List.length_append,d7] at m;rw [d7] at u;have h9:=ha.out;have h8:=f7.out;have O:(S2++(L.drivers.take i3).flatMap (bq L.bodies)).length+g4.length<=140737488355328:=by rw [List.length_append];omega
     have HW:=Qh O;have Z:Hid (S2++(L.drivers.take (i3+1)).flatMap (bq L.bodies)=S2++(L.drivers.take i3).flatMap (bq L.bodies)++g4):=Qh (by rw [u,List.append_assoc]);have k0:=ai k0 f;have el:g<wk.heap.size:=hg;clear hM k1 D hy ei d7 u m h9 h8 O z g8 hu fs fp bx ch b4 ca;go_wp2_with fail;have xp:Blk (wk.alloc (.cells #[aa dv.name,.int .i64 (di:Nat)] 86)) wk.heap.size 86 #[aa dv.name,.int .i64 (di:Nat)]:=ak _ _ _ rfl;have M:Below wk.heap.size wk (wk.alloc (.cells #[aa dv.name,.int .i64 (di:Nat)] 86)):=(ae wk).alloc Qr _;have I:=Qh (G.out.belw M);have a9:s.heap.size<wk.heap.size:=G.out.lt;have xb:=W.below M W.lt;have aC:=hb.trans (M.mono (Nat.le_of_lt a9));have k0:=ai k0 M;clear G d0 d1 W;generalize (wk.alloc (.cells #[aa dv.name,.int .i64 (di:Nat)] 86))=wb at xp M I xb aC k0 ⊢;have gu:wk.heap.size<wb.heap.size:=xp.lt;have e4:w.heap.size<wb.heap.size:=xb.lt;obtain ⟨b7,ao⟩:=xp.c2;have N:=xb.cell 1;have f1:((di:Int)<(n:Int)):=by omega
     have e2:SD wk.heap.size w.heap.size gb (ob+di*2) (aa dv.name) (.int .i64 (di:Nat)) (.slice (some ⟨gb,ob,none⟩) n c) (aa y.name) wb:=⟨b7,ao,N,k0⟩
     go_region_held3 (SD wk.heap.size w.heap.size gb (ob+di*2) (aa dv.name) (.int .i64 (di:Nat)) (.slice (some ⟨gb,ob,none⟩) n c) (aa y.name)) (first | assumption | exact e2)
      (first
       | (go_at_call 61;(with_reducible refine (dW _ _ _ _ g4 (I.out.belw (by first | exact (ae wb).drew | exact af (ae wb) _)) HW.out).mono ?_);rintro V wu ⟨rfl,Bw,qu,ou⟩;have xu:=ou wk.heap.size 86 _ (by omega) (by decide) xp;have qu:Below s.heap.size wb wu:=(by first | exact (Below.refl _ wb).drew.trans qu | exact (af (Below.refl _ wb) _).trans qu);have f3:SD wk.heap.size w.heap.size gb (ob+di*2) (aa dv.name) (.int .i64 (di:Nat)) (.slice (some ⟨gb,ob,none⟩) n c) (aa y.name) wu:=⟨xu.cell 0,xu.cell 1,(xb.below qu r).cell 1,(qu.cell (p:=⟨gb,ob+di*2,none⟩) (Nat.lt_trans gr r)).trans k0⟩))
     have a1:Hid (Bu s.heap.size s.heap.size wu (S2++(L.drivers.take (i3+1)).flatMap (bq L.bodies))):=Qh (by rw [Z.out];exact Bw);have bu:=aC.trans qu;clear Bw b7 ao N k0 e2 f3;go_wp2_with fail;go_roundw
     case rel=>exact ⟨i3+1,by go_num,by omega,a1,bu⟩
     case measure=>simp [intOf];omega
    have gE:((i3:Int)<(q:Int))=False:=by simp;omega
    have Q:L.drivers.take i3=L.drivers:=List.take_of_length_le (by rw [g9.out];exact ez);rw [Q,g0.out] at G;clear Q;go_wp2_with fail;refine (Dz _ _ _ S3 G.out).mono ?_;rintro V w9 ⟨rfl,rfl⟩;by_cases c9:65536<S3.length
    ·have hl:((65536:Int)<(S3.length:Int))=True:=eq_true (by omega)
     have E:cg L=4:=by unfold cg;rw [if_neg (by rw [HC.out];decide),if_pos (Or.inr (by rw [eg.out];exact c9))]
     have P:dI L=[]:=by unfold dI;rw [if_neg (by rw [E];decide)]
     have R:=Qh (And.intro E P);clear E P;go_wp2_with fail;go_ret2;exact ⟨by rw [R.out.1,R.out.2];rfl,f⟩
    have hl:((65536:Int)<(S3.length:Int))=False:=eq_false (by omega);have hF:=Qh c9;obtain ⟨v,hv⟩:∃ v,fm L.bodies=v:=⟨_,rfl⟩;have HV:=Qh hv;obtain ⟨bn,N,bb,a8⟩:=W.c4;clear c9 hv;go_wp2_with fail;refine (DB _ A n c B p d C q e L.name L.bodies (H.out.bodies.bd f) (bg.out.belw f) (by omega) (fun b hb=>by have:=(HK.out.body b hb).np;omega) v HV.out).mono ?_;rintro V wz ⟨rfl,qz⟩;have bz:=f.trans (qz.mono f.size);clear bn N bb a8;cases v
    ·have E:cg L=0:=by
      unfold cg;rw [if_neg (by rw [HC.out];decide),if_neg (by rw [eg.out,HV.out];intro hh;rcases hh with hh | hh;exact absurd hh (by decide);exact hF.out hh)]
     have P:dI L=S3:=by unfold dI;rw [if_pos E,eg.out]
     have R:=Qh (And.intro E P);have gz:=Qh (G.out.belw qz);clear E P;go_wp2_with fail;refine (zk _ _ _ _ gz.out).mono ?_;rintro V wy ⟨rfl,qy⟩;have fb:=bz.trans (qy.mono (Nat.le_of_lt r));go_wp2_with fail;go_ret2;exact ⟨by rw [R.out.1,R.out.2];rfl,fb⟩
    have E:cg L=4:=by unfold cg;rw [if_neg (by rw [HC.out];decide),if_pos (Or.inl HV.out)]
    have P:dI L=[]:=by unfold dI;rw [if_neg (by rw [E];decide)]
    have R:=Qh (And.intro E P);clear E P;go_wp2_with fail;go_ret2;exact ⟨by rw [R.out.1,R.out.2];rfl,bz⟩
theorem DI (w:World) (i:Int) (n:Nat) (v:Bool) (b:inI i n=v):Calls Tryz.prog 52 #[.int .i64 i,.int .i64 (n:Nat)] w (fun e a=>e=.returned (.bool v)/\a=w):=by
 subst b;by_cases h1:0<=i
 ·by_cases h2:i<(n:Int)
  ·have e:inI i n=true:=by unfold inI;simp [h1,h2]
   rw [e];have f1:(0<=i)=True:=eq_true h1;have f2:(i<(n:Int))=True:=eq_true h2;go_in;go_wp2;go_ret;exact ⟨rfl,rfl⟩
  have e:inI i n=false:=by unfold inI;simp [h2]
  rw [e];have f1:(0<=i)=True:=eq_true h1;have f2:(i<(n:Int))=False:=eq_false h2;go_in;go_wp2;go_ret;exact ⟨rfl,rfl⟩
 have e:inI i n=false:=by unfold inI;simp [h1]
 rw [e];have f1:(0<=i)=False:=eq_false h1;go_in;go_wp2;go_ret;exact ⟨rfl,rfl⟩
theorem nW (w:World) (i:Int) (n:Nat) (v:Bool) (b:inI i n=v):Calls Tryz.prog 52 #[.int .i64 i,.int .i64 (n:Nat)] w (ax w (.bool v)):=(DI w i n v b).mono fun _ _ ⟨a,c⟩=>⟨a,c ▸ ae _⟩
theorem zC (w:World) (A:Option Addr) (n c:Nat) (b:BodyL) (k:Nat) (h:SlS (cT k) 7 w A n c b.pts) (hk:k<=300000000) (x:Int) (hx:(if 8<b.pts.length then 4 else bt bc [] b.pts)=x):Calls Tryz.prog 51 #[.agg #[aa b.name,.slice A n c]] w (ax w (.int .i64 x)):=by
 have g:=h.1;by_cases h8:8<n
 ·have f8:((8:Int)<(n:Int))=True:=eq_true (by omega)
  have h4:x=4:=by rw [<- hx,if_pos (by rw [g];exact h8)]
  clear g;go_in;go_wp2;go_ret;exact ⟨by rw [h4];rfl,(ae w).alloc Qr _⟩
 have f8:((8:Int)<(n:Int))=False:=eq_false (by omega);have bl:n<=8:=by omega
 rw [if_neg (by rw [g];exact h8)] at hx;have bu:=h.2.1;have HX:=Qh (cK hx);have a6:=Qh g;clear hx g h8;go_in;go_wp2_with fail;go_loopw [3] (fun iv wr=>∃ i:Nat,iv=.int .i64 (i:Nat)/\i<=n/\Hid (bt bc (b.pts.take i) (b.pts.drop i)=x)/\Blk wr w.heap.size 51 #[aa b.name,.slice A n c]/\Below w.heap.size w wr) (fun iv _=>n-(intOf iv).toNat)
 case atStart=>exact ⟨0,rfl,Nat.zero_le _,HX,ak _ _ _ (by simp),(ae w).alloc Qr _⟩
 case round =>
  clear HX;obtain ⟨p,rfl,hp,HP,xB,j⟩:=hrel;rename World=>w3;obtain ⟨S,K⟩:=xB.c2;have bn:w.heap.size<w3.heap.size:=xB.lt;rcases Nat.lt_or_ge p n with a7 | bf
  ·have bb:((p:Int)<(n:Int))=True:=by simp;omega
   have U:=Qh (h.mk_ j);obtain ⟨g',o',m,e,br,_,Q,a8⟩:=U.out.at_ a7;subst e;have M:=cX HP.out Q;obtain ⟨d0,⟨b1,A1,n1,c1,D1,m1,e1,d1,d2,d3,T⟩,⟨b2,A2,n2,c2,D2,m2,e2,d4,d5,d6,I⟩,N⟩:=a8;have d2:w3.cell? ⟨g',o'+p*7+2,none⟩=some (.slice A1 n1 c1):=d2;have d3:w3.cell? ⟨g',o'+p*7+3,none⟩=some (.slice D1 m1 e1):=d3;have d5:w3.cell? ⟨g',o'+p*7+5,none⟩=some (.slice A2 n2 c2):=d5;have d6:w3.cell? ⟨g',o'+p*7+6,none⟩=some (.slice D2 m2 e2):=d6;have Z:=Qh M;have an:=Qh T;have bg:=Qh I;have ad:=Qh N;have bx:((p:Int)<(n:Int)):=by omega
   obtain ⟨v,hv⟩:∃ v,aQ m.name=v:=⟨_,rfl⟩;have Y:=Qh hv;clear M T I N Q hv h HP;go_wp2_with fail;refine (mQ _ m.name ad.out v Y.out).mono ?_;rintro e w4 ⟨rfl,E⟩;have W:=E.q1;have x4:Blk w4 w3.heap.size 56 #[aa m.name,.bool b1,.slice A1 n1 c1,.slice D1 m1 e1,.bool b2,.slice A2 n2 c2,.slice D2 m2 e2]:=(ak _ _ _ (by simp)).below E (by simp);have V:=xB.below W xB.lt;have B:=j.trans (W.mono j.size);clear E d0 d1 d2 d3 d4 d5 d6 S K
   have R:∀ z:Int,z≠0->bc (b.pts.take p) m=z->x=z:=fun z hz hm=>by
    rcases Z.out with ⟨u,_⟩ | ⟨_,u⟩
    ·exact absurd (hm.symm.trans u) hz
    exact u.symm.trans hm
   have o:=Qh R;clear R;cases v
   ·have h5:x=5:=o.out 5 (by decide) (if_pos Y.out)
    go_wp2;go_ret;exact ⟨by rw [h5];rfl,B⟩
   go_wp2_with fail;go_loopw [5] (fun jv wr=>∃ r:Nat,jv=.int .i64 (r:Nat)/\r<=p/\Hid (twN ((b.pts.take r).map MarkL.name) m.name=false)/\Below w4.heap.size w4 wr) (fun jv _=>p-(intOf jv).toNat)
   case atStart=>exact ⟨0,rfl,Nat.zero_le _,Qh rfl,ae w4⟩
   case round =>
    obtain ⟨r,rfl,hr,HT,d⟩:=hrel;rename World=>w5;have F:=x4.below d x4.lt;have q:=V.below d V.lt;have t:=B.trans (d.mono B.size);have a1:=F.cell 0;rcases Nat.lt_or_ge r p with a2 | bw
    ·have ao:((r:Int)<(p:Int))=True:=by simp;omega
     have ab:r<n:=by omega
     obtain ⟨a,ha,hA⟩:=((U.out.mk_ W).mk_ d).rowAt ab;obtain ⟨d0,_,_,_⟩:=hA;obtain ⟨S,K⟩:=q.c2;have bk:((r:Int)<(n:Int)):=by omega
     have bv:=aF m.name;by_cases f:a.name=m.name
     ·have h6:x=6:=o.out 6 (by decide) (by
       unfold bc
       rw [Y.out,if_neg (by decide),if_pos (dH ha a2 f)])
      rw [f] at d0;have a9:(m.name==m.name)=true:=by simp
      clear f ha;go_wp2_with fail;go_quiet (fail);go_wp2;go_ret;exact ⟨by rw [h6];rfl,af t _⟩
     have bs:=aF a.name;have aT:=Qh (dU ha HT.out f);have a9:(a.name==m.name)=false:=beq_eq_false_iff_ne.2 f;clear f ha HT;go_wp2_with fail;go_quiet (fail);go_wp2_with fail;go_roundw
     case rel=>exact ⟨r+1,by go_num,by omega,aT,af d _⟩
     case measure=>simp [intOf];omega
    have ao:((r:Int)<(p:Int))=False:=by simp;omega
    obtain rfl:r=p:=by omega
    have bd:=F.cell 1;have ac:=F.cell 2;have a0:=F.cell 3;obtain ⟨v1,L⟩:∃ v,m.x.ok=v:=⟨_,rfl⟩;obtain ⟨v2,O⟩:∃ v,m.y.ok=v:=⟨_,rfl⟩;have D:=Qh L;have C:=Qh O;clear L O;go_wp2_with fail;refine (iK _ b1 A1 n1 c1 D1 m1 e1 m.x k v1 ((an.out.belw W).belw d) hk D.out).mono ?_;rintro e w6 ⟨rfl,l⟩;have x6:=F.below l F.lt;have H:=q.below l q.lt;have s:=t.trans (l.mono t.size);clear a1 bd ac a0
    have J:v1=false\/v2=false->bc (b.pts.take r) m=3:=fun hh=>by
     unfold bc;rw [Y.out,if_neg (by decide),HT.out,if_neg (by decide),D.out,C.out];rcases hh with e | e
     ·rw [e,if_pos rfl]
     rw [e];cases v1
     ·rfl
     rfl
    have P:=Qh J;clear J;cases v1
    ·have h3:x=3:=o.out 3 (by decide) (P.out (.inl rfl))
     go_wp2;go_ret;exact ⟨by rw [h3];rfl,s⟩
    have a5:=x6.cell 4;have a4:=x6.cell 5;have a3:=x6.cell 6;go_wp2_with fail;refine (iK _ b2 A2 n2 c2 D2 m2 e2 m.y k v2 (((bg.out.belw W).belw d).belw l) hk C.out).mono ?_;rintro e w7 ⟨rfl,X⟩;have G:=s.trans (X.mono s.size);have al:=H.below X H.lt;clear a5 a4 a3;cases v2
    ·have h3:x=3:=o.out 3 (by decide) (P.out (.inr rfl))
     go_wp2;go_ret;exact ⟨by rw [h3];rfl,G⟩
    have h0:bc (b.pts.take r) m=0:=by
     unfold bc;rw [Y.out,if_neg (by decide),HT.out,if_neg (by decide),D.out,C.out];rfl
    have aC:Hid (bt bc (b.pts.take (r+1)) (b.pts.drop (r+1))=x):=Qh (by
     rcases Z.out with ⟨_,u⟩ | ⟨u,_⟩
     ·exact u
     exact absurd h0 u)
    clear h0;go_wp2_with fail;go_roundw
    case rel=>exact ⟨r+1,by go_num,by omega,aC,al,G⟩
    case measure=>simp [intOf];omega
  have bb:((p:Int)<(n:Int))=False:=by simp;omega
  have aS:x=0:=dT HP.out (by rw [a6.out];exact bf);go_wp2;go_ret;exact ⟨by rw [aS];rfl,j⟩
theorem zD (w:World) (A:Option Addr) (n c:Nat) (B:Option Addr) (p d:Nat) (C:Option Addr) (q e:Nat) (L:ag) (k:Nat) (h:LkS k w A n c B p d C q e L) (hk:k<=10000000) (hn:n<=8) (x:Int) (hx:bt aL [] L.bodies=x):Calls Tryz.prog 28 #[.agg #[aa L.name,.slice A n c,.slice B p d,.slice C q e]] w (ax w (.int .i64 x)):=by
 have H:=Qh (cK hx);have aT:=h.bodies.2.1;have R:=Qh h.bodies.1;clear hx;go_in;go_wp2_with fail;go_loopw [3] (fun Y wr=>∃ i:Nat,Y=.int .i64 (i:Nat)/\i<=n/\Hid (bt aL (L.bodies.take i) (L.bodies.drop i)=x)/\Blk wr w.heap.size 26 #[aa L.name,.slice A n c,.slice B p d,.slice C q e]/\Below w.heap.size w wr) (fun Y _=>n-(intOf Y).toNat)
 case atStart=>exact ⟨0,rfl,Nat.zero_le _,H,ak _ _ _ (by simp),(ae w).alloc Qr _⟩
 case round =>
  clear H;obtain ⟨i,rfl,hi,H,xL,hb⟩:=hrel;rename World=>wa;have G:=xL.cell 1;rcases Nat.lt_or_ge i n with al | ac
  ·have ad:((i:Int)<(n:Int))=True:=by simp;omega
   have hR:=(h.belw hb).bodies;obtain ⟨g,o,b,W,hg,_,J,hB⟩:=hR.at_ al;subst W;have s:=cX H.out J;obtain ⟨A',n',c',c0,c1,hM,K⟩:=hB;have HR:=Qh hR;have HM:=Qh hM;have HS:=Qh s;have HN:=Qh K;have a1:((i:Int)<(n:Int)):=by omega
   obtain ⟨v,hv⟩:∃ v,aQ b.name=v:=⟨_,rfl⟩;have Q:=Qh hv;clear h hR hM s K J hv H;go_wp2_with fail;refine (mQ _ b.name HN.out v Q.out).mono ?_;rintro e' w1 ⟨rfl,r⟩;have N:=xL.below r xL.lt;have t:=hb.trans (r.mono hb.size)
   have M:∀ z:Int,z≠0->aL (L.bodies.take i) b=z->x=z:=fun z hz hm=>by
    rcases HS.out with ⟨u,_⟩ | ⟨_,u⟩
    ·exact absurd (hm.symm.trans u) hz
    exact u.symm.trans hm
   have F:=Qh M;clear M G;cases v
   ·have h5:x=5:=F.out 5 (by decide) (if_pos Q.out)
    go_wp2;go_ret;exact ⟨by rw [h5];rfl,t⟩
   go_wp2_with fail;go_loopw [4] (fun U wr=>∃ j:Nat,U=.int .i64 (j:Nat)/\j<=i/\Hid (twN ((L.bodies.take j).map BodyL.name) b.name=false)/\Below w1.heap.size w1 wr) (fun U _=>i-(intOf U).toNat)
   case atStart=>exact ⟨0,rfl,Nat.zero_le _,Qh rfl,ae w1⟩
   case round =>
    obtain ⟨j,rfl,hj,HT,l⟩:=hrel;rename World=>w2;have E:=N.below l N.lt;have D:=t.trans (l.mono t.size);have G:=E.cell 1;have c0:=ai (ai c0 r) l;rcases Nat.lt_or_ge j i with T | a3
    ·have an:((j:Int)<(i:Int))=True:=by simp;omega
     have V:j<n:=by omega
     have aS:((j:Int)<(n:Int)):=by omega
     obtain ⟨a,P,hA⟩:=((HR.out.bd r).bd l).rowAt V;obtain ⟨A2,n2,c2,d0,_,_,_⟩:=hA;have a0:=aF b.name;by_cases m:a.name=b.name
     ·have h6:x=6:=F.out 6 (by decide) (by
       unfold aL
       rw [Q.out,if_neg (by decide),if_pos (dH P T m)])
      rw [m] at d0;have S:(b.name==b.name)=true:=by simp
      clear m P;go_wp2_with fail;go_quiet (fail);go_wp2;go_ret;exact ⟨by rw [h6];rfl,af D _⟩
     have a2:=aF a.name;have Z:=Qh (dU P HT.out m);have S:(a.name==b.name)=false:=beq_eq_false_iff_ne.2 m;clear m P HT;go_wp2_with fail;go_quiet (fail);go_wp2_with fail;go_roundw
     case rel=>exact ⟨j+1,by go_num,by omega,Z,af l _⟩
     case measure=>simp [intOf];omega
    have an:((j:Int)<(i:Int))=False:=by simp;omega
    obtain rfl:j=i:=by omega
    have c1:=ai (ai c1 r) l;obtain ⟨y,hy⟩:∃ y,(if 8<b.pts.length then (4:Int) else bt bc [] b.pts)=y:=⟨_,rfl⟩
    have HE:Hid (aL (L.bodies.take j) b=y):=Qh (by
     unfold aL;rw [Q.out,if_neg (by decide),HT.out,if_neg (by decide)]
     exact hy)
    have HY:=Qh hy;clear hy;go_wp2_with fail;refine (zC _ A' n' c' b k ((HM.out.mk_ r).mk_ l) (by omega) y HY.out).mono ?_;rintro e' w3 ⟨rfl,O⟩;have I:=D.trans (O.mono D.size);have ab:=E.below O E.lt;clear G;by_cases f:y=0
    ·have ao:Hid (bt aL (L.bodies.take (j+1)) (L.bodies.drop (j+1))=x):=Qh (by
      rcases HS.out with ⟨_,u⟩ | ⟨u,_⟩
      ·exact u
      exact absurd (HE.out.trans f) u)
     have e0:(y==0)=true:=beq_iff_eq.2 f;have W:(y != 0)=false:=by rw [f];rfl
     clear f;go_wp2_with fail;go_roundw
     case rel=>exact ⟨j+1,by go_num,by omega,ao,ab,I⟩
     case measure=>simp [intOf];omega
    have aC:x=y:=F.out y f HE.out;have e0:(y==0)=false:=beq_eq_false_iff_ne.2 f;have W:(y != 0)=true:=bne_iff_ne.2 f;clear f;go_wp2;go_ret;exact ⟨by rw [aC];rfl,I⟩
  have ad:((i:Int)<(n:Int))=False:=by simp;omega
  have X:x=0:=dT H.out (by rw [R.out];exact ac);go_wp2;go_ret;exact ⟨by rw [X];rfl,hb⟩
theorem zE (w:World) (A:Option Addr) (n c:Nat) (B:Option Addr) (p d:Nat) (C:Option Addr) (q e:Nat) (L:ag) (k:Nat) (h:LkS k w A n c B p d C q e L) (hk:k<=10000000) (hn:n<=8) (hq:q<=2) (i:Nat) (hi:i<q) (b:aE) (R:L.drivers[i]?=some b) (x:Int) (hx:aA n (L.drivers.take i) b=x):Calls Tryz.prog 30 #[.agg #[aa L.name,.slice A n c,.slice B p d,.slice C q e],.int .i64 (i:Nat)] w (ax w (.int .i64 x)):=by
 have a7:=h.drivers.2.1;have a1:=h.bodies.1;obtain ⟨g,o,l,e1,hg,_,W,hB⟩:=h.drivers.at_ hi;subst e1;obtain rfl:l=b:=Option.some.inj (W.symm.trans R);obtain ⟨c0,c1,S⟩:=hB;have P:=Qh hx;have H:=Qh h;have HN:=Qh S;have a8:((i:Int)<(q:Int)):=by omega
 obtain ⟨v,hv⟩:∃ v,aQ l.name=v:=⟨_,rfl⟩;have M:=Qh hv;have a4:¬ g=w.heap.size:=by omega
 clear hx h S hv W a1 R;go_in;go_wp2_with fail;refine (mQ _ l.name HN.out v M.out).mono ?_;rintro e' U ⟨rfl,F⟩;have q1:=F.q2;have xL:Blk U w.heap.size 26 #[aa L.name,.slice A n c,.slice B p d,.slice (some ⟨g,o,none⟩) q e]:=((ak _ _ _ (by simp)).alloc _).below F (by simp <;> omega);have x1:Blk U (w.heap.size+1) 86 #[aa l.name,.int .i64 l.body]:=(ak _ _ _ (by simp)).below F (by simp);clear F;cases v
 ·have h5:x=5:=P.out.symm.trans (if_pos M.out)
  go_wp2;go_ret;exact ⟨by rw [h5];rfl,q1⟩
 go_wp2_with fail;go_loopw [6] (fun J wr=>∃ j:Nat,J=.int .i64 (j:Nat)/\j<=i/\Hid (twN ((L.drivers.take j).map aE.name) l.name=false)/\Below U.heap.size U wr) (fun J _=>i-(intOf J).toNat)
 case atStart=>exact ⟨0,rfl,Nat.zero_le _,Qh rfl,ae U⟩
 case round =>
  obtain ⟨j,rfl,hj,O,D⟩:=hrel;rename World=>w2;have y:=xL.below D xL.lt;have Y:=x1.below D x1.lt;have u:=q1.trans (D.mono q1.size);rcases Nat.lt_or_ge j i with ac | bb
  ·have ao:((j:Int)<(i:Int))=True:=by simp;omega
   have ad:j<q:=by omega
   have a2:((j:Int)<(q:Int)):=by omega
   obtain ⟨a,z,d0,_,_⟩:=(H.out.drivers.dr u).rowAt ad;have ab:=y.cell 3;have z0:=Y.cell 0;have a5:=aF l.name;by_cases f:a.name=l.name
   ·have h6:x=6:=by
     rw [<- P.out];unfold aA;rw [M.out,if_neg (by decide),if_pos (dH z ac f)]
    rw [f] at d0;have I:(l.name==l.name)=true:=by simp
    clear f z;go_wp2_with fail;go_quiet (fail);go_wp2;go_ret;exact ⟨by rw [h6];rfl,af u _⟩
   have a9:=aF a.name;have an:=Qh (dU z O.out f);have I:(a.name==l.name)=false:=beq_eq_false_iff_ne.2 f;clear f z O;go_wp2_with fail;go_quiet (fail);go_wp2_with fail;go_roundw
   case rel=>exact ⟨j+1,by go_num,by omega,an,af D _⟩
   case measure=>simp [intOf];omega
  have ao:((j:Int)<(i:Int))=False:=by simp;omega
  obtain rfl:j=i:=by omega
  have a0:=y.cell 1;have X:=Y.cell 1;obtain ⟨v1,V⟩:∃ v,inI l.body n=v:=⟨_,rfl⟩;have s:=Qh V;clear V;go_wp2_with fail;refine (nW _ l.body n v1 s.out).mono ?_;rintro e' w3 ⟨rfl,N⟩;have t:=u.trans (N.mono u.size);have T:=y.below N y.lt;have x3:=Y.below N Y.lt;clear a0 X;cases v1
  ·have h9:x=9:=by
    rw [<- P.out];unfold aA;rw [M.out,if_neg (by decide),O.out,if_neg (by decide),if_pos s.out]
   go_wp2;go_ret;exact ⟨by rw [h9];rfl,t⟩
  have X:=x3.cell 1;by_cases m:l.body=0
  ·have e0:(l.body==0)=true:=beq_iff_eq.2 m
   have h7:x=7:=by
    rw [<- P.out];unfold aA;rw [M.out,if_neg (by decide),O.out,if_neg (by decide),s.out,if_neg (by decide),if_pos m]
   clear m;go_wp2;go_ret;exact ⟨by rw [h7];rfl,t⟩
  have e0:(l.body==0)=false:=beq_eq_false_iff_ne.2 m;have Q:=Qh m;clear m;go_wp2_with fail;clear X;go_loopw [7] (fun J wr=>∃ r:Nat,J=.int .i64 (r:Nat)/\r<=j/\Hid (((L.drivers.take r).any fun p=>p.body==l.body)=false)/\Below w3.heap.size w3 wr) (fun J _=>j-(intOf J).toNat)
  case atStart=>exact ⟨0,rfl,Nat.zero_le _,Qh rfl,ae w3⟩
  case round =>
   obtain ⟨r,rfl,hr,HR,E⟩:=hrel;rename World=>w4;have x4:=x3.below E x3.lt;have aS:=T.below E T.lt;have G:=t.trans (E.mono t.size);rcases Nat.lt_or_ge r j with aT | a6
   ·have al:((r:Int)<(j:Int))=True:=by simp;omega
    have Z:r<q:=by omega
    have a3:((r:Int)<(q:Int)):=by omega
    obtain ⟨a,z,d0,d1,_⟩:=(H.out.drivers.dr G).rowAt Z;have K:L.drivers.take (r+1)=L.drivers.take r++[a]:=by rw [List.take_add_one,z];rfl
    have ab:=aS.cell 3;have X:=x4.cell 1;by_cases f:a.body=l.body
    ·have h6:x=6:=by
      rw [<- P.out];unfold aA;rw [M.out,if_neg (by decide),O.out,if_neg (by decide),s.out,if_neg (by decide),if_neg Q.out,if_pos];rw [List.any_eq_true];exact ⟨a,List.mem_of_getElem? (i:=r) (by rw [List.getElem?_take,if_pos aT];exact z),by simpa using f⟩
     have I:(a.body==l.body)=true:=beq_iff_eq.2 f;clear f z K;go_wp2_with fail;go_quiet (fail);go_wp2;go_ret;exact ⟨by rw [h6];rfl,af G _⟩
    ·have aC:Hid (((L.drivers.take (r+1)).any fun p=>p.body==l.body)=false):=Qh (by
      rw [K,List.any_append,HR.out]
      simpa using f)
     have I:(a.body==l.body)=false:=beq_eq_false_iff_ne.2 f;clear f z K HR;go_wp2_with fail;go_quiet (fail);go_wp2_with fail;go_roundw
     case rel=>exact ⟨r+1,by go_num,by omega,aC,af E _⟩
     case measure=>simp [intOf];omega
   have al:((r:Int)<(j:Int))=False:=by simp;omega
   obtain rfl:r=j:=by omega
   have h0:x=0:=by
    rw [<- P.out];unfold aA;rw [M.out,if_neg (by decide),O.out,if_neg (by decide),s.out,if_neg (by decide),if_neg Q.out,HR.out];rfl
   go_wp2;go_ret;exact ⟨by rw [h0];rfl,G⟩
theorem ln {i:Int}{n:Nat}(h:inI i n=true):∃ m:Nat,i=(m:Int)/\m<n:=by
 unfold inI at h;simp only [Bool.and_eq_true,decide_eq_true_eq] at h;exact ⟨i.toNat,by omega,by omega⟩
theorem DJ (w:World) (k:Nat) (C:k<=10000000) (c:0<k) (nm n:List UInt8) (A:Bool) (t:Option Addr) (D c1:Nat) (B:Option Addr) (K y:Nat) (l:RD) (h1:QD w A t D c1 B K y l k) (Q:Bool) (T:Option Addr) (E c2:Nat) (H:Option Addr) (M I:Nat) (p:RD) (h2:QD w Q T E c2 H M I p k) (r:Bool) (x:Option Addr) (G c3:Nat) (N:Option Addr) (F S:Nat) (i:RD) (h3:QD w r x G c3 N F S i k) (R:Bool) (P:Option Addr) (n4 c4:Nat) (u:Option Addr) (z L:Nat) (m:RD) (h4:QD w R P n4 c4 u z L m k) (v:Bool) (hv:(decide (l.q=i.q)&&decide (p.q=m.q))=v):Calls Tryz.prog 53 #[.agg #[aa nm,.bool A,.slice t D c1,.slice B K y,.bool Q,.slice T E c2,.slice H M I],.agg #[aa n,.bool r,.slice x G c3,.slice N F S,.bool R,.slice P n4 c4,.slice u z L]] w (ax w (.bool v)):=by
 obtain ⟨J,b⟩:∃ s,lC l.q i.q=s:=⟨_,rfl⟩;obtain ⟨O,a⟩:∃ s,lC p.q m.q=s:=⟨_,rfl⟩;have f:=Qh b;have g:=Qh a;have HV:=Qh hv;have H1:=Qh h1;have H2:=Qh h2;have H3:=Qh h3;have H4:=Qh h4;clear b a hv h1 h2 h3 h4;go_in;go_wp2_with fail;refine (uu _ A t D c1 B K y l.q k ?_ r x G c3 N F S i.q k ?_ J f.out c C c C).mono ?_;(exact (H1.out.qz).belw (((ae w).alloc Qr _).alloc (by simp) _));(exact (H3.out.qz).belw (((ae w).alloc Qr _).alloc (by simp) _));rintro e' w1 ⟨rfl,d⟩;have q1:=d.q2;have xa:Blk w1 w.heap.size 56 #[aa nm,.bool A,.slice t D c1,.slice B K y,.bool Q,.slice T E c2,.slice H M I]:=((ak _ _ _ (by simp)).alloc _).below d (by simp <;> omega);have xb:Blk w1 (w.heap.size+1) 56 #[aa n,.bool r,.slice x G c3,.slice N F S,.bool R,.slice P n4 c4,.slice u z L]:=(ak _ _ _ (by simp)).below d (by simp);clear d;by_cases b:J=0
 ·have es:(J==0)=true:=beq_iff_eq.2 b
  have o:l.q=i.q:=cd.1 (f.out.trans b);have V:=Qh o;have ac:=xa.cell 4;have U:=xa.cell 5;have ab:=xa.cell 6;have al:=xb.cell 4;have ad:=xb.cell 5;have Y:=xb.cell 6;clear b o;go_wp2_with fail;refine (uu _ Q T E c2 H M I p.q k ?_ R P n4 c4 u z L m.q k ?_ O g.out c C c C).mono ?_;(exact (H2.out.qz).belw q1);(exact (H4.out.qz).belw q1);rintro e' w2 ⟨rfl,Z⟩;have q2:=q1.trans (Z.mono q1.size);clear ac U ab al ad Y;by_cases a:O=0
  ·have W:(O==0)=true:=beq_iff_eq.2 a
   have j:p.q=m.q:=cd.1 (g.out.trans a);have X:v=true:=HV.out.symm.trans (by rw [decide_eq_true V.out,decide_eq_true j];rfl);clear a j;go_wp2;go_ret;exact ⟨by rw [X];rfl,q2⟩
  have W:(O==0)=false:=beq_eq_false_iff_ne.2 a;have h:v=false:=HV.out.symm.trans (by rw [decide_eq_false (fun e=>a (g.out.symm.trans (cd.2 e)))];simp);clear a;go_wp2;go_ret;exact ⟨by rw [h];rfl,q2⟩
 have es:(J==0)=false:=beq_eq_false_iff_ne.2 b;have h:v=false:=HV.out.symm.trans (by rw [decide_eq_false (fun e=>b (f.out.symm.trans (cd.2 e)))];rfl);clear b;go_wp2;go_ret;exact ⟨by rw [h];rfl,q1⟩
theorem B9 (w:World) (A:Option Addr) (n c:Nat) (B:Option Addr) (p d:Nat) (C:Option Addr) (q e:Nat) (L:ag) (k:Nat) (h:LkS k w A n c B p d C q e L) (hk:k<=10000000) (ee:0<k) (hn:n<=8) (hp:p<=16) (i:Nat) (hi:i<p) (j:aD) (di:L.joints[i]?=some j) (x:Int) (hx:aK L (L.joints.take i) j=x):Calls Tryz.prog 29 #[.agg #[aa L.name,.slice A n c,.slice B p d,.slice C q e],.int .i64 (i:Nat)] w (ax w (.int .i64 x)):=by
 have ez:=h.joints.2.1;obtain ⟨g,o,f,e1,hg,_,cL,hB⟩:=h.joints.at_ hi;subst e1;obtain rfl:f=j:=Option.some.inj (cL.symm.trans di);obtain ⟨c0,c1,c2,c3,c4,c5,c6,cm⟩:=hB;have HX:=Qh hx;have H:=Qh h;have HL:=Qh h.bodies.1;have HN:=Qh cm;have ex:((i:Int)<(p:Int)):=by omega
 obtain ⟨v,hv⟩:∃ v,aQ f.name=v:=⟨_,rfl⟩;have HV:=Qh hv;have eA:¬ g=w.heap.size:=by omega
 clear hx h cm hv cL di;go_in;go_wp2_with fail;refine (mQ _ f.name HN.out v HV.out).mono ?_;rintro e' w1 ⟨rfl,bs⟩;have q1:=bs.q2;have xL:Blk w1 w.heap.size 26 #[aa L.name,.slice A n c,.slice (some ⟨g,o,none⟩) p d,.slice C q e]:=((ak _ _ _ (by simp)).alloc _).below bs (by simp <;> omega);have x1:Blk w1 (w.heap.size+1) 81 #[aa f.name,.int .i64 f.kind,.int .i64 f.a,.int .i64 f.point,.int .i64 f.b,.int .i64 f.on,.int .i64 f.to_]:=(ak _ _ _ (by simp)).below bs (by simp);clear bs c0 c1 c2 c3 c4 c5 c6;cases v
 ·have h5:x=5:=HX.out.symm.trans (if_pos HV.out)
  go_wp2;go_ret;exact ⟨by rw [h5];rfl,q1⟩
 go_wp2_with fail;go_loopw [6] (fun jv wr=>∃ r:Nat,jv=.int .i64 (r:Nat)/\r<=i/\Hid (twN ((L.joints.take r).map aD.name) f.name=false)/\Below w1.heap.size w1 wr) (fun jv _=>i-(intOf jv).toNat)
 case atStart=>exact ⟨0,rfl,Nat.zero_le _,Qh rfl,ae w1⟩
 case round =>
  obtain ⟨r,rfl,hr,HT,bk⟩:=hrel;rename World=>w2;have T:=xL.below bk xL.lt;have x2:=x1.below bk x1.lt;have S:=q1.trans (bk.mono q1.size);rcases Nat.lt_or_ge r i with ek | eD
  ·have dO:((r:Int)<(i:Int))=True:=by simp;omega
   have ds:r<p:=by omega
   have eq:((r:Int)<(p:Int)):=by omega
   obtain ⟨a,ha,d0,_⟩:=(H.out.joints.jt S).rowAt ds;have ev:=T.cell 2;have z0:=x2.cell 0;have ew:=aF f.name;by_cases aC:a.name=f.name
   ·have h6:x=6:=by
     rw [<- HX.out];unfold aK;rw [HV.out,if_neg (by decide),if_pos (dH ha ek aC)]
    rw [aC] at d0;have ea:(f.name==f.name)=true:=by simp
    clear aC ha;go_wp2_with fail;go_quiet (fail);go_wp2;go_ret;exact ⟨by rw [h6];rfl,af S _⟩
   have ey:=aF a.name;have d7:=Qh (dU ha HT.out aC);have ea:(a.name==f.name)=false:=beq_eq_false_iff_ne.2 aC;clear aC ha HT;go_wp2_with fail;go_quiet (fail);go_wp2_with fail;go_roundw
   case rel=>exact ⟨r+1,by go_num,by omega,d7,af bk _⟩
   case measure=>simp [intOf];omega
  have dO:((r:Int)<(i:Int))=False:=by simp;omega
  obtain rfl:r=i:=by omega
  have db:bj L f=x:=by
   rw [<- HX.out];unfold aK;rw [HV.out,if_neg (by decide),HT.out,if_neg (by decide)]
  have HE:=Qh db;clear db;by_cases G:f.kind≠0/\f.kind≠1
  ·have e0:(f.kind==0)=false:=beq_eq_false_iff_ne.2 G.1
   have e1:(f.kind==1)=false:=beq_eq_false_iff_ne.2 G.2;have e2:(f.kind != 0)=true:=bne_iff_ne.2 G.1;have e3:(f.kind != 1)=true:=bne_iff_ne.2 G.2;have h7:x=7:=by rw [<- HE.out];exact if_pos G
   have z1:=x2.cell 1;clear G;go_wp2;go_ret;exact ⟨by rw [h7];rfl,S⟩
  have u:=Qh G;by_cases N:f.kind=0
  ·have e0:(f.kind==0)=true:=beq_iff_eq.2 N
   have e2:(f.kind != 0)=false:=by rw [N];rfl
   have a9:=Qh N;clear N G;have z1:=x2.cell 1;have z2:=x2.cell 2;have z:=T.cell 1;obtain ⟨v1,a6⟩:∃ v,inI f.a n=v:=⟨_,rfl⟩;obtain ⟨v2,a2⟩:∃ v,inI f.b n=v:=⟨_,rfl⟩;have l:=Qh a6;have s:=Qh a2;clear a6 a2;go_wp2_with fail;refine (nW _ f.a n v1 l.out).mono ?_;rintro e' w3 ⟨rfl,E⟩;have Q:=S.trans (E.mono S.size);have W:=T.below E T.lt;have x3:=x2.below E x2.lt;clear z1 z2 z E;cases v1
   ·have h9:x=9:=by rw [<- HE.out];unfold bj;rw [if_neg u.out,HL.out,if_pos l.out]
    go_wp2;go_ret;exact ⟨by rw [h9];rfl,Q⟩
   have z4:=x3.cell 4;have z:=W.cell 1;go_wp2_with fail;refine (nW _ f.b n v2 s.out).mono ?_;rintro e' w4 ⟨rfl,F⟩;have t:=Q.trans (F.mono Q.size);have cc:=W.below F W.lt;have x4:=x3.below F x3.lt;clear z4 z F;cases v2
   ·have h9:x=9:=by rw [<- HE.out];unfold bj;rw [if_neg u.out,HL.out,if_neg (by rw [l.out];decide),if_pos s.out]
    go_wp2;go_ret;exact ⟨by rw [h9];rfl,t⟩
   obtain ⟨an,Y,b8⟩:=ln l.out;obtain ⟨bn,X,bx⟩:=ln s.out;have HA:=Qh Y;have ad:=Qh X;have z:=cc.cell 1;have z2:=x4.cell 2;have z4:=x4.cell 4;rw [Y] at z2;rw [X] at z4;clear Y X;by_cases al:an=bn
   ·have b0:x=13:=by
     rw [<- HE.out];unfold bj;rw [if_neg u.out,HL.out,if_neg (by rw [l.out];decide),if_neg (by rw [s.out];decide),if_pos (by rw [HA.out,ad.out,al])]
    subst al;go_wp2;go_ret;exact ⟨by rw [b0];rfl,t⟩
   have ec:((an:Int)==(bn:Int))=false:=beq_eq_false_iff_ne.2 (by omega);obtain ⟨g2,o2,bb,ck,em,eb,a5,bY⟩:=(H.out.bodies.bd t).at_ bx;subst ck;obtain ⟨ab,M,ch⟩:=(H.out.bodies.bd t).rowAt b8;obtain ⟨Ab,nb,cb,k0,k1,Z,_⟩:=bY;obtain ⟨Aa,na,ca,l0,l1,aT,_⟩:=ch;have bg:ci L f.a=ab.pts:=by unfold ci;rw [HA.out];show (match L.bodies[an]? with | some b=>b.pts | none=>[])=_;rw [M]
   have aS:ci L f.b=bb.pts:=by unfold ci;rw [ad.out];show (match L.bodies[bn]? with | some b=>b.pts | none=>[])=_;rw [a5]
   have V:=Qh aT.1;have a0:=Qh Z.1;have cv:((bn:Nat):Int)<((n:Nat):Int):=by omega
   have cu:((an:Nat):Int)<((n:Nat):Int):=by omega
   obtain ⟨v3,a8⟩:∃ v,inI f.point na=v:=⟨_,rfl⟩;obtain ⟨v4,a7⟩:∃ v,inI f.on nb=v:=⟨_,rfl⟩;have D:=Qh a8;have O:=Qh a7;have bu:=Qh Z;have ao:=Qh bg;have a3:=Qh aS;have R:=Qh (show ¬ f.a=f.b by rw [HA.out,ad.out];omega);have z3:=x4.cell 3;clear a8 a7 Z aT bg aS a5 M al;go_wp2_with fail;go_quiet (fail);go_wp2_with fail;refine (nW _ f.point na v3 D.out).mono ?_;rintro e' w5 ⟨rfl,a4⟩;have I:Below w4.heap.size w4 w5:=aj (af (ae w4) _) a4;have ac:=t.trans (I.mono t.size);have x5:=x4.below I x4.lt;clear z2 z3 z4 z k0 k1 l0 l1 a4;cases v3
   ·have h9:x=9:=by
     rw [<- HE.out];unfold bj;rw [if_neg u.out,HL.out,if_neg (by rw [l.out];decide),if_neg (by rw [s.out];decide),if_neg R.out,ao.out,V.out,if_pos D.out]
    go_wp2;go_ret;exact ⟨by rw [h9];rfl,ac⟩
   have z5:=x5.cell 5;go_wp2_with fail;refine (nW _ f.on nb v4 O.out).mono ?_;rintro e' w6 ⟨rfl,J⟩;have bz:=I.trans (J.mono I.size);have U:=ac.trans (J.mono ac.size);have x6:=x5.below J x5.lt;clear z5 J;cases v4
   ·have h9:x=9:=by
     rw [<- HE.out];unfold bj;rw [if_neg u.out,HL.out,if_neg (by rw [l.out];decide),if_neg (by rw [s.out];decide),if_neg R.out,ao.out,V.out,if_neg (by rw [D.out];decide),a3.out,a0.out,if_pos O.out]
    go_wp2;go_ret;exact ⟨by rw [h9];rfl,U⟩
   have a1:x=(if f.kind=0 then (if f.to_=0 then 0 else 2) else if inI f.to_ nb=false then 9 else if eC bb.pts f.on f.to_=true then 8 else 0):=by
    rw [<- HE.out];unfold bj;rw [if_neg u.out,HL.out,if_neg (by rw [l.out];decide),if_neg (by rw [s.out];decide),if_neg R.out,ao.out,V.out,if_neg (by rw [D.out];decide),a3.out,a0.out,if_neg (by rw [O.out];decide)]
   have bf:=Qh a1;clear a1;have z1:=x6.cell 1;have z6:=x6.cell 6;by_cases K:f.to_=0
   ·have hx:x=0:=by rw [bf.out,if_pos a9.out,if_pos K]
    have t0:(f.to_==0)=true:=beq_iff_eq.2 K;have t1:(f.to_ != 0)=false:=by rw [K];rfl
    clear K;go_wp2;go_ret;exact ⟨by rw [hx];rfl,U⟩
   have hx:x=2:=by rw [bf.out,if_pos a9.out,if_neg K]
   have t0:(f.to_==0)=false:=beq_eq_false_iff_ne.2 K;have t1:(f.to_ != 0)=true:=bne_iff_ne.2 K;clear K;go_wp2;go_ret;exact ⟨by rw [hx];rfl,U⟩
  have e0:(f.kind==0)=false:=beq_eq_false_iff_ne.2 N;have e2:(f.kind != 0)=true:=bne_iff_ne.2 N;have b9:f.kind=1:=by omega
  have e1:(f.kind==1)=true:=beq_iff_eq.2 b9;have e3:(f.kind != 1)=false:=by rw [b9];rfl
  have a9:=Qh N;clear N G b9;have z1:=x2.cell 1;have z2:=x2.cell 2;have z:=T.cell 1;obtain ⟨v1,a6⟩:∃ v,inI f.a n=v:=⟨_,rfl⟩;obtain ⟨v2,a2⟩:∃ v,inI f.b n=v:=⟨_,rfl⟩;have l:=Qh a6;have s:=Qh a2;clear a6 a2;go_wp2_with fail;refine (nW _ f.a n v1 l.out).mono ?_;rintro e' w3 ⟨rfl,E⟩;have Q:=S.trans (E.mono S.size);have W:=T.below E T.lt;have x3:=x2.below E x2.lt;clear z1 z2 z E;cases v1
  ·have h9:x=9:=by rw [<- HE.out];unfold bj;rw [if_neg u.out,HL.out,if_pos l.out]
   go_wp2;go_ret;exact ⟨by rw [h9];rfl,Q⟩
  have z4:=x3.cell 4;have z:=W.cell 1;go_wp2_with fail;refine (nW _ f.b n v2 s.out).mono ?_;rintro e' w4 ⟨rfl,F⟩;have t:=Q.trans (F.mono Q.size);have cc:=W.below F W.lt;have x4:=x3.below F x3.lt;clear z4 z F;cases v2
  ·have h9:x=9:=by rw [<- HE.out];unfold bj;rw [if_neg u.out,HL.out,if_neg (by rw [l.out];decide),if_pos s.out]
   go_wp2;go_ret;exact ⟨by rw [h9];rfl,t⟩
  obtain ⟨an,Y,b8⟩:=ln l.out;obtain ⟨bn,X,bx⟩:=ln s.out;have HA:=Qh Y;have ad:=Qh X;have z:=cc.cell 1;have z2:=x4.cell 2;have z4:=x4.cell 4;rw [Y] at z2;rw [X] at z4;clear Y X;by_cases al:an=bn
  ·have b0:x=13:=by
    rw [<- HE.out];unfold bj;rw [if_neg u.out,HL.out,if_neg (by rw [l.out];decide),if_neg (by rw [s.out];decide),if_pos (by rw [HA.out,ad.out,al])]
   subst al;go_wp2;go_ret;exact ⟨by rw [b0];rfl,t⟩
  have ec:((an:Int)==(bn:Int))=false:=beq_eq_false_iff_ne.2 (by omega);obtain ⟨g2,o2,bb,ck,em,eb,a5,bY⟩:=(H.out.bodies.bd t).at_ bx;subst ck;obtain ⟨ab,M,ch⟩:=(H.out.bodies.bd t).rowAt b8;obtain ⟨Ab,nb,cb,k0,k1,Z,_⟩:=bY;obtain ⟨Aa,na,ca,l0,l1,aT,_⟩:=ch;have bg:ci L f.a=ab.pts:=by unfold ci;rw [HA.out];show (match L.bodies[an]? with | some b=>b.pts | none=>[])=_;rw [M]
  have aS:ci L f.b=bb.pts:=by unfold ci;rw [ad.out];show (match L.bodies[bn]? with | some b=>b.pts | none=>[])=_;rw [a5]
  have V:=Qh aT.1;have a0:=Qh Z.1;have cv:((bn:Nat):Int)<((n:Nat):Int):=by omega
  have cu:((an:Nat):Int)<((n:Nat):Int):=by omega
  obtain ⟨v3,a8⟩:∃ v,inI f.point na=v:=⟨_,rfl⟩;obtain ⟨v4,a7⟩:∃ v,inI f.on nb=v:=⟨_,rfl⟩;have D:=Qh a8;have O:=Qh a7;have bu:=Qh Z;have ao:=Qh bg;have a3:=Qh aS;have R:=Qh (show ¬ f.a=f.b by rw [HA.out,ad.out];omega);have z3:=x4.cell 3;clear a8 a7 Z aT bg aS a5 M al;go_wp2_with fail;go_quiet (fail);go_wp2_with fail;refine (nW _ f.point na v3 D.out).mono ?_;rintro e' w5 ⟨rfl,a4⟩;have I:Below w4.heap.size w4 w5:=aj (af (ae w4) _) a4;have ac:=t.trans (I.mono t.size);have x5:=x4.below I x4.lt;clear z2 z3 z4 z k0 k1 l0 l1 a4;cases v3
  ·have h9:x=9:=by
    rw [<- HE.out];unfold bj;rw [if_neg u.out,HL.out,if_neg (by rw [l.out];decide),if_neg (by rw [s.out];decide),if_neg R.out,ao.out,V.out,if_pos D.out]
   go_wp2;go_ret;exact ⟨by rw [h9];rfl,ac⟩
  have z5:=x5.cell 5;go_wp2_with fail;refine (nW _ f.on nb v4 O.out).mono ?_;rintro e' w6 ⟨rfl,J⟩;have bz:=I.trans (J.mono I.size);have U:=ac.trans (J.mono ac.size);have x6:=x5.below J x5.lt;clear z5 J;cases v4
  ·have h9:x=9:=by
    rw [<- HE.out];unfold bj;rw [if_neg u.out,HL.out,if_neg (by rw [l.out];decide),if_neg (by rw [s.out];decide),if_neg R.out,ao.out,V.out,if_neg (by rw [D.out];decide),a3.out,a0.out,if_pos O.out]
   go_wp2;go_ret;exact ⟨by rw [h9];rfl,U⟩
  have a1:x=(if f.kind=0 then (if f.to_=0 then 0 else 2) else if inI f.to_ nb=false then 9 else if eC bb.pts f.on f.to_=true then 8 else 0):=by
   rw [<- HE.out];unfold bj;rw [if_neg u.out,HL.out,if_neg (by rw [l.out];decide),if_neg (by rw [s.out];decide),if_neg R.out,ao.out,V.out,if_neg (by rw [D.out];decide),a3.out,a0.out,if_neg (by rw [O.out];decide)]
  have bf:=Qh a1;clear a1;have z1:=x6.cell 1;have z6:=x6.cell 6;obtain ⟨v5,c9⟩:∃ v,inI f.to_ nb=v:=⟨_,rfl⟩;have bl:=Qh c9;clear c9;go_wp2_with fail;refine (nW _ f.to_ nb v5 bl.out).mono ?_;rintro e' P ⟨rfl,br⟩;have dq:=bz.trans (br.mono bz.size);have b5:=U.trans (br.mono U.size);have x7:=x6.below br x6.lt;clear z1 z6 br;cases v5
  ·have hx:x=9:=by rw [bf.out,if_neg a9.out,if_pos bl.out]
   go_wp2;go_ret;exact ⟨by rw [hx];rfl,b5⟩
  obtain ⟨on,bv,cp⟩:=ln O.out;obtain ⟨tn,bw,c8⟩:=ln bl.out;have z5:P.cell? ⟨w.heap.size+1,5,none⟩=some (.int .i64 (on:Nat)):=by have:=x7.cell 5;rw [bv] at this;exact this
  have z6:P.cell? ⟨w.heap.size+1,6,none⟩=some (.int .i64 (tn:Nat)):=by have:=x7.cell 6;rw [bw] at this;exact this
  have es:w.heap.size+1<P.heap.size:=x7.lt;obtain ⟨g3,o3,m,ei,et,eo,hm,hM⟩:=(bu.out.mk_ dq).at_ cp;subst ei;obtain ⟨m',cn,dv⟩:=(bu.out.mk_ dq).rowAt c8;obtain ⟨d0,⟨b1,A1,n1,c1,D1,m1,f1,d1,d2,d3,dr⟩,⟨b2,A2,n2,c2,D2,m2,f2,d4,d5,d6,c7⟩,_⟩:=hM;obtain ⟨y0,⟨b3,A3,n3,c3,D3,m3,f3,y1,y2,y3,dn⟩,⟨b4,A4,n4,c4,D4,m4,f4,y4,y5,y6,cz⟩,_⟩:=dv;have d2:P.cell? ⟨g3,o3+on*7+2,none⟩=some (.slice A1 n1 c1):=d2;have d3:P.cell? ⟨g3,o3+on*7+3,none⟩=some (.slice D1 m1 f1):=d3;have d5:P.cell? ⟨g3,o3+on*7+5,none⟩=some (.slice A2 n2 c2):=d5;have d6:P.cell? ⟨g3,o3+on*7+6,none⟩=some (.slice D2 m2 f2):=d6;have y2:P.cell? ⟨g3,o3+tn*7+2,none⟩=some (.slice A3 n3 c3):=y2;have y3:P.cell? ⟨g3,o3+tn*7+3,none⟩=some (.slice D3 m3 f3):=y3;have y5:P.cell? ⟨g3,o3+tn*7+5,none⟩=some (.slice A4 n4 c4):=y5;have y6:P.cell? ⟨g3,o3+tn*7+6,none⟩=some (.slice D4 m4 f4):=y6
  have cy:eC bb.pts f.on f.to_=(decide (m.x.q=m'.x.q)&&decide (m.y.q=m'.y.q)):=by
   unfold eC;rw [bv,bw];show (match bb.pts[on]?,bb.pts[tn]? with | some p,some q=>decide (p.x.q=q.x.q)&&decide (p.y.q=q.y.q) | _,_=>false)=_;rw [hm,cn]
  have ed:=Qh cy;have ej:=Qh dr;have eg:=Qh c7;have el:=Qh dn;have eh:=Qh cz;have ep:((on:Nat):Int)<((nb:Nat):Int):=by omega
  have en:((tn:Nat):Int)<((nb:Nat):Int):=by omega
  obtain ⟨vs,b7⟩:∃ v,(decide (m.x.q=m'.x.q)&&decide (m.y.q=m'.y.q))=v:=⟨_,rfl⟩;have d9:=Qh b7;have cx:x=if vs=true then 8 else 0:=by rw [bf.out,if_neg a9.out,if_neg (by rw [bl.out];decide),ed.out,b7]
  have cr:=Qh cx;clear cy dr c7 dn cz hm cn bv bw b7 cx;go_wp2_with fail
  go_region_held3 (fun w'=>Sees P.heap.size P w') (first | with_reducible exact Sees.of Qr (by assumption) | with_reducible exact Sees.of Qr (ae _).drew | exact Sees.of Qr (af (ae _) 1) | exact Sees.of Qr (af (by assumption) _))
   (first
    | (go_at_call 53;(with_reducible refine (DJ _ k hk ee m.name m'.name b1 A1 n1 c1 D1 m1 f1 m.x ?_ b2 A2 n2 c2 D2 m2 f2 m.y ?_ b3 A3 n3 c3 D3 m3 f3 m'.x ?_ b4 A4 n4 c4 D4 m4 f4 m'.y ?_ vs d9.out).mono ?_);(exact ej.out);(exact eg.out);(exact el.out);(exact eh.out);rintro e' w8 ⟨rfl,b6⟩;replace b6:=aj (af (ae _) 1) b6;have q8:Below P.heap.size P w8:=aj (ae P) b6))
  have cs:=b5.trans (q8.mono b5.size);cases vs
  ·have hx:x=0:=cr.out
   go_wp2;go_ret;exact ⟨by first | rfl | (rw [hx];rfl),cs⟩
  have hx:x=8:=cr.out;go_wp2;go_ret;exact ⟨by first | rfl | (rw [hx];rfl),cs⟩
theorem Ca (w:World) (A:Option Addr) (n c:Nat) (B:Option Addr) (p d:Nat) (C:Option Addr) (q e:Nat) (L:ag) (k:Nat) (h:LkS k w A n c B p d C q e L) (hk:k<=10000000) (br:0<k) (x:Int) (hx:aG L=x) :
 Calls Tryz.prog 11 #[.agg #[aa L.name,.slice A n c,.slice B p d,.slice C q e]] w (ax w (.int .i64 x)):=by
 have al:=h.bodies.1;obtain ⟨v,hv⟩:∃ v,aQ L.name=v:=⟨_,rfl⟩;have HV:=Qh hv;have HX:=Qh hx;have HL:=Qh al;have S:=Qh h.joints.1;have W:=Qh h.drivers.1;have H:=Qh h;clear hv hx al h;go_in;go_wp2_with fail;refine (mQ _ L.name H.out.name v HV.out).mono ?_;rintro e' w1 ⟨rfl,ad⟩;have q1:=ad.q1;have x1:Blk w1 w.heap.size 26 #[aa L.name,.slice A n c,.slice B p d,.slice C q e]:=(ak _ _ _ (by simp)).below ad (by simp);clear ad;cases v
 ·have h5:x=5:=by rw [<- HX.out];unfold aG;rw [if_pos HV.out]
  go_wp2;go_ret;exact ⟨by rw [h5];rfl,q1⟩
 have G:x=if n=0 then 10 else if 8<n then 4 else if bt aL [] L.bodies≠0 then bt aL [] L.bodies
  else if 16<p then 4 else if bt (aK L) [] L.joints≠0 then bt (aK L) [] L.joints
  else if 2<q then 4 else bt (aA n) [] L.drivers:=by
  rw [<- HX.out];unfold aG;rw [if_neg (by rw [HV.out];decide),HL.out,S.out,W.out]
 obtain ⟨P,I⟩:∃ y,bt aL [] L.bodies=y:=⟨_,rfl⟩;obtain ⟨y2,Q⟩:∃ y,bt (aK L) [] L.joints=y:=⟨_,rfl⟩;obtain ⟨y3,ab⟩:∃ y,bt (aA n) [] L.drivers=y:=⟨_,rfl⟩;rw [I,Q,ab] at G;have Z:=Qh G;have bf:=Qh I;have a3:=Qh (cK Q);have ao:=Qh (cK ab);clear G I Q ab;have l:=x1.cell 1;by_cases h0:n=0
 ·have e0:((n:Int)==0)=true:=beq_iff_eq.2 (by omega)
  have a5:((n:Int)=0)=True:=eq_true (by omega);have a8:x=10:=by rw [Z.out,if_pos h0]
  clear h0;go_wp2;go_ret;exact ⟨by rw [a8];rfl,q1⟩
 have e0:((n:Int)==0)=false:=beq_eq_false_iff_ne.2 (by omega);have a5:((n:Int)=0)=False:=eq_false (by omega);by_cases h8:8<n
 ·have e8:((8:Int)<(n:Int))=True:=eq_true (by omega)
  have h4:x=4:=by rw [Z.out,if_neg h0,if_pos h8]
  go_wp2;go_ret;exact ⟨by rw [h4];rfl,q1⟩
 have e8:((8:Int)<(n:Int))=False:=eq_false (by omega);have ac:=Z.out;rw [if_neg h0,if_neg h8] at ac;have aT:=Qh ac;have X:n<=8:=by omega
 have m:=x1.cell 0;have f:=x1.cell 2;have o:=x1.cell 3;clear ac h0 h8;go_wp2_with fail;refine (zD _ A n c B p d C q e L k (H.out.belw q1) hk X P bf.out).mono ?_;rintro e' w2 ⟨rfl,aC⟩;have q2:=q1.trans (aC.mono q1.size);have x2:=x1.below aC x1.lt;clear m l f o;by_cases F:P=0
 case neg =>
  have bb:x=P:=by rw [aT.out,if_pos F]
  have f0:(P==0)=false:=beq_eq_false_iff_ne.2 F;have f1:(P != 0)=true:=bne_iff_ne.2 F;clear F;go_wp2;go_ret;exact ⟨by rw [bb];rfl,q2⟩
 have T:=aT.out;rw [if_neg (by simp [F])] at T;have a2:=Qh T;have f0:(P==0)=true:=beq_iff_eq.2 F;have f1:(P != 0)=false:=by rw [F];rfl
 have f:=x2.cell 2;clear T F;by_cases J:16<p
 ·have a9:((16:Int)<(p:Int))=True:=eq_true (by omega)
  have h4:x=4:=by rw [a2.out,if_pos J]
  go_wp2;go_ret;exact ⟨by rw [h4];rfl,q2⟩
 have a9:((16:Int)<(p:Int))=False:=eq_false (by omega);have an:p<=16:=by omega
 have V:=a2.out;rw [if_neg J] at V;have U:=Qh V;clear V J;go_wp2_with fail;clear f;go_loopw [4] (fun O wr=>∃ i:Nat,O=.int .i64 (i:Nat)/\i<=p/\Hid (bt (aK L) (L.joints.take i) (L.joints.drop i)=y2)/\Below w2.heap.size w2 wr) (fun O _=>p-(intOf O).toNat)
 case atStart=>exact ⟨0,rfl,Nat.zero_le _,a3,ae w2⟩
 case round =>
  clear a3;obtain ⟨i,rfl,hi,HP,D⟩:=hrel;rename World=>w3;have x3:=x2.below D x2.lt;have q3:=q2.trans (D.mono q2.size);have m:=x3.cell 0;have l:=x3.cell 1;have f:=x3.cell 2;have o:=x3.cell 3;rcases Nat.lt_or_ge i p with r | bn
  ·have a7:((i:Int)<(p:Int))=True:=by simp;omega
   obtain ⟨j,hj⟩:∃ j,L.joints[i]?=some j:=⟨_,List.getElem?_eq_getElem (by rw [S.out];exact r)⟩;have g:=cX HP.out hj;obtain ⟨z,K⟩:∃ z,aK L (L.joints.take i) j=z:=⟨_,rfl⟩;rw [K] at g;have HZ:=Qh K;have t:=Qh g;have HJ:=Qh hj;clear hj g K HP;go_wp2_with fail;refine (B9 _ A n c B p d C q e L k (H.out.belw q3) hk br X an i r j HJ.out z HZ.out).mono ?_;rintro e' w4 ⟨rfl,a4⟩;have q4:=q3.trans (a4.mono q3.size);clear m l f o;by_cases a:z=0
   ·have N:Hid (bt (aK L) (L.joints.take (i+1)) (L.joints.drop (i+1))=y2):=Qh (by
     rcases t.out with ⟨_,u⟩ | ⟨u,_⟩
     ·exact u
     exact absurd a u)
    have g0:(z==0)=true:=beq_iff_eq.2 a;have g1:(z != 0)=false:=by rw [a];rfl
    clear a;go_wp2_with fail;go_roundw
    case rel=>exact ⟨i+1,by go_num,by omega,N,D.trans (a4.mono D.size)⟩
    case measure=>simp [intOf];omega
   ·have Y:x=z:=by
     rcases t.out with ⟨u,_⟩ | ⟨_,u⟩
     ·exact absurd u a
     rw [U.out,<- u,if_pos a]
    have g0:(z==0)=false:=beq_eq_false_iff_ne.2 a;have g1:(z != 0)=true:=bne_iff_ne.2 a;clear a;go_wp2;go_ret;exact ⟨by rw [Y];rfl,q4⟩
  have a7:((i:Int)<(p:Int))=False:=by simp;omega
  have a1:y2=0:=dT HP.out (by rw [S.out];exact bn);have M:=U.out;rw [if_neg (by simp [a1])] at M;have aS:=Qh M;clear M a1 U;by_cases h2:2<q
  ·have e2:((2:Int)<(q:Int))=True:=eq_true (by omega)
   have h4:x=4:=by rw [aS.out,if_pos h2]
   go_wp2;go_ret;exact ⟨by rw [h4];rfl,q3⟩
  have e2:((2:Int)<(q:Int))=False:=eq_false (by omega);have bg:q<=2:=by omega
  have bk:x=y3:=by rw [aS.out,if_neg h2]
  subst bk;clear h2;go_wp2_with fail;clear m l f o;go_loopw [6] (fun O wr=>∃ i:Nat,O=.int .i64 (i:Nat)/\i<=q/\Hid (bt (aA n) (L.drivers.take i) (L.drivers.drop i)=x)/\Below w3.heap.size w3 wr) (fun O _=>q-(intOf O).toNat)
  case atStart=>exact ⟨0,rfl,Nat.zero_le _,ao,ae w3⟩
  case round =>
   clear ao;obtain ⟨s,rfl,hs,R,E⟩:=hrel;rename World=>w5;have x5:=x3.below E x3.lt;have q5:=q3.trans (E.mono q3.size);have m:=x5.cell 0;have l:=x5.cell 1;have f:=x5.cell 2;have o:=x5.cell 3;rcases Nat.lt_or_ge s q with r | bd
   ·have bl:((s:Int)<(q:Int))=True:=by simp;omega
    obtain ⟨b,hb⟩:∃ b,L.drivers[s]?=some b:=⟨_,List.getElem?_eq_getElem (by rw [W.out];exact r)⟩;have g:=cX R.out hb;obtain ⟨z,K⟩:∃ z,aA n (L.drivers.take s) b=z:=⟨_,rfl⟩;rw [K] at g;have HZ:=Qh K;have t:=Qh g;have HB:=Qh hb;clear hb g K R;go_wp2_with fail;refine (zE _ A n c B p d C q e L k (H.out.belw q5) hk X bg s r b HB.out z HZ.out).mono ?_;rintro e' w6 ⟨rfl,a0⟩;have q6:=q5.trans (a0.mono q5.size);clear m l f o;by_cases a:z=0
    ·have N:Hid (bt (aA n) (L.drivers.take (s+1)) (L.drivers.drop (s+1))=x):=Qh (by
      rcases t.out with ⟨_,u⟩ | ⟨u,_⟩
      ·exact u
      exact absurd a u)
     have g0:(z==0)=true:=beq_iff_eq.2 a;have g1:(z != 0)=false:=by rw [a];rfl
     clear a;go_wp2_with fail;go_roundw
     case rel=>exact ⟨s+1,by go_num,by omega,N,E.trans (a0.mono E.size)⟩
     case measure=>simp [intOf];omega
    ·have Y:x=z:=by
      rcases t.out with ⟨u,_⟩ | ⟨_,u⟩
      ·exact absurd u a
      exact u.symm
     have g0:(z==0)=false:=beq_eq_false_iff_ne.2 a;have g1:(z != 0)=true:=bne_iff_ne.2 a;clear a;go_wp2;go_ret;exact ⟨by rw [Y];rfl,q6⟩
   have bl:((s:Int)<(q:Int))=False:=by simp;omega
   have a6:x=0:=dT R.out (by rw [W.out];exact bd);go_wp2;go_ret;exact ⟨by rw [a6];rfl,q5⟩
def lgM (m:MarkL):Bool:=decide (40<m.x.num.length+m.x.den.length+m.y.num.length+m.y.den.length)
def lgB (b:BodyL):Bool:=decide (40<b.pts.length)||b.pts.any lgM
def lgL (L:ag):Bool:=decide (40<L.bodies.length)||decide (60<L.joints.length)||decide (40<L.drivers.length)||L.bodies.any lgB
theorem wrap_i64 {u:Int}(a:-9223372036854775808<=u) (b:u<=9223372036854775807):IntKind.i64.wrap u=u:=by rw [IntKind.wrap_i64];omega
theorem uI {n:Nat}(h:n<=reachBytes):n<=140737488355328:=by unfold reachBytes at h;omega
theorem cY.words {k:Nat}{w:World}{g o:Nat}{r:RD}(h:cY w g o r k):RdW r:=by
 obtain ⟨b,A,n,c,D,m,e,_,_,_,a⟩:=h;exact ⟨a.2.1.1,a.2.2.1.1⟩
theorem SlS.markW {k:Nat}{w:World}{A:Option Addr}{n c:Nat}{l:List MarkL}(h:SlS (cT k) 7 w A n c l):∀ m∈l,MkW m:=by
 intro m j;obtain ⟨i,f,e⟩:=List.getElem_of_mem j;obtain ⟨g,o,a,_,_,_,b,d⟩:=h.at_ (i:=i) (by rw [<- h.1];exact f);rw [List.getElem?_eq_getElem f] at b;injection b with b;rw [<- b,e] at d;exact ⟨d.2.1.words,d.2.2.1.words⟩
theorem LkS.words {k:Nat}{w:World}{A B C:Option Addr}{n c p d q e:Nat}{L:ag}(h:LkS k w A n c B p d C q e L):LkW L:=by
 intro b hb;obtain ⟨i,l,r⟩:=List.getElem_of_mem hb;obtain ⟨g,o,a,_,_,_,f,j⟩:=h.bodies.at_ (i:=i) (by rw [<- h.bodies.1];exact l);rw [List.getElem?_eq_getElem l] at f;injection f with f;rw [<- f,r] at j;obtain ⟨u,s,t,_,_,m,_⟩:=j;exact m.markW
theorem cY.small {K k:Nat}{w:World}{g o:Nat}{r:RD}(h:cY w g o r K) (f:r.num.length<=k) (d:r.den.length<=k):cY w g o r k:=by
 obtain ⟨b,A,n,c,D,m,e,c1,c2,c3,a⟩:=h;refine ⟨b,A,n,c,D,m,e,c1,c2,c3,a.1,a.2.1,a.2.2.1,?_,?_⟩
 ·rw [a.2.1.2.1];exact f
 rw [a.2.2.1.2.1];exact d
theorem wN {m:MarkL}(h:lgM m=false):m.x.num.length<=40/\m.x.den.length<=40/\m.y.num.length<=40/\m.y.den.length<=40:=by
 unfold lgM at h;simp at h;omega
theorem SlS.mono_ {α:Type}{P d:World->Nat->Nat->α->Prop}{s:Nat}{w:World}{A:Option Addr}{n c:Nat}{l:List α}(h:SlS P s w A n c l) (m:∀ g o a,a∈l->P w g o a->d w g o a):SlS d s w A n c l:=by
 refine ⟨h.1,h.2.1,fun k=>?_⟩;obtain ⟨g,o,e,f,j⟩:=h.2.2 k;exact ⟨g,o,e,f,fun i a b=>m _ _ _ (List.mem_of_getElem? b) (j i a b)⟩
theorem SlS.marks40 {K:Nat}{w:World}{A:Option Addr}{n c:Nat}{l:List MarkL}(h:SlS (cT K) 7 w A n c l) (d:l.any lgM=false):SlS (cT 40) 7 w A n c l :=
 h.mono_ fun g o m b a=>by
  have:=wN (by simpa using List.any_eq_false.1 d m b);exact ⟨a.1,a.2.1.small this.1 this.2.1,a.2.2.1.small this.2.2.1 this.2.2.2,a.2.2.2⟩
theorem LkS.of40 {K:Nat}{w:World}{A B C:Option Addr}{n c p d q e:Nat}{L:ag}(h:LkS K w A n c B p d C q e L) (f:lgL L=false):LkS 40 w A n c B p d C q e L:=by
 unfold lgL at f;simp only [Bool.or_eq_false_iff] at f;refine ⟨h.name,h.bodies.mono_ fun g o b hb m=>?_,h.joints,h.drivers⟩;obtain ⟨l,i,j,c0,c1,k,r⟩:=m;have a:lgB b=false:=by simpa using List.any_eq_false.1 f.2 b hb
 unfold lgB at a;rw [Bool.or_eq_false_iff] at a;exact ⟨l,i,j,c0,c1,k.marks40 a.2,r⟩
def mkO:MarkL:=⟨[79],rd 0,rd 0⟩
def mkC:MarkL:=⟨[67],rd 4,rd 0⟩
def bdF:BodyL:=⟨[102,114,97,109,101],[mkO,mkC]⟩
theorem qv0 (w:World):QV w false none 0 0 none 0 0 0 40:=QV.zero w 40
def VSl {α:Type}(P:World->Nat->Nat->α->Prop) (s n:Nat) (l:List α):Value->World->Prop:=fun v w=>∃ g,v=.slice (some ⟨g,0,none⟩) n n/\SlS P s w (some ⟨g,0,none⟩) n n l
theorem FR {α:Type}{P:World->Nat->Nat->α->Prop}{s g:Nat}{w:World}{a b:α}(f:g<w.heap.size) (h:P w g 0 a) (d:P w g s b):SlS P s w (some ⟨g,0,none⟩) 2 2 [a,b]:=by
 refine ⟨rfl,Qr,fun _=>⟨g,0,rfl,f,fun i x c=>?_⟩⟩
 match i,c with
 | 0,c=>simp at c;subst c;simpa using h
 | 1,c=>simp at c;subst c;simpa using d
theorem E4 {α:Type}{P:World->Nat->Nat->α->Prop}{s g:Nat}{w:World}{a:α}(c:g<w.heap.size) (d:P w g 0 a):SlS P s w (some ⟨g,0,none⟩) 1 1 [a]:=by
 refine ⟨rfl,Qr,fun _=>⟨g,0,rfl,c,fun i x b=>?_⟩⟩
 match i,b with
 | 0,b=>simp at b;subst b;simpa using d
theorem QV.rd_ {w:World}{b:Bool}{A D:Option Addr}{n c m e k:Nat}{q:Rat}(h:QV w b A n c D m e q k):QD w b A n c D m e (rd q) k:=h
theorem sj {w:World}{g o:Nat}{nm:List UInt8}{x y:RD}{b f:Bool}{A D i j:Option Addr}{n c m e a d k h:Nat}(q:w.cell? ⟨g,o,none⟩=some (aa nm)) (s:w.cell? ⟨g,o+1,none⟩=some (.bool b)) (p:w.cell? ⟨g,o+2,none⟩=some (.slice A n c)) (u:w.cell? ⟨g,o+3,none⟩=some (.slice D m e))
 (r:w.cell? ⟨g,o+4,none⟩=some (.bool f)) (t:w.cell? ⟨g,o+5,none⟩=some (.slice i a d)) (z:w.cell? ⟨g,o+6,none⟩=some (.slice j k h)) (l:QD w b A n c D m e x 40) (k2:QD w f i a d j k h y 40) (v:NmL nm):cT 40 w g o ⟨nm,x,y⟩ :=
 ⟨q,⟨b,A,n,c,D,m,e,s,p,u,l⟩,⟨f,i,a,d,j,k,h,r,t,z,k2⟩,v⟩
theorem FS {w:World}{nm:List UInt8}{p q:RD}{b f:Bool}{A D h i:Option Addr}{n c m e a d j g:Nat}{t:TypeId}(o:QD w b A n c D m e p 40) (l:QD w f h a d i j g q 40) (k:decide (nm.length<1000)=true) :
 VSl (cT 40) 7 2 [mkO,⟨nm,p,q⟩] (.slice (some ⟨w.heap.size,0,none⟩) 2 2) (w.alloc (.cells #[.string ⟨#[79]⟩,.bool false,.slice none 0 0,.slice none 0 0,.bool false,.slice none 0 0,.slice none 0 0,aa nm,.bool b,.slice A n c,.slice D m e,.bool f,.slice h a d,.slice i j g] t)):=by
 have x:=Blk.new w t #[.string ⟨#[79]⟩,.bool false,.slice none 0 0,.slice none 0 0,.bool false,.slice none 0 0,.slice none 0 0,aa nm,.bool b,.slice A n c,.slice D m e,.bool f,.slice h a d,.slice i j g];have hb:=(ae w).alloc Qr (.cells #[.string ⟨#[79]⟩,.bool false,.slice none 0 0,.slice none 0 0,.bool false,.slice none 0 0,.slice none 0 0,aa nm,.bool b,.slice A n c,.slice D m e,.bool f,.slice h a d,.slice i j g] t);have k:=of_decide_eq_true k;exact ⟨w.heap.size,rfl,FR x.lt (sj (x.cell 0) (x.cell 1) (x.cell 2) (x.cell 3) (x.cell 4) (x.cell 5) (x.cell 6) (qv0 _).rd_ (qv0 _).rd_ (by unfold NmL;decide)) (sj (x.cell 7) (x.cell 8) (x.cell 9) (x.cell 10) (x.cell 11) (x.cell 12) (x.cell 13) (o.belw hb) (l.belw hb) (by unfold NmL;omega))⟩
theorem LkS.upto {k i:Nat}{w:World}{A B C:Option Addr}{n c p d q e:Nat}{L:ag}(h:LkS k w A n c B p d C q e L) (j:k<=i):LkS i w A n c B p d C q e L:=by
 have l:∀ g o r,cY w g o r k->cY w g o r i:=fun g o r ⟨b,A,n,c,D,m,e,x,t,E,a⟩=>⟨b,A,n,c,D,m,e,x,t,E,a.1,a.2.1,a.2.2.1,Nat.le_trans a.2.2.2.1 j,Nat.le_trans a.2.2.2.2 j⟩
 refine ⟨h.name,h.bodies.mono_ fun g o b _ z=>?_,h.joints,h.drivers⟩;obtain ⟨y,s,u,c0,c1,v,F⟩:=z;exact ⟨y,s,u,c0,c1,v.mono_ fun g o m _ f=>⟨f.1,l _ _ _ f.2.1,l _ _ _ f.2.2.1,f.2.2.2⟩,F⟩
theorem CG (w:World) (A:Option Addr) (n c:Nat) (B:Option Addr) (p d:Nat) (C:Option Addr) (q e:Nat) (L:ag) (h:LkS 500 w A n c B p d C q e L) (a:Tab w):Calls Tryz.prog 34 #[.agg #[aa L.name,.slice A n c,.slice B p d,.slice C q e]] w (fun i f=>i=.returned (.tuple #[aa (dI L),bo (cg L)])/\Below w.heap.size w f):=by
 by_cases hc:aG L=0
 ·exact B8 w A n c B p d C q e L h a hc
 have b:cg L=aG L:=if_pos hc;have g:dI L=[]:=if_neg (by rw [b];exact hc);rw [b,g];exact zB w A n c B p d C q e L h hc
def wO (k:Nat) (w:World) (g o:Nat) (L:ag):Prop:=∃ A n c B p d C q e,w.cell? ⟨g,o,none⟩=some (aa L.name)/\w.cell? ⟨g,o+1,none⟩=some (.slice A n c)/\w.cell? ⟨g,o+2,none⟩=some (.slice B p d)/\w.cell? ⟨g,o+3,none⟩=some (.slice C q e)/\LkS k w A n c B p d C q e L
theorem wO.belw {k:Nat}{w a:World}{g o:Nat}{L:ag}(h:wO k w g o L) (hb:Below w.heap.size w a):wO k a g o L:=by
 obtain ⟨A,n,c,B,p,d,C,q,e,f,j,b,l,i⟩:=h;exact ⟨A,n,c,B,p,d,C,q,e,ai f hb,ai j hb,ai b hb,ai l hb,i.belw hb⟩
theorem SlS.lk {k:Nat}{w a:World}{A:Option Addr}{n c:Nat}{l:List ag}(h:SlS (wO k) 4 w A n c l) (hb:Below w.heap.size w a):SlS (wO k) 4 a A n c l:=h.belw (fun _ _ _ h=>h.belw hb) hb
def LkC (k:Nat) (w:World) (cs:List Value) (L:ag):Prop:=∃ A n c B p d C q e,cs=[aa L.name,.slice A n c,.slice B p d,.slice C q e]/\LkY k w A n c B p d C q e L
theorem LkC.tch {T:TypeId->Bool}{k:Nat}{w a:World}{cs:List Value}{L:ag}(h:LkC k w cs L) (t:Tch T w a) (i:T 51=false) (b:T 81=false) (l:T 86=false) (g:T 56=false):LkC k a cs L:=by
 obtain ⟨A,n,c,B,p,d,C,q,e,f,j⟩:=h;exact ⟨A,n,c,B,p,d,C,q,e,f,j.tch t i b l g⟩
theorem LkC.at_ {k:Nat}{w:World}{cs:List Value}{L:ag}{g o:Nat}(x:LkC k w cs L) (a:∀ j u,cs[j]?=some u->w.cell? ⟨g,o+j,none⟩=some u):wO k w g o L:=by
 obtain ⟨A,n,c,B,p,d,C,q,e,rfl,b⟩:=x;exact ⟨A,n,c,B,p,d,C,q,e,a 0 _ rfl,a 1 _ rfl,a 2 _ rfl,a 3 _ rfl,b.out⟩
abbrev FT (k:Nat) (w:World) (base:Nat) (v:Value) (n:Nat) (Ls:List ag):Prop:=aq 26 (LkC k) 4 w base v n Ls
theorem Cb:(Tryz.prog.info? 26).map (fun i=>(i.zero,i.size,i.bytes))=some (some (.agg #[.string ⟨#[]⟩,.slice none 0 0,.slice none 0 0,.slice none 0 0]),4,88):=by kernel_rfl
theorem aq.more {k:Nat}{w c:World}{base:Nat}{v:Value}{n:Nat}{f:List ag}{L:ag}{d cs:List Value}{g:Value}(l:f.length=n) (b:OwJ noW w base 26 4 v n d) (o:co (LkC k) 4 w f d) (q:LkC k w cs L) (p:OwJ noW c base 26 4 g (n+1) (d++cs)) (i:w.grownBy c v.ownBlock) (j:cs.length=4):FT k c base g (n+1) (f++[L]):=by
 have t:Tch (bi 26) w c:=Tch.grown (fun _ h=>h) (by simp [bi]) b i;have m:∀ cs a,LkC k w cs a->LkC k c cs a:=fun _ _ x=>x.tch t (by decide) (by decide) (by decide) (by decide)
 exact ⟨by rw [List.length_append,l];rfl,d++cs,p,(o.map_ m).snoc (m _ _ q) j⟩
structure bL where
  kind:Int
  name:List UInt8
  text:List UInt8
def EdC (_:World) (cs:List Value) (e:bL):Prop:=cs=[.int .i64 e.kind,aa e.name,aa e.text]
def jz (w:World) (g o:Nat) (e:bL):Prop:=w.cell? ⟨g,o,none⟩=some (.int .i64 e.kind)/\w.cell? ⟨g,o+1,none⟩=some (aa e.name)/\w.cell? ⟨g,o+2,none⟩=some (aa e.text)
theorem EdC.at_ {w:World}{cs:List Value}{e:bL}{g o:Nat}(x:EdC w cs e) (a:∀ j u,cs[j]?=some u->w.cell? ⟨g,o+j,none⟩=some u):jz w g o e:=by
 subst x;exact ⟨a 0 _ rfl,a 1 _ rfl,a 2 _ rfl⟩
theorem jz.belw {w a:World}{g o:Nat}{e:bL}(h:jz w g o e) (hb:Below w.heap.size w a):jz a g o e:=⟨ai h.1 hb,ai h.2.1 hb,ai h.2.2 hb⟩
abbrev FU (w:World) (base:Nat) (v:Value) (n:Nat) (l:List bL):Prop:=aq 39 EdC 3 w base v n l
theorem aq.eds {w:World}{base:Nat}{A:Option Addr}{n c:Nat}{l:List bL}(h:FU w base (.slice A n c) n l):SlS jz 3 w A n c l:=(h.slT (P:=jz) fun _ _ _ _ x a=>x.at_ a).sl fun _ _ _ x=>x
theorem OwJ.cut {J:Value->Bool}{w:World}{base:Nat}{e:TypeId}{size:Nat}{g n cap:Nat}{d:List Value}(h:OwJ J w base e size (.slice (some ⟨g,0,none⟩) n cap) n d) {m:Nat}(o:m<=n):OwJ J w base e size (.slice (some ⟨g,0,none⟩) m cap) m (d.take (m*size)):=by
 have b:m*size<=n*size:=Nat.mul_le_mul_right _ o;refine ⟨by rw [List.length_take,h.1];omega,?_⟩;rcases h.2 with ⟨a,_⟩ | ⟨r,c,cur,a,f,l,q,j,p,i,k⟩
 ·cases a
 injection a with a1 _ a3;injection a1 with a1;injection a1 with a1;subst a1 a3;exact .inr ⟨g,cap,cur,rfl,f,l,by omega,j,p,by rw [<- i,List.take_take,Nat.min_eq_left b],k⟩
theorem co.cut {α:Type}{Pc:World->List Value->α->Prop}{s:Nat}{w:World}{l:List α}{k:List Value}(h:co Pc s w l k) (m:Nat):co Pc s w (l.take m) (k.take (m*s)):=by
 obtain ⟨b,e,p,d,n⟩:=h
 have o:∀ (b:List (List Value)) (m:Nat),(∀ cs∈b,cs.length=s)->b.flatten.take (m*s)=(b.take m).flatten:=by
  intro b
  induction b with
  | nil=>intro m _;simp
  | cons c b ih =>
   intro m f
   cases m with
   | zero=>simp
   | succ m =>
    rw [List.take_succ_cons,List.flatten_cons,List.flatten_cons,List.take_append,f c (by simp),<- ih m fun x q=>f x (by simp [q]),List.take_of_length_le (by rw [f c (by simp),Nat.succ_mul];omega),show (m+1)*s-s=m*s by rw [Nat.succ_mul];omega]
 refine ⟨b.take m,by rw [e,o b m d],by rw [List.length_take,List.length_take,p],fun cs j=>d cs (List.mem_of_mem_take j),fun i a cs g f=>?_⟩;rw [List.getElem?_take] at g f;split at g
 ·rename_i r
  rw [if_pos r] at f;exact n i a cs g f
 cases g
theorem aq.cut {α:Type}{T0:TypeId}{Pc:World->List Value->α->Prop}{s:Nat}{w:World}{base:Nat}{g n cap:Nat}{l:List α}(h:aq T0 Pc s w base (.slice (some ⟨g,0,none⟩) n cap) n l) {m:Nat}(a:m<=n):aq T0 Pc s w base (.slice (some ⟨g,0,none⟩) m cap) m (l.take m):=by
 obtain ⟨b,f,d,c⟩:=h;exact ⟨by rw [List.length_take,b];omega,_,d.cut a,c.cut m⟩
structure gc where
  now:ag
  before:List ag
  done:List bL
  undone:List bL
end Go.Proofs.YtndhgcfajlalhaaGreatDoor
