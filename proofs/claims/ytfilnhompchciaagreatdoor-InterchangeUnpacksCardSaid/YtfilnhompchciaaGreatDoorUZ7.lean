/- Part UZ7: lemmas and walks that the claim rests on. No claim is made here. -/
import Derived.Test.YtfilnhompchciaaGreatDoorUZ6
set_option linter.unusedVariables false
set_option linter.unusedSimpArgs false
set_option maxHeartbeats 8000000
set_option maxRecDepth 100000
/- Walks: the reference reader: word (the region by stages). -/
namespace Go.Proofs.YtfilnhompchciaaGreatDoor
open Go Go.RowKit Bn
attribute [local go_sem ↓] Go.wp_at_zero Go.wp_at_succ
def TR(W w:World)(gx gy:Nat)(A:Option Addr)(n c:Nat)(l:List Tkn)(cx cz cy:Array Value)(k:Nat)(wq:World):Prop :=
  Below W.heap.size W wq/\TkS wq A n c l/\Blk wq gx 94 cx/\w.heap.size<=wq.heap.size/\((k<3/\Blk wq gy 94 cz)\/(k=3/\Blk wq gy 94 cy))
theorem TR.belw{W w:World}{i o:Nat}{A:Option Addr}{n c:Nat}{l:List Tkn}{m j g:Array Value}{k:Nat}{b d:World}(h:TR W w i o A n c l m j g k b)(t:W.heap.size<=w.heap.size)(hb:Below b.heap.size b d)(q:k+1<3):TR W w i o A n c l m j g (k+1) d:=by
 obtain⟨s,p,f,r,a⟩:=h;refine⟨s.trans (hb.mono (by omega)),p.belw hb,f.below hb f.lt,Nat.le_trans r hb.size,.inl ⟨q,?_⟩⟩;rcases a with⟨_,a⟩|⟨a,_⟩
 ·exact a.below hb a.lt
 omega
theorem Blk.s70{w:World}{g t:Nat}{j b c d a f i:Value}(h:Blk w g t #[j,b,c,d,a,f,i])(u:Value):Blk (w.setCell ⟨g,0,none⟩ u) g t #[u,b,c,d,a,f,i]:=h.set_ 0 u
theorem Blk.s71{w:World}{g t:Nat}{b j c d a f i:Value}(h:Blk w g t #[b,j,c,d,a,f,i])(u:Value):Blk (w.setCell ⟨g,1,none⟩ u) g t #[b,u,c,d,a,f,i]:=h.set_ 1 u
theorem Blk.s72{w:World}{g t:Nat}{b c j d a f i:Value}(h:Blk w g t #[b,c,j,d,a,f,i])(u:Value):Blk (w.setCell ⟨g,2,none⟩ u) g t #[b,c,u,d,a,f,i]:=h.set_ 2 u
theorem Blk.s73{w:World}{g t:Nat}{b c d j a f i:Value}(h:Blk w g t #[b,c,d,j,a,f,i])(u:Value):Blk (w.setCell ⟨g,3,none⟩ u) g t #[b,c,d,u,a,f,i]:=h.set_ 3 u
theorem Blk.s74{w:World}{g t:Nat}{a b c d j f i:Value}(h:Blk w g t #[a,b,c,d,j,f,i])(u:Value):Blk (w.setCell ⟨g,4,none⟩ u) g t #[a,b,c,d,u,f,i]:=h.set_ 4 u
theorem Blk.s75{w:World}{g t:Nat}{b c d f a j i:Value}(h:Blk w g t #[b,c,d,f,a,j,i])(u:Value):Blk (w.setCell ⟨g,5,none⟩ u) g t #[b,c,d,f,a,u,i]:=h.set_ 5 u
theorem Blk.s76{w:World}{g t:Nat}{b c d f a i j:Value}(h:Blk w g t #[b,c,d,f,a,i,j])(u:Value):Blk (w.setCell ⟨g,6,none⟩ u) g t #[b,c,d,f,a,i,u]:=h.set_ 6 u
theorem TR.fin{W w:World}{o a:Nat}{A:Option Addr}{n c:Nat}{l:List Tkn}{v:Array Value}{t z1 z2 z3 u r q b0 f i j k b5 g:Value}{s:World}(h:TR W w o a A n c l v #[t,z1,z2,z3,u,r,q] #[b0,f,i,j,k,b5,g] 2 s)(y:TkS W A n c l)(b:o≠a)(d:W.heap.size<=a):
 TR W w o a A n c l v #[t,z1,z2,z3,u,r,q] #[b0,f,i,j,k,b5,g] 3 (((((((s.setCell ⟨a,0,none⟩ b0).setCell ⟨a,1,none⟩ f).setCell ⟨a,2,none⟩ i).setCell ⟨a,3,none⟩ j).setCell ⟨a,4,none⟩ k).setCell ⟨a,5,none⟩ b5).setCell ⟨a,6,none⟩ g):=by
 obtain⟨B,_,x,z,m⟩:=h;have hb:=(((((((B.setCell (p:=⟨a,0,none⟩) d b0).setCell (p:=⟨a,1,none⟩) d f).setCell (p:=⟨a,2,none⟩) d i).setCell (p:=⟨a,3,none⟩) d j).setCell (p:=⟨a,4,none⟩) d k).setCell (p:=⟨a,5,none⟩) d b5).setCell (p:=⟨a,6,none⟩) d g);rcases m with⟨_,m⟩|⟨m,_⟩
 ·exact⟨hb,y.belw hb,(((((((x.far (p:=⟨a,0,none⟩) b b0).far (p:=⟨a,1,none⟩) b f).far (p:=⟨a,2,none⟩) b i).far (p:=⟨a,3,none⟩) b j).far (p:=⟨a,4,none⟩) b k).far (p:=⟨a,5,none⟩) b b5).far (p:=⟨a,6,none⟩) b g),by simp[World.setCell,z],.inr ⟨rfl,(((((((m.s70 b0).s71 f).s72 i).s73 j).s74 k).s75 b5).s76 g)⟩⟩
 omega
theorem TR.y{W w:World}{j d:Nat}{A:Option Addr}{n c:Nat}{l:List Tkn}{g a i:Array Value}{f:World}(h:TR W w j d A n c l g a i 2 f):Blk f d 94 a:=by
 rcases h.2.2.2.2 with⟨_,b⟩|⟨b,_⟩
 ·exact b
 omega
theorem TR.tk{W w:World}{i f:Nat}{A:Option Addr}{n c:Nat}{l:List Tkn}{d b g:Array Value}{k:Nat}{a:World}(h:TR W w i f A n c l d b g k a):TkS a A n c l:=h.2.1
theorem TR.drew{W w:World}{i d:Nat}{A:Option Addr}{n c:Nat}{l:List Tkn}{b a f:Array Value}{k:Nat}{g:World}(h:TR W w i d A n c l b a f k g):TR W w i d A n c l b a f k g.drew :=
 ⟨h.1.drew,h.2.1,h.2.2.1,h.2.2.2.1,h.2.2.2.2⟩
theorem iA(w:World)(A:Option Addr)(n c:Nat)(l:List Tkn)(h:TkS w A n c l)(Y:n<=65536)(p:Nat)(W:p<=n)(x:Int)(d:List UInt8)(g:Option Addr)(m q:Nat)(s:Option Addr)(a f:Nat)(B3:Option Addr)(b r:Nat)(T:Nat × Int × List UInt8)(u:takeF l p x (bZ l p x 0)=T):
 Calls Tryz.prog 45 #[.agg #[.slice A n c,.int .i64 (p:Nat),.int .i64 x,ae d,.slice g m q,.slice s a f,.slice B3 b r]] w (av w (.tuple #[.agg #[.slice A n c,.int .i64 (T.1:Nat),.int .i64 T.2.1,ae d,.slice g m q,.slice s a f,.slice B3 b r],ae T.2.2])):=by
 have HT:=Qh u;have X:=Qh h;clear u h;go_in;go_wp2_with fail;have S:=(Blk.new w 94 #[.slice A n c,.int .i64 (p:Nat),.int .i64 x,ae d,.slice g m q,.slice s a f,.slice B3 b r]).alloc (.cells #[.slice none 0 0,.int .i64 0,.int .i64 0,.string ⟨#[]⟩,.slice none 0 0,.slice none 0 0,.slice none 0 0] 94);have V:=Blk.new (w.alloc (.cells #[.slice A n c,.int .i64 (p:Nat),.int .i64 x,ae d,.slice g m q,.slice s a f,.slice B3 b r] 94)) 94 #[.slice none 0 0,.int .i64 0,.int .i64 0,.string ⟨#[]⟩,.slice none 0 0,.slice none 0 0,.slice none 0 0];have hB:=((aa w).alloc Qr (.cells #[.slice A n c,.int .i64 (p:Nat),.int .i64 x,ae d,.slice g m q,.slice s a f,.slice B3 b r] 94)).alloc (by simp) (.cells #[.slice none 0 0,.int .i64 0,.int .i64 0,.string ⟨#[]⟩,.slice none 0 0,.slice none 0 0,.slice none 0 0] 94);have Q:TR w ((w.alloc (.cells #[.slice A n c,.int .i64 (p:Nat),.int .i64 x,ae d,.slice g m q,.slice s a f,.slice B3 b r] 94)).alloc (.cells #[.slice none 0 0,.int .i64 0,.int .i64 0,.string ⟨#[]⟩,.slice none 0 0,.slice none 0 0,.slice none 0 0] 94)) w.heap.size (w.heap.size+1) A n c l #[.slice A n c,.int .i64 (p:Nat),.int .i64 x,ae d,.slice g m q,.slice s a f,.slice B3 b r] #[.slice none 0 0,.int .i64 0,.int .i64 0,.string ⟨#[]⟩,.slice none 0 0,.slice none 0 0,.slice none 0 0] #[.slice A n c,.int .i64 (T.1:Nat),.int .i64 T.2.1,ae d,.slice g m q,.slice s a f,.slice B3 b r] 0 _:=⟨hB,X.out.belw hB,S,Qr,.inl ⟨by decide,by simpa using V⟩⟩;have N:=Qh Q;clear S V hB Q;generalize (w.alloc (.cells #[.slice A n c,.int .i64 (p:Nat),.int .i64 x,ae d,.slice g m q,.slice s a f,.slice B3 b r] 94)).alloc (.cells #[.slice none 0 0,.int .i64 0,.int .i64 0,.string ⟨#[]⟩,.slice none 0 0,.slice none 0 0,.slice none 0 0] 94)=w2 at N⊢;refine nP [2,3,6] (n:=7) (fr:=fun z=>⟨List.toArray (.agg #[.slice A n c,.int .i64 (p:Nat),.int .i64 x,ae d,.slice g m q,.slice s a f,.slice B3 b r] :: .pointer (some ⟨w.heap.size,0,none⟩) :: .pointer (some ⟨w.heap.size+1,0,none⟩) :: .string ⟨#[]⟩::z 0::z 1::z 2::z 3::z 4::z 5::[]),[]⟩) (x0:=fun _=>undef) (R:=fun ri=>List.getD (VE (.agg #[.slice A n c,.int .i64 (p:Nat),.int .i64 x,ae d,.slice g m q,.slice s a f,.slice B3 b r])::VE (.agg #[.slice A n c,.int .i64 (p:Nat),.int .i64 x,ae d,.slice g m q,.slice s a f,.slice B3 b r])::VE (.bool (bZ l p x 0))::VE (.tuple #[.agg #[.slice A n c,.int .i64 (T.1:Nat),.int .i64 T.2.1,ae d,.slice g m q,.slice s a f,.slice B3 b r],ae T.2.2])::VE (.agg #[.slice A n c,.int .i64 (T.1:Nat),.int .i64 T.2.1,ae d,.slice g m q,.slice s a f,.slice B3 b r])::VE (ae T.2.2)::VA::[]) ri VA) (T:=fun k _ D=>TR w w2 w.heap.size (w.heap.size+1) A n c l #[.slice A n c,.int .i64 (p:Nat),.int .i64 x,ae d,.slice g m q,.slice s a f,.slice B3 b r] #[.slice none 0 0,.int .i64 0,.int .i64 0,.string ⟨#[]⟩,.slice none 0 0,.slice none 0 0,.slice none 0 0] #[.slice A n c,.int .i64 (T.1:Nat),.int .i64 T.2.1,ae d,.slice g m q,.slice s a f,.slice B3 b r] k D) (by kernel_rfl) rfl ?_ ?_ ?_ ?_ ?_ ?_ ?_ ?_ ?_ ?_ ?_
 ·exact aD ⟨(fun _ _ _=>rfl),(fun _ _ _=>rfl),(fun _ _ _=>rfl),(fun _ _ _=>rfl),(fun _ _ _=>rfl),(fun _ _ _=>rfl),(fun _ _ _=>rfl),(fun h=>absurd h (by decide)),trivial⟩
 ·exact aD (bP _ 0 (by kernel_rfl))
 ·exact(fun j F=>fk (by kernel_rfl) F)
 ·decide
 ·intro j F
  obtain rfl|rfl|rfl:=(show j=0\/j=1\/j=2 by simp at F;omega)
  ·exact⟨2,rfl,rfl⟩
  ·exact⟨3,rfl,rfl⟩
  exact⟨6,rfl,rfl⟩
 ·intro i o j B F
  have H:=fy F;obtain rfl|rfl:=(show j=0\/j=1 by simp at H;omega)
  ·injection F with F;subst F
   injection B with B;subst B;exact⟨⟨2,.data⟩,by simp,rfl,rfl⟩
  injection F with F;subst F;injection B with B;subst B;exact⟨⟨3,.chain⟩,by simp,rfl,rfl⟩
 ·exact fun _ _ _ _ _ _ h=>h
 ·exact N.out.drew
 ·refine aD ⟨?_,?_,(fun _ h=>absurd (by decide) h),(fun _ h=>absurd (by decide) h),?_,?_,(fun _ h=>absurd (by decide) h),(fun h=>absurd h (by decide)),trivial⟩
  ·intro _ _ k z D u hd K C
   obtain⟨x0,x1,x2,x3,x4,x5,x6⟩:=u.2.2.1.c7;(try dsimp only);go_simp;have t:=C.out _ rfl;exact t
  ·intro _ _ k z D u hd K C
   obtain⟨x0,x1,x2,x3,x4,x5,x6⟩:=u.2.2.1.c7;(try dsimp only);go_simp;have t:=C.out _ rfl;exact t
  ·intro _ _ k z D u hd K C
   have E:z 3=.tuple #[.agg #[.slice A n c,.int .i64 (T.1:Nat),.int .i64 T.2.1,ae d,.slice g m q,.slice s a f,.slice B3 b r],ae T.2.2]:=hd ⟨3,.data⟩ (by simp) rfl;(try dsimp only);(try simp only[E]);go_simp;have t:=C.out _ rfl;dsimp only at t;simp only[E]at t;exact t
  intro _ _ k z D u hd K C;have E:z 3=.tuple #[.agg #[.slice A n c,.int .i64 (T.1:Nat),.int .i64 T.2.1,ae d,.slice g m q,.slice s a f,.slice B3 b r],ae T.2.2]:=hd ⟨3,.data⟩ (by simp) rfl;(try dsimp only);(try simp only[E]);go_simp;have t:=C.out _ rfl;dsimp only at t;simp only[E]at t;exact t
 ·intro k i o G B
  have H:=fy G;obtain rfl|rfl|rfl:=(show k=0\/k=1\/k=2 by simp at H;omega)
  ·injection G with G;subst G
   injection B with B;subst B;intro z D u hd K C;have M:z 1=.agg #[.slice A n c,.int .i64 (p:Nat),.int .i64 x,ae d,.slice g m q,.slice s a f,.slice B3 b r]:=hd ⟨1,.data⟩ (by simp) rfl;(try dsimp only);(try simp only[M]);go_simp;go_at_call 83;refine(uO _ A n c l u.tk Y p W x d g m q s a f B3 b r 0 0 rfl _ rfl).mono ?_;rintro e wr⟨rfl,hb⟩;have t:=C.out _ _ rfl (u.belw N.out.1.size hb (by decide));dsimp only at t;simp only[M]at t;exact t
  ·injection G with G;subst G
   injection B with B;subst B;intro z D u hd K C;have J:z 0=.agg #[.slice A n c,.int .i64 (p:Nat),.int .i64 x,ae d,.slice g m q,.slice s a f,.slice B3 b r]:=hd ⟨0,.data⟩ (by simp) rfl;have I:z 2=.bool (bZ l p x 0):=hd ⟨2,.data⟩ (by simp) rfl;(try dsimp only);(try simp only[J,I]);go_simp;go_at_call 81;refine(lZ _ A n c l u.tk Y p W x d g m q s a f B3 b r (bZ l p x 0)).mono ?_;rintro e wr⟨Z,hb⟩;rw[HT.out]at Z;subst Z;have t:=C.out _ _ rfl (u.belw N.out.1.size hb (by decide));dsimp only at t;simp only[J,I]at t;exact t
  injection G with G;subst G;injection B with B;subst B;intro z D u hd K C;have L:z 4=.agg #[.slice A n c,.int .i64 (T.1:Nat),.int .i64 T.2.1,ae d,.slice g m q,.slice s a f,.slice B3 b r]:=hd ⟨4,.data⟩ (by simp) rfl;have O:=TR.y u;obtain⟨y0,y1,y2,y3,y4,y5,y6⟩:=O.c7;have f0:=O.f7;(try dsimp only);(try simp only[L]);go_simp;have t:=C.out undef _ trivial (TR.fin u X.out (by omega) (by omega));dsimp only at t;simp only[L]at t;exact t
 intro o B z D u hr K C;injection B with B;subst B;have P:z 5=ae T.2.2:=hr 5 (by decide);have u:TR w w2 w.heap.size (w.heap.size+1) A n c l _ _ _ 3 D:=u;have hb:=u.1
 have O:Blk D (w.heap.size+1) 94 #[.slice A n c,.int .i64 (T.1:Nat),.int .i64 T.2.1,ae d,.slice g m q,.slice s a f,.slice B3 b r]:=by
  rcases u.2.2.2.2 with⟨U,_⟩|⟨_,U⟩
  ·omega
  exact U
 obtain⟨y0,y1,y2,y3,y4,y5,y6⟩:=O.c7;(try dsimp only);(try simp only[P]);go_simp;refine C.out _ _ ?_;go_wp2_with fail;refine zr1 (.tuple #[.agg #[.slice A n c,.int .i64 (T.1:Nat),.int .i64 T.2.1,ae d,.slice g m q,.slice s a f,.slice B3 b r],ae T.2.2]) ?_;exact⟨rfl,hb⟩
section
variable (P:Program) (ops:Array Oper) (Q:Exit->Act->World->Prop) (fr:(Nat->Value)->Act) (R:Nat->Value->Prop) (T:Nat->(Nat->Value)->World->Prop)
def oX(b i:Nat)(o:Oper):Prop :=
  ∀ k x wq,k<=b->T k x wq->(∀e∈o.after,Region.binds .any e=true->R e.on (x e.on))->∀K':Act->World->Prop,Shut (∀v,R i v->K' ((fr x).put o.dst v) wq) ->
      if Region.wanted o (yielded ops (fr x).tmps)=true then Oper.wp P o (fr x) wq K' Q else K' ((fr x).put o.dst undef) wq
end
section
variable {P:Program}{ops:Array Oper}{Q:Exit->Act->World->Prop}{fr:(Nat->Value)->Act}{R:Nat->Value->Prop}{T:Nat->(Nat->Value)->World->Prop}{st:Nat->Option Nat}{K:Nat}{id:Nat}{w:World}{x0:Nat->Value}
theorem nS(bd:Nat->Nat)(hm:P.follows .mixedOrders=true)
 (z:∀i o,ops[i]?=some o->∀x v,(fr x).put o.dst v=fr (upd x i v))
 (ac:∀i o,ops[i]?=some o->∀e∈o.after,Region.binds .any e=true->e.on<i)
 (I:∀i j,st i=some j->i<ops.size/\j<K)
 (H:∀i b j,st i=some j->st b=some j->i=b)
 (J:∀j,j<K->∃i,st i=some j)
 (p:∀i o j,ops[i]?=some o->st i=some (j+1)->∃e∈o.after,Region.binds .any e=true/\st e.on=some j)
 (hT:∀k x i v w,st i=none->T k x w->T k (upd x i v) w)
 (h0:T 0 x0 w.drew)
 (f:∀i,st i=none->K<=bd i\/∃b U,st b=some (bd i)/\ops[b]?=some U/\∃e∈U.after,Region.binds .any e=true/\e.on=i)
 (C:∀i o,ops[i]?=some o->st i=none->oX P ops Q fr R T (bd i) i o)
 (q:∀i o k,ops[i]?=some o->st i=some k->ig P ops Q fr R T k i o)
 (D:∀x wq,T K x wq->(∀j,j<ops.size->R j (x j))->Q .normal (fr x) wq) :
 (Code.region id ops true).wp P Q (fr x0) w:=by
 refine Hc hm (fJ (fun L a w'=>E7 ops fr R T st K L a w') ?_ ?_ _ _ _ _ (by simp) ?_ ?_)
 ·rintro L a N i hs M⟨x,k,rfl,F,n,g,S,s⟩
  obtain⟨r,o,t,c⟩:=GL.1 M
  have l:i<L.size:=by
   rcases Nat.lt_or_ge i L.size with h|h
   ·exact h
   rw[pn,zP h]at r;cases r
  have u:L.getD i false=false:=by
   rw[pn,sr l]at r⊢;exact r
  have y:∀e∈o.after,Region.binds .any e=true->R e.on (x e.on):=fun e A f=>S _ (c e A f)
  refine Ik t fun K' hK=>?_
  have E:∀v,R i v->∀j,(L.setIfInBounds i true).getD j false=true->R j (upd x i v j):=by
   intro v hv j d;by_cases h:j=i
   ·subst h;rw[db];exact hv
   rw[aN _ _ h];rw[ak l]at d;exact S j (by simpa[h]using d)
  cases hsi:st i with
  |none =>
   have ab:k<=bd i:=by
    rcases f i hsi with h|⟨b,U,O,h2,e,A,hb,X⟩
    ·omega
    rcases Nat.lt_or_ge (bd i) k with h|h
    ·have h3:=(g b (bd i) O).2 h
     have h4:=s b U h2 h3 e A hb;rw[X,u]at h4;cases h4
    exact h
   refine C i o t hsi k x N ab n y K' (fun v B=>hK _ _ ⟨upd x i v,k,z i o t x v,F,hT _ _ _ _ _ hsi n,fun b j d=>?_,E v B,gY l t c s⟩);have V:b≠i:=by rintro rfl;rw[hsi]at d;cases d
   rw[ak l,<-g b j d];simp[V]
  |some j0 =>
   have hk:k=j0:=by
    have O:¬j0<k:=fun h=>by
     have:=(g i j0 hsi).2 h;rw[u]at this;cases this
    cases j0 with
    |zero=>omega
    |succ j =>
     obtain⟨e,A,f,ad⟩:=p i o j t hsi;have:=(g e.on j ad).1 (c e A f);omega
   subst hk;refine q i o k t hsi x N n y K' (fun v w' B al=>hK _ _ ⟨upd x i v,k+1,z i o t x v,(I i k hsi).2,al,fun b j d=>?_,E v B,gY l t c s⟩);rw[ak l];by_cases h:b=i
   ·subst h
    rw[hsi]at d;injection d with d;subst d;simp
   have an:j≠k:=fun e=>h (H _ _ _ d (by rw[e];exact hsi))
   rw[show (decide (b=i)||L.getD b false)=L.getD b false by simp[h],g b j d];omega
 ·rintro L a N hs Z⟨x,k,rfl,F,n,g,S,s⟩
  have m:∀i,i<ops.size->L.getD i false=true:=by
   intro i
   induction i using Nat.strongRecOn with
   |ind i ih =>
    intro M;cases h:L.getD i false
    ·exfalso
     have:i∈Region.ready .any ops L:=by
      refine GL.2 ⟨?_,ops[i],sr M,fun e A f=>?_⟩
      ·rw[pn,sr (by omega)]at h⊢;exact h
      have O:=ac i _ (sr M) e A f;exact ih e.on O (by omega)
     rw[Z]at this;cases this
    rfl
  have W:k=K:=by
   rcases Nat.lt_or_ge k K with h|h
   ·obtain⟨b,G⟩:=J k h
    have:=(g b k G).1 (m b (I b k G).1);omega
   omega
  subst W;exact D x N n (fun j d=>S j (m j d))
 ·simp
 ·have Y:∀j,(Array.replicate ops.size false).getD j false=false:=by
   intro j;rw[pn,Gs];split<;>rfl
  refine⟨x0,0,rfl,Nat.zero_le _,h0,fun i j d=>?_,fun i h=>?_,fun i o _ h=>?_⟩
  ·rw[Y];simp
  ·rw[Y]at h;cases h
  rw[Y]at h;cases h
end
section
variable {P:Program}{ops:Array Oper}{Q:Exit->Act->World->Prop}{fr:(Nat->Value)->Act}{R:Nat->Value->Prop}{T:Nat->(Nat->Value)->World->Prop}{id:Nat}{w:World}{x0:Nat->Value}
theorem eX(sl:List Nat)(bd:Nat->Nat)(u:P.follows .mixedOrders=true)
 (l:∀i o,ops[i]?=some o->∀x v,(fr x).put o.dst v=fr (upd x i v))
 (n:∀i o,ops[i]?=some o->∀e∈o.after,Region.binds .any e=true->e.on<i)
 (p:∀i∈sl,i<ops.size) (g:∀j,j<sl.length->∃i,sl[j]?=some i/\stl sl i=some j)
 (a:∀i o j,ops[i]?=some o->sl[j+1]?=some i->∃e∈o.after,Region.binds .any e=true/\stl sl e.on=some j)
 (z:∀k x i v w,i ∉ sl->T k x w->T k (upd x i v) w)
 (s:T 0 x0 w.drew)
 (r:∀i,i ∉ sl->sl.length<=bd i\/∃q o',stl sl q=some (bd i)/\ops[q]?=some o'/\∃e∈o'.after,Region.binds .any e=true/\e.on=i)
 (c:∀i o,ops[i]?=some o->i ∉ sl->oX P ops Q fr R T (bd i) i o)
 (b:∀k i o,sl[k]?=some i->ops[i]?=some o->ig P ops Q fr R T k i o)
 (f:∀x wq,T sl.length x wq->(∀j,j<ops.size->R j (x j))->Q .normal (fr x) wq) :
 (Code.region id ops true).wp P Q (fr x0) w :=
 nS (R:=R) (T:=T) (st:=stl sl) (K:=sl.length) bd u l n
  (fun i j h=>⟨p i (pk (df h)),fy (df h)⟩)
  (fun i q j h y=>by have m:=df h;rw[df y]at m;injection m with m;exact m.symm)
  (fun j h=>by obtain⟨i,_,t⟩:=g j h;exact⟨i,t⟩)
  (fun i o j d h=>a i o j d (df h))
  (fun k x i v w h=>z k x i v w (jf h)) s
  (fun i h=>r i (jf h))
  (fun i o d h=>c i o d (jf h))
  (fun i o k d h=>b k i o (df h) d) f
end
theorem dM{B g:Nat}{a w:World}(h:Below B a w)(hB:B<=g)(b0 b d i f b5 c:Value):Below B a (((((((w.setCell ⟨g,0,none⟩ b0).setCell ⟨g,1,none⟩ b).setCell ⟨g,2,none⟩ d).setCell ⟨g,3,none⟩ i).setCell ⟨g,4,none⟩ f).setCell ⟨g,5,none⟩ b5).setCell ⟨g,6,none⟩ c) :=
 (((((((h.setCell (p:=⟨g,0,none⟩) hB b0).setCell (p:=⟨g,1,none⟩) hB b).setCell (p:=⟨g,2,none⟩) hB d).setCell (p:=⟨g,3,none⟩) hB i).setCell (p:=⟨g,4,none⟩) hB f).setCell (p:=⟨g,5,none⟩) hB b5).setCell (p:=⟨g,6,none⟩) hB c)
abbrev frX(u0 u1 u2 u3 u4 u13:Value)(xf:Nat->Value):Act:=⟨List.toArray (u0::u1::u2::u3::u4::xf 5::xf 0::xf 1::xf 2::xf 3::xf 4::xf 6::xf 7::u13::[]),[]⟩
theorem dA(w:World)(A:Option Addr)(n c:Nat)(l:List Tkn)(h:TkS w A n c l)(hn:n<=65536)(p:Nat)(hp:p<=n)(x:Int)(b:List UInt8)(g:Option Addr)(m q:Nat)(r:Option Addr)(s d:Nat)(B3:Option Addr)(a t:Nat)(text:List UInt8)(T:Nat × Int × List UInt8)(u:takeF l p x (aR l p x text)=T):
 Calls Tryz.prog 44 #[.agg #[.slice A n c,.int .i64 (p:Nat),.int .i64 x,ae b,.slice g m q,.slice r s d,.slice B3 a t],ae text] w (av w (.agg #[.slice A n c,.int .i64 (T.1:Nat),.int .i64 T.2.1,ae b,.slice g m q,.slice r s d,.slice B3 a t])):=by
 have HT:=Qh u;have HK:=Qh h;clear u h;go_in;go_wp2_with fail;have Y:=(Blk.new w 94 #[.slice A n c,.int .i64 (p:Nat),.int .i64 x,ae b,.slice g m q,.slice r s d,.slice B3 a t]).alloc (.cells #[.slice none 0 0,.int .i64 0,.int .i64 0,.string ⟨#[]⟩,.slice none 0 0,.slice none 0 0,.slice none 0 0] 94);have hY:=Blk.new (w.alloc (.cells #[.slice A n c,.int .i64 (p:Nat),.int .i64 x,ae b,.slice g m q,.slice r s d,.slice B3 a t] 94)) 94 #[.slice none 0 0,.int .i64 0,.int .i64 0,.string ⟨#[]⟩,.slice none 0 0,.slice none 0 0,.slice none 0 0];have hB:=((aa w).alloc Qr (.cells #[.slice A n c,.int .i64 (p:Nat),.int .i64 x,ae b,.slice g m q,.slice r s d,.slice B3 a t] 94)).alloc (by simp) (.cells #[.slice none 0 0,.int .i64 0,.int .i64 0,.string ⟨#[]⟩,.slice none 0 0,.slice none 0 0,.slice none 0 0] 94);have h0:TR w ((w.alloc (.cells #[.slice A n c,.int .i64 (p:Nat),.int .i64 x,ae b,.slice g m q,.slice r s d,.slice B3 a t] 94)).alloc (.cells #[.slice none 0 0,.int .i64 0,.int .i64 0,.string ⟨#[]⟩,.slice none 0 0,.slice none 0 0,.slice none 0 0] 94)) (w.heap.size+1) w.heap.size A n c l #[.slice none 0 0,.int .i64 0,.int .i64 0,.string ⟨#[]⟩,.slice none 0 0,.slice none 0 0,.slice none 0 0] #[.slice A n c,.int .i64 (p:Nat),.int .i64 x,ae b,.slice g m q,.slice r s d,.slice B3 a t] #[.slice A n c,.int .i64 (T.1:Nat),.int .i64 T.2.1,ae b,.slice g m q,.slice r s d,.slice B3 a t] 0 _:=⟨hB,HK.out.belw hB,by simpa using hY,Qr,.inl ⟨by decide,Y⟩⟩;have W:=Qh h0;clear Y hY hB h0;generalize (w.alloc (.cells #[.slice A n c,.int .i64 (p:Nat),.int .i64 x,ae b,.slice g m q,.slice r s d,.slice B3 a t] 94)).alloc (.cells #[.slice none 0 0,.int .i64 0,.int .i64 0,.string ⟨#[]⟩,.slice none 0 0,.slice none 0 0,.slice none 0 0] 94)=w2 at W⊢;change Code.wp _ _ _ (frX _ _ _ _ _ _ (fun _=>undef)) _;refine eX [3,4,8] (fun i=>if i=0 then 1 else if i=1 then 0 else 3) (x0:=fun _=>undef) (R:=fun ri=>List.getD (VE (.agg #[.slice A n c,.int .i64 (p:Nat),.int .i64 x,ae b,.slice g m q,.slice r s d,.slice B3 a t])::VE (.agg #[.slice A n c,.int .i64 (p:Nat),.int .i64 x,ae b,.slice g m q,.slice r s d,.slice B3 a t])::VE (ae text)::VE (.bool (aR l p x text))::VE (.tuple #[.agg #[.slice A n c,.int .i64 (T.1:Nat),.int .i64 T.2.1,ae b,.slice g m q,.slice r s d,.slice B3 a t],ae T.2.2])::VE (.tuple #[.agg #[.slice A n c,.int .i64 (T.1:Nat),.int .i64 T.2.1,ae b,.slice g m q,.slice r s d,.slice B3 a t],ae T.2.2])::VE (.agg #[.slice A n c,.int .i64 (T.1:Nat),.int .i64 T.2.1,ae b,.slice g m q,.slice r s d,.slice B3 a t])::VE (ae T.2.2)::[]) ri VA) (T:=fun k _ C=>TR w w2 (w.heap.size+1) w.heap.size A n c l #[.slice none 0 0,.int .i64 0,.int .i64 0,.string ⟨#[]⟩,.slice none 0 0,.slice none 0 0,.slice none 0 0] #[.slice A n c,.int .i64 (p:Nat),.int .i64 x,ae b,.slice g m q,.slice r s d,.slice B3 a t] #[.slice A n c,.int .i64 (T.1:Nat),.int .i64 T.2.1,ae b,.slice g m q,.slice r s d,.slice B3 a t] k C) (by kernel_rfl) ?_ ?_ ?_ ?_ ?_ ?_ ?_ ?_ ?_ ?_ ?_
 ·exact aD ⟨(fun _ _=>rfl),(fun _ _=>rfl),(fun _ _=>rfl),(fun _ _=>rfl),(fun _ _=>rfl),(fun _ _=>rfl),(fun _ _=>rfl),(fun _ _=>rfl),(fun _ _=>rfl),trivial⟩
 ·exact aD (bP _ 0 (by kernel_rfl))
 ·decide
 ·intro j H
  obtain rfl|rfl|rfl:=(show j=0\/j=1\/j=2 by simp at H;omega)
  ·exact⟨3,rfl,rfl⟩
  ·exact⟨4,rfl,rfl⟩
  exact⟨8,rfl,rfl⟩
 ·intro i o j D H
  have M:=fy H;obtain rfl|rfl:=(show j=0\/j=1 by simp at M;omega)
  ·injection H with H;subst H
   injection D with D;subst D;exact⟨⟨3,.data⟩,by simp,rfl,rfl⟩
  injection H with H;subst H;injection D with D;subst D;exact⟨⟨4,.chain⟩,by simp,rfl,rfl⟩
 ·exact fun _ _ _ _ _ _ h=>h
 ·exact W.out.drew
 ·intro i hi
  rcases (show i=0\/i=1\/(i≠0/\i≠1) by omega) with rfl|rfl|⟨h1,h2⟩
  ·exact .inr ⟨4,_,rfl,rfl,⟨0,.data⟩,by simp,rfl,rfl⟩
  ·exact .inr ⟨3,_,rfl,rfl,⟨1,.data⟩,by simp,rfl,rfl⟩
  exact .inl (by rw[kl h1,kl h2];exact Qr)
 ·refine aD ⟨?_,?_,?_,(fun h=>absurd (by decide) h),(fun h=>absurd (by decide) h),?_,?_,?_,(fun h=>absurd (by decide) h),trivial⟩
  ·intro _ k z C E u hd K B
   have X:k<=1:=E
   have J:Blk C w.heap.size 94 #[.slice A n c,.int .i64 (p:Nat),.int .i64 x,ae b,.slice g m q,.slice r s d,.slice B3 a t]:=by
    rcases u.2.2.2.2 with⟨_,I⟩|⟨I,_⟩
    ·exact I
    omega
   obtain⟨x0,x1,x2,x3,x4,x5,x6⟩:=J.c7;(try dsimp only[frX]);go_simp;have f:=B.out _ rfl;dsimp only[frX]at f;exact f
  ·intro _ k z C E u hd K B
   have X:k<=0:=E
   have J:Blk C w.heap.size 94 #[.slice A n c,.int .i64 (p:Nat),.int .i64 x,ae b,.slice g m q,.slice r s d,.slice B3 a t]:=by
    rcases u.2.2.2.2 with⟨_,I⟩|⟨I,_⟩
    ·exact I
    omega
   obtain⟨x0,x1,x2,x3,x4,x5,x6⟩:=J.c7;(try dsimp only[frX]);go_simp;have f:=B.out _ rfl;dsimp only[frX]at f;exact f
  ·intro _ k z C E u hd K B
   (try dsimp only[frX]);go_simp;have f:=B.out _ rfl;dsimp only[frX]at f;exact f
  ·intro _ k z C E u hd K B
   have P:z 4=(.tuple #[.agg #[.slice A n c,.int .i64 (T.1:Nat),.int .i64 T.2.1,ae b,.slice g m q,.slice r s d,.slice B3 a t],ae T.2.2]):=hd ⟨4,.data⟩ (by simp) rfl;(try dsimp only[frX]);(try simp only[P]);go_simp;have f:=B.out _ rfl;dsimp only[frX]at f;simp only[P]at f;exact f
  ·intro _ k z C E u hd K B
   have F:z 5=(.tuple #[.agg #[.slice A n c,.int .i64 (T.1:Nat),.int .i64 T.2.1,ae b,.slice g m q,.slice r s d,.slice B3 a t],ae T.2.2]):=hd ⟨5,.data⟩ (by simp) rfl;(try dsimp only[frX]);(try simp only[F]);go_simp;have f:=B.out _ rfl;dsimp only[frX]at f;simp only[F]at f;exact f
  intro _ k z C E u hd K B;have F:z 5=(.tuple #[.agg #[.slice A n c,.int .i64 (T.1:Nat),.int .i64 T.2.1,ae b,.slice g m q,.slice r s d,.slice B3 a t],ae T.2.2]):=hd ⟨5,.data⟩ (by simp) rfl;(try dsimp only[frX]);(try simp only[F]);go_simp;have f:=B.out _ rfl;dsimp only[frX]at f;simp only[F]at f;exact f
 ·intro k i o G D
  have M:=fy G;obtain rfl|rfl|rfl:=(show k=0\/k=1\/k=2 by simp at M;omega)
  ·injection G with G;subst G
   injection D with D;subst D;intro z C u hd K B;have U:z 1=(.agg #[.slice A n c,.int .i64 (p:Nat),.int .i64 x,ae b,.slice g m q,.slice r s d,.slice B3 a t]):=hd ⟨1,.data⟩ (by simp) rfl;have N:z 2=ae text:=hd ⟨2,.data⟩ (by simp) rfl;(try dsimp only[frX]);(try simp only[U,N]);go_simp;go_at_call 82;refine(jQ _ A n c l u.tk hn p hp x b g m q r s d B3 a t text _ rfl).mono ?_;rintro e wr⟨rfl,hb⟩;have f:=B.out _ _ rfl (u.belw W.out.1.size hb (by decide));dsimp only[frX]at f;simp only[U,N]at f;exact f
  ·injection G with G;subst G
   injection D with D;subst D;intro z C u hd K B;have O:z 0=(.agg #[.slice A n c,.int .i64 (p:Nat),.int .i64 x,ae b,.slice g m q,.slice r s d,.slice B3 a t]):=hd ⟨0,.data⟩ (by simp) rfl;have Q:z 3=.bool (aR l p x text):=hd ⟨3,.data⟩ (by simp) rfl;(try dsimp only[frX]);(try simp only[O,Q]);go_simp;go_at_call 81;refine(lZ _ A n c l u.tk hn p hp x b g m q r s d B3 a t (aR l p x text)).mono ?_;rintro e wr⟨Z,hb⟩;rw[HT.out]at Z;subst Z;have f:=B.out _ _ rfl (u.belw W.out.1.size hb (by decide));dsimp only[frX]at f;simp only[O,Q]at f;exact f
  injection G with G;subst G;injection D with D;subst D;intro z C u hd K B;have u:TR w w2 (w.heap.size+1) w.heap.size A n c l #[.slice none 0 0,.int .i64 0,.int .i64 0,.string ⟨#[]⟩,.slice none 0 0,.slice none 0 0,.slice none 0 0] #[.slice A n c,.int .i64 (p:Nat),.int .i64 x,ae b,.slice g m q,.slice r s d,.slice B3 a t] #[.slice A n c,.int .i64 (T.1:Nat),.int .i64 T.2.1,ae b,.slice g m q,.slice r s d,.slice B3 a t] 2 C:=u;have S:z 6=(.agg #[.slice A n c,.int .i64 (T.1:Nat),.int .i64 T.2.1,ae b,.slice g m q,.slice r s d,.slice B3 a t]):=hd ⟨6,.data⟩ (by simp) rfl;have V:=TR.y u;obtain⟨y0,y1,y2,y3,y4,y5,y6⟩:=V.c7;obtain⟨f0,f1,f2,f3,f4,f5,f6⟩:=V.f7;(try dsimp only[frX]);(try simp only[S]);go_simp;have f:=B.out undef _ trivial (TR.fin u HK.out (by omega) Qr);dsimp only[frX]at f;simp only[S]at f;exact f
 intro z C u hr;have u:TR w w2 (w.heap.size+1) w.heap.size A n c l #[.slice none 0 0,.int .i64 0,.int .i64 0,.string ⟨#[]⟩,.slice none 0 0,.slice none 0 0,.slice none 0 0] #[.slice A n c,.int .i64 (p:Nat),.int .i64 x,ae b,.slice g m q,.slice r s d,.slice B3 a t] #[.slice A n c,.int .i64 (T.1:Nat),.int .i64 T.2.1,ae b,.slice g m q,.slice r s d,.slice B3 a t] 3 C:=u;have hb:=u.1;have L:=u.2.2.1
 have V:Blk C w.heap.size 94 #[.slice A n c,.int .i64 (T.1:Nat),.int .i64 T.2.1,ae b,.slice g m q,.slice r s d,.slice B3 a t]:=by
  rcases u.2.2.2.2 with⟨I,_⟩|⟨_,I⟩
  ·omega
  exact I
 obtain⟨y0,y1,y2,y3,y4,y5,y6⟩:=V.c7;have z0:=L.c7;obtain⟨f0,f1,f2,f3,f4,f5,f6⟩:=L.f7;dsimp only[frX];clear u hr V L;go_wp2_with fail;refine zr1 (.agg #[.slice A n c,.int .i64 (T.1:Nat),.int .i64 T.2.1,ae b,.slice g m q,.slice r s d,.slice B3 a t]) ?_;exact⟨rfl,dM hb (by omega) _ _ _ _ _ _ _⟩
abbrev frY(u0 u1 u2 u3 u5 u6 u14 u15 u16 u17 u18 u19 u20 u21 u22 u23 u24 u25 u26 u27:Value)(xf:Nat->Value):Act:=⟨List.toArray (u0::u1::u2::u3::xf 8::u5::u6::xf 4::xf 0::xf 1::xf 2::xf 3::xf 5::xf 6::u14::u15::u16::u17::u18::u19::u20::u21::u22::u23::u24::u25::u26::u27::[]),[]⟩
noncomputable def numF (l:List Tkn) (p:Nat) (x:Int):Nat × Int × Rat :=
  if (takeF l p x (bZ l p x 1)).2.1≠0 then ((takeF l p x (bZ l p x 1)).1,(takeF l p x (bZ l p x 1)).2.1,0)
  else ((takeF l p x (bZ l p x 1)).1,valX (takeF l p x (bZ l p x 1)).2.2,valQ (takeF l p x (bZ l p x 1)).2.2)
def Fe(w:World)(v:Value)(q:Rat)(k:Nat)(e:Ending)(w':World):Prop:=∃b A n c D m d,e=.returned (.tuple #[v,.agg #[.bool b,.slice A n c,.slice D m d]])/\QV w' b A n c D m d q k/\Below w.heap.size w w'
theorem fU{T:TypeId->Bool}{w:World}{g:Nat}{t:TypeId}{d f h i b j c:Value}(z:Blk w g t #[d,f,h,i,b,j,c])(p:T t=true)(q:([d,f,h,i,b,j,c]:List Value).all noW=true)(b0 k m o n b5 l:Value):Tch T w (((((((w.setCell ⟨g,0,none⟩ b0).setCell ⟨g,1,none⟩ k).setCell ⟨g,2,none⟩ m).setCell ⟨g,3,none⟩ o).setCell ⟨g,4,none⟩ n).setCell ⟨g,5,none⟩ b5).setCell ⟨g,6,none⟩ l) :=
 Tch.of_ne (by simp[World.setCell]) z p q fun g' _ a=>by
  rw[so _ _ _ _ a,so _ _ _ _ a,so _ _ _ _ a,so _ _ _ _ a,so _ _ _ _ a,so _ _ _ _ a,so _ _ _ _ a]
theorem Ff{T:TypeId->Bool}{w:World}{g:Nat}{t:TypeId}{b c d:Value}(z:Blk w g t #[b,c,d])(i:T t=true)(j:([b,c,d]:List Value).all noW=true)(b0 f h:Value):Tch T w (((w.setCell ⟨g,0,none⟩ b0).setCell ⟨g,1,none⟩ f).setCell ⟨g,2,none⟩ h) :=
 Tch.of_ne (by simp[World.setCell]) z i j fun g' _ a=>by
  rw[so _ _ _ _ a,so _ _ _ _ a,so _ _ _ _ a]
theorem d8{w:World}{g g':Nat}{t:TypeId}{cs:Array Value}(h:Blk w g t cs)(a:g≠g')(b0 b d i f b5 c:Value):Blk (((((((w.setCell ⟨g',0,none⟩ b0).setCell ⟨g',1,none⟩ b).setCell ⟨g',2,none⟩ d).setCell ⟨g',3,none⟩ i).setCell ⟨g',4,none⟩ f).setCell ⟨g',5,none⟩ b5).setCell ⟨g',6,none⟩ c) g t cs :=
 (((((((h.far (p:=⟨g',0,none⟩) a b0).far (p:=⟨g',1,none⟩) a b).far (p:=⟨g',2,none⟩) a d).far (p:=⟨g',3,none⟩) a i).far (p:=⟨g',4,none⟩) a f).far (p:=⟨g',5,none⟩) a b5).far (p:=⟨g',6,none⟩) a c)
theorem oY(w:World)(A:Option Addr)(n c:Nat)(l:List Tkn)(h:TkS w A n c l)(hn:n<=65536)(p:Nat)(hp:p<=n)(x:Int)(f:List UInt8)(a:Option Addr)(q b:Nat)(r:Option Addr)(s m:Nat)(B3:Option Addr)(d t:Nat)(N:Nat × Int × Rat)(S:numF l p x=N):
 Calls Tryz.prog 119 #[.agg #[.slice A n c,.int .i64 (p:Nat),.int .i64 x,ae f,.slice a q b,.slice r s m,.slice B3 d t]] w (Fe w (.agg #[.slice A n c,.int .i64 (N.1:Nat),.int .i64 N.2.1,ae f,.slice a q b,.slice r s m,.slice B3 d t]) N.2.2 500):=by
 obtain⟨T,u⟩:=Z9 (takeF l p x (bZ l p x 1));have HT:=Qh u;have HK:=Qh h;unfold numF at S;rw[u]at S;have HN:=Qh S;clear u h S;go_in;go_wp2_with fail;have hX:=((Blk.new w 94 #[.slice A n c,.int .i64 (p:Nat),.int .i64 x,ae f,.slice a q b,.slice r s m,.slice B3 d t]).alloc (.cells #[.slice none 0 0,.int .i64 0,.int .i64 0,.string ⟨#[]⟩,.slice none 0 0,.slice none 0 0,.slice none 0 0] 94)).alloc (.cells #[.bool false,.slice none 0 0,.slice none 0 0] 65);have hY:=(Blk.new (w.alloc (.cells #[.slice A n c,.int .i64 (p:Nat),.int .i64 x,ae f,.slice a q b,.slice r s m,.slice B3 d t] 94)) 94 #[.slice none 0 0,.int .i64 0,.int .i64 0,.string ⟨#[]⟩,.slice none 0 0,.slice none 0 0,.slice none 0 0]).alloc (.cells #[.bool false,.slice none 0 0,.slice none 0 0] 65);have hZ:=Blk.new ((w.alloc (.cells #[.slice A n c,.int .i64 (p:Nat),.int .i64 x,ae f,.slice a q b,.slice r s m,.slice B3 d t] 94)).alloc (.cells #[.slice none 0 0,.int .i64 0,.int .i64 0,.string ⟨#[]⟩,.slice none 0 0,.slice none 0 0,.slice none 0 0] 94)) 65 #[.bool false,.slice none 0 0,.slice none 0 0];have hB:=(((aa w).alloc Qr (.cells #[.slice A n c,.int .i64 (p:Nat),.int .i64 x,ae f,.slice a q b,.slice r s m,.slice B3 d t] 94)).alloc (by simp) (.cells #[.slice none 0 0,.int .i64 0,.int .i64 0,.string ⟨#[]⟩,.slice none 0 0,.slice none 0 0,.slice none 0 0] 94)).alloc (by simp;omega) (.cells #[.bool false,.slice none 0 0,.slice none 0 0] 65);have h0:TR w (((w.alloc (.cells #[.slice A n c,.int .i64 (p:Nat),.int .i64 x,ae f,.slice a q b,.slice r s m,.slice B3 d t] 94)).alloc (.cells #[.slice none 0 0,.int .i64 0,.int .i64 0,.string ⟨#[]⟩,.slice none 0 0,.slice none 0 0,.slice none 0 0] 94)).alloc (.cells #[.bool false,.slice none 0 0,.slice none 0 0] 65)) (w.heap.size+1) w.heap.size A n c l #[.slice none 0 0,.int .i64 0,.int .i64 0,.string ⟨#[]⟩,.slice none 0 0,.slice none 0 0,.slice none 0 0] #[.slice A n c,.int .i64 (p:Nat),.int .i64 x,ae f,.slice a q b,.slice r s m,.slice B3 d t] #[.slice A n c,.int .i64 (T.1:Nat),.int .i64 T.2.1,ae f,.slice a q b,.slice r s m,.slice B3 d t] 0 _:=⟨hB,HK.out.belw hB,by simpa using hY,Qr,.inl ⟨by decide,hX⟩⟩;have hZ:Blk (((w.alloc (.cells #[.slice A n c,.int .i64 (p:Nat),.int .i64 x,ae f,.slice a q b,.slice r s m,.slice B3 d t] 94)).alloc (.cells #[.slice none 0 0,.int .i64 0,.int .i64 0,.string ⟨#[]⟩,.slice none 0 0,.slice none 0 0,.slice none 0 0] 94)).alloc (.cells #[.bool false,.slice none 0 0,.slice none 0 0] 65)) (w.heap.size+2) 65 #[.bool false,.slice none 0 0,.slice none 0 0]:=by simpa using hZ
 have H0:=Qh (And.intro h0 hZ);clear hX hY hB h0 hZ;generalize ((w.alloc (.cells #[.slice A n c,.int .i64 (p:Nat),.int .i64 x,ae f,.slice a q b,.slice r s m,.slice B3 d t] 94)).alloc (.cells #[.slice none 0 0,.int .i64 0,.int .i64 0,.string ⟨#[]⟩,.slice none 0 0,.slice none 0 0,.slice none 0 0] 94)).alloc (.cells #[.bool false,.slice none 0 0,.slice none 0 0] 65)=w2 at H0⊢;change Code.wp _ _ _ (frY _ _ _ _ _ _ _ _ _ _ _ _ _ _ _ _ _ _ _ _ (upd (fun _=>undef) 8 _)) _;refine eX [2,3,7] (fun i=>if i=0 then 1 else if i=1 then 0 else 3) (R:=fun ri=>List.getD (VE (.agg #[.slice A n c,.int .i64 (p:Nat),.int .i64 x,ae f,.slice a q b,.slice r s m,.slice B3 d t])::VE (.agg #[.slice A n c,.int .i64 (p:Nat),.int .i64 x,ae f,.slice a q b,.slice r s m,.slice B3 d t])::VE (.bool (bZ l p x 1))::VE (.tuple #[.agg #[.slice A n c,.int .i64 (T.1:Nat),.int .i64 T.2.1,ae f,.slice a q b,.slice r s m,.slice B3 d t],ae T.2.2])::VE (.tuple #[.agg #[.slice A n c,.int .i64 (T.1:Nat),.int .i64 T.2.1,ae f,.slice a q b,.slice r s m,.slice B3 d t],ae T.2.2])::VE (.agg #[.slice A n c,.int .i64 (T.1:Nat),.int .i64 T.2.1,ae f,.slice a q b,.slice r s m,.slice B3 d t])::VE (ae T.2.2)::VA::VE (ae T.2.2)::[]) ri VA) (T:=fun k _ B=>TR w w2 (w.heap.size+1) w.heap.size A n c l #[.slice none 0 0,.int .i64 0,.int .i64 0,.string ⟨#[]⟩,.slice none 0 0,.slice none 0 0,.slice none 0 0] #[.slice A n c,.int .i64 (p:Nat),.int .i64 x,ae f,.slice a q b,.slice r s m,.slice B3 d t] #[.slice A n c,.int .i64 (T.1:Nat),.int .i64 T.2.1,ae f,.slice a q b,.slice r s m,.slice B3 d t] k B/\Blk B (w.heap.size+2) 65 #[.bool false,.slice none 0 0,.slice none 0 0]) (by kernel_rfl) ?_ ?_ ?_ ?_ ?_ ?_ ?_ ?_ ?_ ?_ ?_
 ·exact aD ⟨(fun _ _=>rfl),(fun _ _=>rfl),(fun _ _=>rfl),(fun _ _=>rfl),(fun _ _=>rfl),(fun _ _=>rfl),(fun _ _=>rfl),(fun _ _=>rfl),(fun _ _=>rfl),trivial⟩
 ·exact aD (bP _ 0 (by kernel_rfl))
 ·decide
 ·intro j V
  obtain rfl|rfl|rfl:=(show j=0\/j=1\/j=2 by simp at V;omega)
  ·exact⟨2,rfl,rfl⟩
  ·exact⟨3,rfl,rfl⟩
  exact⟨7,rfl,rfl⟩
 ·intro i o j E V
  have Z:=fy V;obtain rfl|rfl:=(show j=0\/j=1 by simp at Z;omega)
  ·injection V with V;subst V
   injection E with E;subst E;exact⟨⟨2,.data⟩,by simp,rfl,rfl⟩
  injection V with V;subst V;injection E with E;subst E;exact⟨⟨3,.chain⟩,by simp,rfl,rfl⟩
 ·exact fun _ _ _ _ _ _ h=>h
 ·exact⟨H0.out.1.drew,H0.out.2⟩
 ·intro i hi
  rcases (show i=0\/i=1\/(i≠0/\i≠1) by omega) with rfl|rfl|⟨h1,h2⟩
  ·exact .inr ⟨3,_,rfl,rfl,⟨0,.data⟩,by simp,rfl,rfl⟩
  ·exact .inr ⟨2,_,rfl,rfl,⟨1,.data⟩,by simp,rfl,rfl⟩
  exact .inl (by rw[kl h1,kl h2];exact Qr)
 ·refine aD ⟨?_,?_,(fun h=>absurd (by decide) h),(fun h=>absurd (by decide) h),?_,?_,?_,(fun h=>absurd (by decide) h),?_,trivial⟩
  ·intro _ k C B F u hd K D
   have aF:k<=1:=F
   have Y:Blk B w.heap.size 94 #[.slice A n c,.int .i64 (p:Nat),.int .i64 x,ae f,.slice a q b,.slice r s m,.slice B3 d t]:=by
    rcases u.1.2.2.2.2 with⟨_,X⟩|⟨X,_⟩
    ·exact X
    omega
   obtain⟨x0,x1,x2,x3,x4,x5,x6⟩:=Y.c7;(try dsimp only[frY]);go_simp;have z:=D.out _ rfl;dsimp only[frY]at z;exact z
  ·intro _ k C B F u hd K D
   have aF:k<=0:=F
   have Y:Blk B w.heap.size 94 #[.slice A n c,.int .i64 (p:Nat),.int .i64 x,ae f,.slice a q b,.slice r s m,.slice B3 d t]:=by
    rcases u.1.2.2.2.2 with⟨_,X⟩|⟨X,_⟩
    ·exact X
    omega
   obtain⟨x0,x1,x2,x3,x4,x5,x6⟩:=Y.c7;(try dsimp only[frY]);go_simp;have z:=D.out _ rfl;dsimp only[frY]at z;exact z
  ·intro _ k C B F u hd K D
   have an:C 3=(.tuple #[.agg #[.slice A n c,.int .i64 (T.1:Nat),.int .i64 T.2.1,ae f,.slice a q b,.slice r s m,.slice B3 d t],ae T.2.2]):=hd ⟨3,.data⟩ (by simp) rfl;(try dsimp only[frY]);(try simp only[an]);go_simp;have z:=D.out _ rfl;dsimp only[frY]at z;simp only[an]at z;exact z
  ·intro _ k C B F u hd K D
   have L:C 4=(.tuple #[.agg #[.slice A n c,.int .i64 (T.1:Nat),.int .i64 T.2.1,ae f,.slice a q b,.slice r s m,.slice B3 d t],ae T.2.2]):=hd ⟨4,.data⟩ (by simp) rfl;(try dsimp only[frY]);(try simp only[L]);go_simp;have z:=D.out _ rfl;dsimp only[frY]at z;simp only[L]at z;exact z
  ·intro _ k C B F u hd K D
   have L:C 4=(.tuple #[.agg #[.slice A n c,.int .i64 (T.1:Nat),.int .i64 T.2.1,ae f,.slice a q b,.slice r s m,.slice B3 d t],ae T.2.2]):=hd ⟨4,.data⟩ (by simp) rfl;(try dsimp only[frY]);(try simp only[L]);go_simp;have z:=D.out _ rfl;dsimp only[frY]at z;simp only[L]at z;exact z
  intro _ k C B F u hd K D;have ad:C 6=(ae T.2.2):=hd ⟨6,.data⟩ (by simp) rfl;(try dsimp only[frY]);(try simp only[ad]);go_simp;have z:=D.out _ rfl;dsimp only[frY]at z;simp only[ad]at z;exact z
 ·intro k i o P E
  have Z:=fy P;obtain rfl|rfl|rfl:=(show k=0\/k=1\/k=2 by simp at Z;omega)
  ·injection P with P;subst P
   injection E with E;subst E;intro C B u hd K D;have aC:C 1=(.agg #[.slice A n c,.int .i64 (p:Nat),.int .i64 x,ae f,.slice a q b,.slice r s m,.slice B3 d t]):=hd ⟨1,.data⟩ (by simp) rfl;(try dsimp only[frY]);(try simp only[aC]);go_simp;go_at_call 83;refine(uO _ A n c l u.1.tk hn p hp x f a q b r s m B3 d t 1 1 rfl _ rfl).mono ?_;rintro e wr⟨rfl,hb⟩;have z:=D.out _ _ rfl ⟨u.1.belw H0.out.1.1.size hb (by decide),u.2.below hb u.2.lt⟩;dsimp only[frY]at z;simp only[aC]at z;exact z
  ·injection P with P;subst P
   injection E with E;subst E;intro C B u hd K D;have ac:C 0=(.agg #[.slice A n c,.int .i64 (p:Nat),.int .i64 x,ae f,.slice a q b,.slice r s m,.slice B3 d t]):=hd ⟨0,.data⟩ (by simp) rfl;have ab:C 2=.bool (bZ l p x 1):=hd ⟨2,.data⟩ (by simp) rfl;(try dsimp only[frY]);(try simp only[ac,ab]);go_simp;go_at_call 81;refine(lZ _ A n c l u.1.tk hn p hp x f a q b r s m B3 d t (bZ l p x 1)).mono ?_;rintro e wr⟨he,hb⟩;rw[HT.out]at he;subst he;have z:=D.out _ _ rfl ⟨u.1.belw H0.out.1.1.size hb (by decide),u.2.below hb u.2.lt⟩;dsimp only[frY]at z;simp only[ac,ab]at z;exact z
  injection P with P;subst P;injection E with E;subst E;intro C B u hd K D;have u:TR w w2 (w.heap.size+1) w.heap.size A n c l #[.slice none 0 0,.int .i64 0,.int .i64 0,.string ⟨#[]⟩,.slice none 0 0,.slice none 0 0,.slice none 0 0] #[.slice A n c,.int .i64 (p:Nat),.int .i64 x,ae f,.slice a q b,.slice r s m,.slice B3 d t] #[.slice A n c,.int .i64 (T.1:Nat),.int .i64 T.2.1,ae f,.slice a q b,.slice r s m,.slice B3 d t] 2 B/\Blk B (w.heap.size+2) 65 #[.bool false,.slice none 0 0,.slice none 0 0]:=u;have ao:C 5=(.agg #[.slice A n c,.int .i64 (T.1:Nat),.int .i64 T.2.1,ae f,.slice a q b,.slice r s m,.slice B3 d t]):=hd ⟨5,.data⟩ (by simp) rfl;have Q:=TR.y u.1;obtain⟨y0,y1,y2,y3,y4,y5,y6⟩:=Q.c7;obtain⟨f0,f1,f2,f3,f4,f5,f6⟩:=Q.f7;(try dsimp only[frY]);(try simp only[ao]);go_simp;have z:=D.out undef _ trivial ⟨TR.fin u.1 HK.out (by omega) Qr,d8 u.2 (by omega) _ _ _ _ _ _ _⟩;dsimp only[frY]at z;simp only[ao]at z;exact z
 intro C B u hr;have u:TR w w2 (w.heap.size+1) w.heap.size A n c l #[.slice none 0 0,.int .i64 0,.int .i64 0,.string ⟨#[]⟩,.slice none 0 0,.slice none 0 0,.slice none 0 0] #[.slice A n c,.int .i64 (p:Nat),.int .i64 x,ae f,.slice a q b,.slice r s m,.slice B3 d t] #[.slice A n c,.int .i64 (T.1:Nat),.int .i64 T.2.1,ae f,.slice a q b,.slice r s m,.slice B3 d t] 3 B/\Blk B (w.heap.size+2) 65 #[.bool false,.slice none 0 0,.slice none 0 0]:=u;have al:C 8=ae T.2.2:=hr 8 (by decide);have hb:=u.1.1;have H:=u.1.2.2.1;have G:=u.2
 have Q:Blk B w.heap.size 94 #[.slice A n c,.int .i64 (T.1:Nat),.int .i64 T.2.1,ae f,.slice a q b,.slice r s m,.slice B3 d t]:=by
  rcases u.1.2.2.2.2 with⟨X,_⟩|⟨_,X⟩
  ·omega
  exact X
 dsimp only[frY];simp only[al];clear u hr al;obtain⟨p1,x1,I⟩:=T;simp only at Q⊢;by_cases O:x1=0;rotate_left
 ·have t1:(x1==0)=false:=it.2 O
  have t2:(x1=0)=False:=oK O;have t3:(x1 != 0)=true:=by unfold bne;rw[t1];rfl
  have S:=HN.out;rw[kZ O]at S;subst S;obtain⟨y0,y1,y2,y3,y4,y5,y6⟩:=Q.c7;obtain⟨z0,z1,z2,z3,z4,z5,z6⟩:=H.c7;obtain⟨f0,f1,f2,f3,f4,f5,f6⟩:=H.f7;obtain⟨r0,r1,r2⟩:=G.c3;obtain⟨k0,k1,k2⟩:=G.f3;clear O Q H G;go_wp2_with fail;refine zr1 (.tuple #[.agg #[.slice A n c,.int .i64 (p1:Nat),.int .i64 x1,ae f,.slice a q b,.slice r s m,.slice B3 d t],.agg #[.bool false,.slice none 0 0,.slice none 0 0]]) ?_;exact⟨_,_,_,_,_,_,_,rfl,QV.zero _ 500,(((dM hb (by omega) _ _ _ _ _ _ _).setCell (p:=⟨w.heap.size+2,0,none⟩) (by simp) _).setCell (p:=⟨w.heap.size+2,1,none⟩) (by simp) _).setCell (p:=⟨w.heap.size+2,2,none⟩) (by simp) _⟩
 subst O;have S:=HN.out;rw[kl (by simp)]at S;subst S;simp only;obtain⟨y0,y1,y2,y3,y4,y5,y6⟩:=Q.c7;have a0:w.heap.size+2<B.heap.size:=G.lt;go_wp2_with fail;(refine(wO B I (valX I) (valQ I) (val_out I)).mono ?_);rintro e w5⟨b2,A2,n2,c2,D2,d2,f2,rfl,hq,M⟩;have aS:=hb.trans (M.mono hb.size);have U:=Q.below M Q.lt;have W:=H.below M H.lt;have J:=G.below M G.lt;have aZ:w.heap.size+2<w5.heap.size:=J.lt;have a1:w.heap.size<w5.heap.size:=by omega
 have a3:w.heap.size+1<w5.heap.size:=by omega
 have a2:¬w.heap.size=w5.heap.size:=by omega
 have a6:¬w.heap.size+1=w5.heap.size:=by omega
 have a4:¬w.heap.size+2=w5.heap.size:=by omega
 clear y0 y1 y2 y3 y4 y5 y6 Q H G hb M;obtain⟨y0,y1,y2,y3,y4,y5,y6⟩:=U.c7;have g0:=U.f7;obtain⟨z0,z1,z2,z3,z4,z5,z6⟩:=W.c7;obtain⟨f0,f1,a5,f3,f4,f5,f6⟩:=W.f7;obtain⟨r0,r1,r2⟩:=J.c3;obtain⟨k0,k1,k2⟩:=J.f3;have HQ:=Qh hq;have HY:=Qh U;have HZ:=Qh W;have aT:=Qh J;clear U W J hq;go_wp2_with fail;go_region
 all_goals
  go_wp2_with fail;refine zr1 (.tuple #[.agg #[.slice A n c,.int .i64 (p1:Nat),.int .i64 (valX I),ae f,.slice a q b,.slice r s m,.slice B3 d t],.agg #[.bool b2,.slice A2 n2 c2,.slice D2 d2 f2]]) ?_;have t1:=Tch.set (T:=fun _=>true) HY.out rfl rfl 2 (.int .i64 (valX I));have t2:=fU (T:=fun _=>true) (HZ.out.far (p:=⟨w.heap.size,2,none⟩) (by simp) (.int .i64 (valX I))) rfl rfl (.slice A n c) (.int .i64 (p1:Nat)) (.int .i64 (valX I)) (.string ⟨f.toArray⟩) (.slice a q b) (.slice r s m) (.slice B3 d t);have t3:=Ff (T:=fun _=>true) (d8 (aT.out.far (p:=⟨w.heap.size,2,none⟩) (by simp) (.int .i64 (valX I))) (g':=w.heap.size+1) (by omega) (.slice A n c) (.int .i64 (p1:Nat)) (.int .i64 (valX I)) (.string ⟨f.toArray⟩) (.slice a q b) (.slice r s m) (.slice B3 d t)) rfl rfl (.bool b2) (.slice A2 n2 c2) (.slice D2 d2 f2);have q1:=(((dM (aS.setCell (p:=⟨w.heap.size,2,none⟩) Qr (.int .i64 (valX I))) (g:=w.heap.size+1) (by omega) (.slice A n c) (.int .i64 (p1:Nat)) (.int .i64 (valX I)) (.string ⟨f.toArray⟩) (.slice a q b) (.slice r s m) (.slice B3 d t)).setCell (p:=⟨w.heap.size+2,0,none⟩) (by simp) (.bool b2)).setCell (p:=⟨w.heap.size+2,1,none⟩) (by simp) (.slice A2 n2 c2)).setCell (p:=⟨w.heap.size+2,2,none⟩) (by simp) (.slice D2 d2 f2);exact⟨_,_,_,_,_,_,_,rfl,(QD.tch HQ.out (t1.trans (t2.trans t3))).belw (((kz _ _).alloc Qr _).drew),(q1.alloc q1.size _).drew⟩
/-! What the reference reads. -/
def wF(l:List Tkn)(p:Nat)(x:Int):Nat × Int × List UInt8:=takeF l p x (bZ l p x 0)
def eF(l:List Tkn)(p:Nat)(x:Int)(t:List UInt8):Nat × Int × List UInt8:=takeF l p x (aR l p x t)
noncomputable def mkF (l:List Tkn) (p:Nat) (x:Int):Nat × Int × aB :=
  let W:=wF l p x
  let N1:=numF l W.1 W.2.1
  let N2:=numF l N1.1 N1.2.1
  let E:=eF l N2.1 N2.2.1 [59]
  (E.1,E.2.1,⟨W.2.2,rd N1.2.2,rd N2.2.2⟩)
noncomputable def cR (l:List Tkn):Nat->Nat->Int->List aB->Nat × Int × List aB
  |0,p,x,a=>(p,x,a)
  |f+1,p,x,a=>if x=0/\aR l p x [125]=false then cR l f (mkF l p x).1 (mkF l p x).2.1 (a++[(mkF l p x).2.2]) else (p,x,a)
noncomputable def dT (l:List Tkn) (p:Nat) (x:Int):Nat × Int × aq :=
  let W:=wF l p x
  let E:=eF l W.1 W.2.1 [123]
  let M:=cR l (l.length+1) E.1 E.2.1 []
  let E2:=eF l M.1 M.2.1 [125]
  (E2.1,E2.2.1,⟨W.2.2,M.2.2⟩)
theorem fu{l:List Tkn}{p:Nat}{x:Int}{may:Bool}:p<=(takeF l p x may).1/\((takeF l p x may).2.1=0->x=0/\(takeF l p x may).1=p+1):=by
 unfold takeF;split
 ·rename_i h;exact⟨Qr,fun a=>absurd a h⟩
 rename_i h;have h:x=0:=by simpa using h
 split
 ·exact⟨Qr,fun a=>absurd (show (18:Int)=0 from a) (by decide)⟩
 split
 ·exact⟨Nat.le_succ _,fun _=>⟨h,rfl⟩⟩
 exact⟨Qr,fun a=>absurd (show (2:Int)=0 from a) (by decide)⟩
theorem l7{l:List Tkn}{p:Nat}{x:Int}:p<=(numF l p x).1/\((numF l p x).2.1=0->x=0/\(numF l p x).1=p+1)/\(p<=l.length->(numF l p x).1<=l.length):=by
 have h:=fu (l:=l) (p:=p) (x:=x) (may:=bZ l p x 1);unfold numF;split
 ·rename_i a;exact⟨h.1,fun c=>absurd c a,fun b=>cC b⟩
 rename_i a;exact⟨h.1,fun _=>h.2 (by simpa using a),fun b=>cC b⟩
theorem pZ{l:List Tkn}{p:Nat}{x:Int}:p<=(mkF l p x).1/\((mkF l p x).2.1=0->p+4<=(mkF l p x).1)/\(p<=l.length->(mkF l p x).1<=l.length):=by
 unfold mkF wF eF;simp only;have f:=fu (l:=l) (p:=p) (x:=x) (may:=bZ l p x 0);have c:=cC (l:=l) (p:=p) (x:=x) (may:=bZ l p x 0);generalize takeF l p x (bZ l p x 0)=W at f c⊢;have a:=l7 (l:=l) (p:=W.1) (x:=W.2.1);generalize numF l W.1 W.2.1=N1 at a⊢;have b:=l7 (l:=l) (p:=N1.1) (x:=N1.2.1);generalize numF l N1.1 N1.2.1=N2 at b⊢;have d:=fu (l:=l) (p:=N2.1) (x:=N2.2.1) (may:=aR l N2.1 N2.2.1 [59]);have g:=cC (l:=l) (p:=N2.1) (x:=N2.2.1) (may:=aR l N2.1 N2.2.1 [59]);generalize takeF l N2.1 N2.2.1 (aR l N2.1 N2.2.1 [59])=E at d g⊢;refine⟨by omega,fun k=>?_,fun j=>g (b.2.2 (a.2.2 (c j)))⟩;obtain⟨i,q⟩:=d.2 k;obtain⟨h,o⟩:=b.2.1 i;obtain⟨m,r⟩:=a.2.1 h;obtain⟨s,n⟩:=f.2 m;omega
theorem oZ{l:List Tkn}(b:∀t∈l,NmL t.text)(p:Nat)(x:Int):NmL (wF l p x).2.2:=by
 have a:NmL ([]:List UInt8):=by show ([]:List UInt8).length<_;decide
 unfold wF takeF;split
 ·exact a
 split
 ·exact a
 rename_i t c;split
 ·exact b t (pk c)
 exact a
def Fg(w:World)(v:Value)(b:aq)(e:Ending)(w':World):Prop :=
  ∃A n c,e=.returned (.tuple #[v,.agg #[ae b.name,.slice A n c]])/\ls 500 w' A n c b.pts/\NmL b.name/\Below w.heap.size w w'
structure BdG (w wa:World) (gz gy gb:Nat) (cs:Array Value) (nm:List UInt8) (wr:World) (L:List aB) (pv:Value):Prop where
  st:Blk wr w.heap.size 94 cs
  rg:wa.grownBy wr (some w.heap.size)
  zs:Blk wr gz 94 #[.slice none 0 0,.int .i64 0,.int .i64 0,.string ⟨#[]⟩,.slice none 0 0,.slice none 0 0,.slice none 0 0]
  zb:Blk wr gy 62 #[.string ⟨#[]⟩,.slice none 0 0]
  b:Blk wr gb 62 #[ae nm,pv]
  row:bc 67 (MkC 500) 7 wr gb pv L.length L
  lt:wa.heap.size=w.heap.size+1/\gz=w.heap.size+1/\gy=w.heap.size+2/\gb=w.heap.size+3
  no:cs.toList.all noW=true
  ba:Below w.heap.size w wa
theorem FP{T:TypeId->Bool}{w b:World}{g t:Nat}{cs:Array Value}(z:Blk w g t cs)(c:T t=true)(f:cs.toList.all noW=true)(k:w.grownBy b (some g)):Tch T w b :=
 Tch.of_ne k.size z c f fun g' d a=>k.block g' d (fun e=>a (by injection e with e))
theorem rg7{w b:World}{g:Nat}(h:w.grownBy b (some g))(b0 a d i f b5 c:Value):w.grownBy (((((((b.setCell ⟨g,0,none⟩ b0).setCell ⟨g,1,none⟩ a).setCell ⟨g,2,none⟩ d).setCell ⟨g,3,none⟩ i).setCell ⟨g,4,none⟩ f).setCell ⟨g,5,none⟩ b5).setCell ⟨g,6,none⟩ c) (some g) :=
 rg_set (rg_set (rg_set (rg_set (rg_set (rg_set (rg_set h 0 b0) 1 a) 2 d) 3 i) 4 f) 5 b5) 6 c
theorem st7{w:World}{g t:Nat}{j k l m i n o:Value}(h:Blk w g t #[j,k,l,m,i,n,o])(b0 a c f d b5 b:Value):Blk (((((((w.setCell ⟨g,0,none⟩ b0).setCell ⟨g,1,none⟩ a).setCell ⟨g,2,none⟩ c).setCell ⟨g,3,none⟩ f).setCell ⟨g,4,none⟩ d).setCell ⟨g,5,none⟩ b5).setCell ⟨g,6,none⟩ b) g t #[b0,a,c,f,d,b5,b]:=(((((((h.s70 b0).s71 a).s72 c).s73 f).s74 d).s75 b5).s76 b)
section
variable {w wa wr w3:World}{gz gy gb:Nat}{cs cs':Array Value}{nm:List UInt8}{L:List aB}{pv:Value}
theorem BdG.bel(h:BdG w wa gz gy gb cs nm wr L pv):Below w.heap.size w wr:=h.ba.trans (ix h.rg h.ba.size Qr)
theorem BdG.call(h:BdG w wa gz gy gb cs nm wr L pv)(d:Blk w3 w.heap.size 94 cs')(a:wr.grownBy w3 (some w.heap.size))(c:cs'.toList.all noW=true):BdG w wa gz gy gb cs' nm w3 L pv:=by
 have f:=h.lt;exact⟨d,aJ h.rg a,bX a h.zs (by omega),bX a h.zb (by omega),bX a h.b (by omega),h.row.rg (by omega) a (fun _ _ x=>x.tch (FP (T:=fun _=>true) h.st rfl h.no a)),h.lt,c,h.ba⟩
theorem BdG.below(h:BdG w wa gz gy gb cs nm wr L pv)(hb:Below wr.heap.size wr w3):BdG w wa gz gy gb cs nm w3 L pv:=h.call (h.st.below hb h.st.lt) (du (rg_refl _ _) hb) h.no
theorem BdG.nm0(h:BdG w wa gz gy gb cs nm wr L pv)(a:List UInt8)(c:noW pv=true):BdG w wa gz gy gb cs a (wr.setCell ⟨gb,0,none⟩ (ae a)) L pv:=by
 have f:=h.lt;have d:Tch (bI 62) wr (wr.setCell ⟨gb,0,none⟩ (ae a)):=Tch.set h.b (by simp[bI]) (by show (noW (ae nm)&&(noW pv&&true))=true;rw[c];rfl) 0 _;exact⟨h.st.far (p:=⟨gb,0,none⟩) (by show w.heap.size≠gb;omega) _,cZ h.rg (by show wa.heap.size<=gb;omega) _,h.zs.far (p:=⟨gb,0,none⟩) (by show gz≠gb;omega) _,h.zb.far (p:=⟨gb,0,none⟩) (by show gy≠gb;omega) _,h.b.set_ 0 _,h.row.tch d (by decide) (fun _ _ x=>x.tch d),h.lt,h.no,h.ba⟩
theorem BdG.b5{f:List Value}{d:World}(h:BdG w wa gz gy gb cs nm wr L pv)(c:OwJ noW wr gb 67 7 pv L.length f)(o:Obj)(a:(wr.alloc o).grownBy d pv.ownBlock):Blk d gb 62 #[ae nm,pv] :=
 (h.b.alloc o).grown a (gL c h.b (by decide))
theorem BdG.push{q:List Value}{n:World}{i:Value}{g:List Value}{m:aB}{o:Obj}(h:BdG w wa gz gy gb cs nm wr L pv)(d:OwJ noW wr gb 67 7 pv L.length q)(s:jd (MkC 500) 7 wr L q)
 (B:MkC 500 wr g m) (u:g.length=7) (f:OwJ noW n gb 67 7 i (L.length+1) (q++g)) (a:(wr.alloc o).grownBy n pv.ownBlock):BdG w wa gz gy gb cs nm (n.setCell ⟨gb,1,none⟩ i) (L++[m]) i:=by
 have D:=h.lt;have b5:=h.b5 d o a;have E:=h.b.lt;have v:Below gb wr n:=((kz gb wr).alloc (by omega) o).grown a (by simp;omega) (fun k C=>(d.at_ C).1);have j:Below gb wr (n.setCell ⟨gb,1,none⟩ i):=v.setCell (p:=⟨gb,1,none⟩) Qr i;have l:OwJ noW (wr.alloc o) gb 67 7 pv L.length q:=d.belw ((kz _ _).alloc Qr o);obtain⟨A,c,t,_⟩:=h.row.form;have y:Tch TA wr (n.setCell ⟨gb,1,none⟩ i):=((Tch.below ((kz _ _).alloc Qr o)).trans (Tch.grown (T:=TA) (fun _ z=>z) rfl l a)).trans (Tch.set b5 rfl (by rw[t];rfl) 1 i);have r:(L++[m]).length=L.length+1:=by simp
 refine⟨h.st.below j (by omega),dI h.rg (j.mono (by omega)),h.zs.below j (by omega),h.zb.below j (by omega),b5.s21 i,?_,h.lt,h.no,h.ba⟩;rw[r];exact⟨r,q++g,f.far (gL f b5 (by decide)) i,(s.map_ fun _ _ x=>x.tch y).snoc (B.tch y) u⟩
end
abbrev frZ(u0 u1 u2 u3 u4 u5 u6 u7 u8 u9 u10 u11 u12 u13 u14 u15 u16 u17 u18 u19 u20 u21 u22 u23 u24 u25 u26 u27 u28 u29 u30 u31 u32 u33 u34 u35 u36 u37 u38 u39 u40 u41 u42 u43 u44 u45 u46 u47 u48 u49:Value)(xf:Nat->Value):Act:=⟨List.toArray (u0::u1::u2::u3::u4::u5::u6::u7::u8::u9::u10::u11::u12::u13::u14::u15::u16::u17::u18::u19::u20::u21::u22::u23::u24::u25::u26::u27::u28::u29::u30::u31::u32::u33::u34::u35::u36::u37::u38::u39::u40::u41::u42::u43::u44::u45::u46::u47::u48::u49::xf 0::xf 1::xf 2::[]),[]⟩
def TBG(w:World)(gs gz gy gb:Nat)(cs cs2:Array Value)(nm:List UInt8)(pv:Value)(L:List aB)(k:Nat)(wq:World):Prop :=
  Blk wq gs 94 cs/\Blk wq gb 62 #[ae nm,pv]/\bc 67 (MkC 500) 7 wq gb pv L.length L/\Below w.heap.size w wq /\
  ((k<2/\Blk wq gz 94 #[.slice none 0 0,.int .i64 0,.int .i64 0,.string ⟨#[]⟩,.slice none 0 0,.slice none 0 0,.slice none 0 0]/\Blk wq gy 62 #[.string ⟨#[]⟩,.slice none 0 0])\/(k=2/\Blk wq gz 94 cs2/\Blk wq gy 62 #[.string ⟨#[]⟩,.slice none 0 0])\/(k=3/\Blk wq gz 94 cs2/\Blk wq gy 62 #[ae nm,pv]))
section
variable {w wq w':World}{gs gz gy gb k:Nat}{cs cs2:Array Value}{nm:List UInt8}{pv:Value}{L:List aB}
theorem TBG.drew(h:TBG w gs gz gy gb cs cs2 nm pv L k wq):TBG w gs gz gy gb cs cs2 nm pv L k wq.drew:=⟨h.1,h.2.1,h.2.2.1.same (fun _ _ _ h=>h) (fun _ _ x=>x.tch (T:=TA) (Tch.below ((kz _ _).drew))),h.2.2.2.1.drew,h.2.2.2.2⟩
theorem TBG.bel_(h:TBG w gs gz gy gb cs cs2 nm pv L 0 wq)(hb:Below wq.heap.size wq w'):TBG w gs gz gy gb cs cs2 nm pv L 1 w':=by
 obtain⟨f,c,g,d,a⟩:=h;have t:Tch (fun _=>false) wq w':=Tch.below hb;rcases a with⟨_,a,b⟩|⟨a,_⟩|⟨a,_⟩
 ·exact⟨f.below hb f.lt,c.below hb c.lt,g.tch t rfl (fun _ _ x=>x.tch t),d.trans (hb.mono d.size),.inl ⟨by decide,a.below hb a.lt,b.below hb b.lt⟩⟩
 ·omega
 omega
theorem TBG.z1(h:TBG w gs gz gy gb cs cs2 nm pv L 1 wq):Blk wq gz 94 #[.slice none 0 0,.int .i64 0,.int .i64 0,.string ⟨#[]⟩,.slice none 0 0,.slice none 0 0,.slice none 0 0]:=by
 rcases h.2.2.2.2 with⟨_,a,b⟩|⟨a,_⟩|⟨a,_⟩
 ·exact a
 ·omega
 omega
theorem TBG.z2(h:TBG w gs gz gy gb cs cs2 nm pv L 2 wq):Blk wq gy 62 #[.string ⟨#[]⟩,.slice none 0 0]:=by
 rcases h.2.2.2.2 with⟨a,_⟩|⟨_,_,b⟩|⟨a,_⟩
 ·omega
 ·exact b
 omega
theorem TBG.z3(h:TBG w gs gz gy gb cs cs2 nm pv L 3 wq):Blk wq gz 94 cs2/\Blk wq gy 62 #[ae nm,pv]:=by
 rcases h.2.2.2.2 with⟨a,_⟩|⟨a,_⟩|⟨_,a⟩
 ·omega
 ·omega
 exact a
theorem TBG.put{b0 a d c f b5 b:Value}(h:TBG w gs gz gy gb cs #[b0,a,d,c,f,b5,b] nm pv L 1 wq)(p:gs≠gz)(q:gb≠gz)(k:gy≠gz)(n4:w.heap.size<=gz)(_:gz<gb):TBG w gs gz gy gb cs #[b0,a,d,c,f,b5,b] nm pv L 2 (((((((wq.setCell ⟨gz,0,none⟩ b0).setCell ⟨gz,1,none⟩ a).setCell ⟨gz,2,none⟩ d).setCell ⟨gz,3,none⟩ c).setCell ⟨gz,4,none⟩ f).setCell ⟨gz,5,none⟩ b5).setCell ⟨gz,6,none⟩ b):=by
 have i:=h.z1;obtain⟨m,j,n,l,g⟩:=h;have t:=fU (T:=bI 94) i (by simp[bI]) rfl b0 a d c f b5 b;rcases g with⟨_,_,o⟩|⟨g,_⟩|⟨g,_⟩
 ·exact⟨d8 m p _ _ _ _ _ _ _,d8 j q _ _ _ _ _ _ _,n.tch t (by decide) (fun _ _ x=>x.tch t),dM l n4 _ _ _ _ _ _ _,.inr (.inl ⟨rfl,st7 i _ _ _ _ _ _ _,d8 o k _ _ _ _ _ _ _⟩)⟩
 ·omega
 omega
theorem TBG.put2(h:TBG w gs gz gy gb cs cs2 nm pv L 2 wq)(c:gs≠gy)(d:gb≠gy)(f:gz≠gy)(n4:w.heap.size<=gy):TBG w gs gz gy gb cs cs2 nm pv L 3 ((wq.setCell ⟨gy,0,none⟩ (ae nm)).setCell ⟨gy,1,none⟩ pv):=by
 have b:=h.z2;obtain⟨j,g,k,i,a⟩:=h;have t:=Fc b ⟨rfl,rfl⟩ (ae nm) pv;rcases a with⟨a,_⟩|⟨_,a,_⟩|⟨a,_⟩
 ·omega
 ·exact⟨(j.far (p:=⟨gy,0,none⟩) c _).far (p:=⟨gy,1,none⟩) c _,(g.far (p:=⟨gy,0,none⟩) d _).far (p:=⟨gy,1,none⟩) d _,k.tch t (by decide) (fun _ _ x=>x.tch t),FO i n4 _ _,.inr (.inr ⟨rfl,(a.far (p:=⟨gy,0,none⟩) f _).far (p:=⟨gy,1,none⟩) f _,(b.set_ 0 _).set_ 1 _⟩)⟩
 omega
end
theorem MksTb.of_row{w:World}{base n c:Nat}{A:Option Addr}{l:List aB}(h:bc 67 (MkC 500) 7 w base (.slice A n c) n l):ls 500 w A n c l:=h.slT fun _ _ _ _ b a=>b.at_ a
def mS(g n:Nat)(w:World):Nat:=match w.cell? ⟨g,1,none⟩,w.cell? ⟨g,2,none⟩ with|some (.int _ p),some (.int _ x)=>2*(n-p.toNat)+(if x=0 then 1 else 0)|_,_=>0
theorem uP{w:World}{g t n p:Nat}{x:Int}{b c a d f:Value}(h:Blk w g t #[b,.int .i64 (p:Nat),.int .i64 x,c,a,d,f]):mS g n w=2*(n-p)+(if x=0 then 1 else 0):=by
 unfold mS;rw[h.cell 1,h.cell 2];simp
theorem l8{w:World}{g:Nat}(h:w.heap.size=g)(cs:Array Value)(t:TypeId):∀j u,cs.toList[j]?=some u->(w.alloc (.cells cs t)).cell? ((⟨g,0,none⟩:Addr).add j)=some u:=by
 subst h;exact x9 (Ao w _)
theorem cA{l:List Tkn}{f p:Nat}{x:Int}{a:List aB}(h:¬(x=0/\aR l p x [125]=false)):cR l f p x a=(p,x,a):=by
 cases f
 ·rfl
 exact kl h
theorem dw{l:List Tkn}{f p:Nat}{x:Int}{a:List aB}(b:0<f)(h:x=0/\aR l p x [125]=false):cR l f p x a=cR l (f-1) (mkF l p x).1 (mkF l p x).2.1 (a++[(mkF l p x).2.2]):=by
 obtain⟨f,rfl⟩:∃g,f=g+1:=⟨f-1,by omega⟩;exact kZ h
theorem Cq(w:World)(A:Option Addr)(n c:Nat)(l:List Tkn)(h:TkS w A n c l)(hn:n<=65536)(p:Nat)(hp:p<=n)(x:Int)(m:List UInt8)(d:Option Addr)(r g:Nat)(y:Option Addr)(z q:Nat)(B3:Option Addr)(u s:Nat)(bo:∀t∈l,NmL t.text)(N:Nat × Int × aq)(hN:dT l p x=N):
 Calls Tryz.prog 84 #[.agg #[.slice A n c,.int .i64 (p:Nat),.int .i64 x,ae m,.slice d r g,.slice y z q,.slice B3 u s]] w (Fg w (.agg #[.slice A n c,.int .i64 (N.1:Nat),.int .i64 N.2.1,ae m,.slice d r g,.slice y z q,.slice B3 u s]) N.2.2):=by
 have hl:=h.1;obtain⟨i0,cz,aS,dO,cx⟩:=Gb uD;have HI:=Qh (And.intro cz (And.intro aS (And.intro dO cx)));clear cz aS dO cx;obtain⟨W,hW⟩:=Z9 (wF l p x);obtain⟨E,hE⟩:=Z9 (eF l W.1 W.2.1 [123]);unfold dT at hN;simp only[hW,hE]at hN;have eq:W.1<=n:=by rw[<-hW,<-hl];exact cC (by omega)
 have ep:E.1<=n:=by rw[<-hE,<-hl];exact cC (by omega)
 have cv:=Qh (show NmL W.2.2 by rw[<-hW];exact oZ bo p x);have HN:=Qh hN;have HW:=Qh hW;have HE:=Qh hE;have HK:=Qh h;have HX:=Qh bo;clear hN hW hE h bo;go_in;go_wp2_with fail;have b1:=(((Blk.new w 94 #[.slice A n c,.int .i64 (p:Nat),.int .i64 x,ae m,.slice d r g,.slice y z q,.slice B3 u s]).alloc (.cells #[.slice none 0 0,.int .i64 0,.int .i64 0,.string ⟨#[]⟩,.slice none 0 0,.slice none 0 0,.slice none 0 0] 94)).alloc (.cells #[.string ⟨#[]⟩,.slice none 0 0] 62)).alloc (.cells #[.string ⟨#[]⟩,.slice none 0 0] 62);have aS:=((Blk.new (w.alloc (.cells #[.slice A n c,.int .i64 (p:Nat),.int .i64 x,ae m,.slice d r g,.slice y z q,.slice B3 u s] 94)) 94 #[.slice none 0 0,.int .i64 0,.int .i64 0,.string ⟨#[]⟩,.slice none 0 0,.slice none 0 0,.slice none 0 0]).alloc (.cells #[.string ⟨#[]⟩,.slice none 0 0] 62)).alloc (.cells #[.string ⟨#[]⟩,.slice none 0 0] 62);have b8:=(Blk.new ((w.alloc (.cells #[.slice A n c,.int .i64 (p:Nat),.int .i64 x,ae m,.slice d r g,.slice y z q,.slice B3 u s] 94)).alloc (.cells #[.slice none 0 0,.int .i64 0,.int .i64 0,.string ⟨#[]⟩,.slice none 0 0,.slice none 0 0,.slice none 0 0] 94)) 62 #[.string ⟨#[]⟩,.slice none 0 0]).alloc (.cells #[.string ⟨#[]⟩,.slice none 0 0] 62);have b2:=Blk.new (((w.alloc (.cells #[.slice A n c,.int .i64 (p:Nat),.int .i64 x,ae m,.slice d r g,.slice y z q,.slice B3 u s] 94)).alloc (.cells #[.slice none 0 0,.int .i64 0,.int .i64 0,.string ⟨#[]⟩,.slice none 0 0,.slice none 0 0,.slice none 0 0] 94)).alloc (.cells #[.string ⟨#[]⟩,.slice none 0 0] 62)) 62 #[.string ⟨#[]⟩,.slice none 0 0];have b4:=bp (bp (bp (rg_refl w.heap.size (w.alloc (.cells #[.slice A n c,.int .i64 (p:Nat),.int .i64 x,ae m,.slice d r g,.slice y z q,.slice B3 u s] 94))) (.cells #[.slice none 0 0,.int .i64 0,.int .i64 0,.string ⟨#[]⟩,.slice none 0 0,.slice none 0 0,.slice none 0 0] 94)) (.cells #[.string ⟨#[]⟩,.slice none 0 0] 62)) (.cells #[.string ⟨#[]⟩,.slice none 0 0] 62);have cL:Below w.heap.size w (w.alloc (.cells #[.slice A n c,.int .i64 (p:Nat),.int .i64 x,ae m,.slice d r g,.slice y z q,.slice B3 u s] 94)):=(aa w).alloc Qr _;have c0:(w.alloc (.cells #[.slice A n c,.int .i64 (p:Nat),.int .i64 x,ae m,.slice d r g,.slice y z q,.slice B3 u s] 94)).heap.size=w.heap.size+1:=by simp
 generalize ev:(((w.alloc (.cells #[.slice A n c,.int .i64 (p:Nat),.int .i64 x,ae m,.slice d r g,.slice y z q,.slice B3 u s] 94)).alloc (.cells #[.slice none 0 0,.int .i64 0,.int .i64 0,.string ⟨#[]⟩,.slice none 0 0,.slice none 0 0,.slice none 0 0] 94)).alloc (.cells #[.string ⟨#[]⟩,.slice none 0 0] 62)).alloc (.cells #[.string ⟨#[]⟩,.slice none 0 0] 62)=w0 at b1 aS b8 b2 b4⊢;have bw:BdG w (w.alloc (.cells #[.slice A n c,.int .i64 (p:Nat),.int .i64 x,ae m,.slice d r g,.slice y z q,.slice B3 u s] 94)) (w.heap.size+1) (w.heap.size+2) (w.heap.size+3) #[.slice A n c,.int .i64 (p:Nat),.int .i64 x,ae m,.slice d r g,.slice y z q,.slice B3 u s] [] w0 [] (.slice none 0 0):=⟨b1,b4,by simpa using aS,by simpa using b8,by simpa using b2,bc.nil,⟨c0,rfl,rfl,rfl⟩,rfl,cL⟩;generalize (w.alloc (.cells #[.slice A n c,.int .i64 (p:Nat),.int .i64 x,ae m,.slice d r g,.slice y z q,.slice B3 u s] 94))=wa at bw;have bz:=Qh bw;clear b1 aS b8 b2 b4 cL c0 ev bw;(refine(iA w0 A n c l (HK.out.belw bz.out.bel) hn p hp x m d r g y z q B3 u s W HW.out).mono ?_);rintro e w1⟨rfl,d2⟩;have Q:=bz.out.below d2;have bY:=Qh Q;have bs:w.heap.size+3<w1.heap.size:=by have:=Q.b.lt;have:=Q.lt;omega
 have ad:w.heap.size<w1.heap.size:=by omega
 have c3:w.heap.size+1<w1.heap.size:=by omega
 have cn:w.heap.size+2<w1.heap.size:=by omega
 obtain⟨P,O,U,V,Z,Y,S⟩:=Q.st.c7;obtain⟨f0,f1,f2,f3,f4,f5,f6⟩:=Q.st.f7;obtain⟨d0,cb⟩:=Q.b.c2;obtain⟨d1,cr⟩:=Q.b.f2;clear Q d2 bz;go_wp2_with fail;have Q:=((bY.out.call (st7 bY.out.st (.slice A n c) (.int .i64 (W.1:Nat)) (.int .i64 W.2.1) (.string ⟨m.toArray⟩) (.slice d r g) (.slice y z q) (.slice B3 u s)) (rg7 (rg_refl _ _) _ _ _ _ _ _ _) rfl).nm0 W.2.2 rfl);have b3:=Qh Q;clear Q P O U V Z Y S f0 f1 f2 f3 f4 f5 f6 d0 cb d1 cr bY bs ad c3 cn;(refine(dA _ A n c l (HK.out.belw b3.out.bel) hn W.1 eq W.2.1 m d r g y z q B3 u s [123] E HE.out).mono ?_);rintro e w2⟨rfl,co⟩;have aC:=b3.out.below co;have b9:=Qh aC;have bs:w.heap.size+3<w2.heap.size:=by have:=aC.b.lt;have:=aC.lt;omega
 have ad:w.heap.size<w2.heap.size:=by omega
 obtain⟨P,O,U,V,Z,Y,S⟩:=aC.st.c7;obtain⟨f0,f1,f2,f3,f4,f5,f6⟩:=aC.st.f7;clear aC co b3;go_wp2_with fail;have ds:=b9.out.call (st7 b9.out.st (.slice A n c) (.int .i64 (E.1:Nat)) (.int .i64 E.2.1) (.string ⟨m.toArray⟩) (.slice d r g) (.slice y z q) (.slice B3 u s)) (rg7 (rg_refl _ _) _ _ _ _ _ _ _) rfl;have dq:=Qh ds;clear ds P O U V Z Y S f0 f1 f2 f3 f4 f5 f6 b9 bs ad;obtain⟨M,hM⟩:=Z9 (cR l (l.length+1) E.1 E.2.1 []);have hN:=HN.out;rw[hM]at hN;have HM:=Qh hM;have ba:=Qh hN;clear hN hM HN;go_loopw [] (fun wr=>∃f I x' L pv,BdG w wa (w.heap.size+1) (w.heap.size+2) (w.heap.size+3) #[.slice A n c,.int .i64 (I:Nat),.int .i64 x',ae m,.slice d r g,.slice y z q,.slice B3 u s] W.2.2 wr L pv/\I<=n/\(x'=0->n+1<=f+I/\L.length<=I)/\Hid (cR l f I x' L=M)) (fun wr=>mS w.heap.size n wr)
 case atStart=>exact⟨_,E.1,E.2.1,[],_,dq.out,ep,fun _=>⟨by omega,Nat.zero_le _⟩,HM⟩
 case round =>
  clear HM dq;obtain⟨f,I,x',L,pv,aF,a9,bu,HR⟩:=hrel;have ab:=Qh aF;have dv:w.heap.size+3<wr.heap.size:=by have:=aF.b.lt;have:=aF.lt;omega
  have ad:w.heap.size<wr.heap.size:=by omega
  obtain⟨Ap,cp,rfl,e6⟩:=aF.row.form;obtain⟨P,O,U,V,Z,Y,S⟩:=aF.st.c7;clear aF;by_cases hx:x'=0;rotate_left
  ·have t1:(x'==0)=false:=it.2 hx
   have t2:(x'=0)=False:=oK hx;have a4:=HR.out;rw[cA (fun h=>hx h.1)]at a4;subst a4;have hN:=ba.out;subst hN;clear ba HR bu hx;go_wp2_with fail;clear P O U V Z Y S;change Code.wp _ _ _ (frZ _ _ _ _ _ _ _ _ _ _ _ _ _ _ _ _ _ _ _ _ _ _ _ _ _ _ _ _ _ _ _ _ _ _ _ _ _ _ _ _ _ _ _ _ _ _ _ _ _ _ (upd (upd (upd (fun _=>undef) 0 _) 1 _) 2 _)) _;have ea:=ab.out.lt;obtain⟨G,a6⟩:=Z9 (eF l I x' [125]);have a3:=Qh a6;clear a6;have H0:=Qh (show TBG w w.heap.size (w.heap.size+1) (w.heap.size+2) (w.heap.size+3) #[.slice A n c,.int .i64 (I:Nat),.int .i64 x',ae m,.slice d r g,.slice y z q,.slice B3 u s] #[.slice A n c,.int .i64 (G.1:Nat),.int .i64 G.2.1,ae m,.slice d r g,.slice y z q,.slice B3 u s] W.2.2 (.slice Ap L.length cp) L 0 wr from⟨ab.out.st,ab.out.b,ab.out.row,ab.out.bel,.inl ⟨by decide,ab.out.zs,ab.out.zb⟩⟩);refine eX [1,3,4] (fun _=>3) (R:=fun ri=>List.getD (VE (.agg #[.slice A n c,.int .i64 (I:Nat),.int .i64 x',ae m,.slice d r g,.slice y z q,.slice B3 u s])::VE (.agg #[.slice A n c,.int .i64 (G.1:Nat),.int .i64 G.2.1,ae m,.slice d r g,.slice y z q,.slice B3 u s])::VE (.agg #[ae W.2.2,.slice Ap L.length cp])::[]) ri VA) (T:=fun k _ wq=>TBG w w.heap.size (w.heap.size+1) (w.heap.size+2) (w.heap.size+3) #[.slice A n c,.int .i64 (I:Nat),.int .i64 x',ae m,.slice d r g,.slice y z q,.slice B3 u s] #[.slice A n c,.int .i64 (G.1:Nat),.int .i64 G.2.1,ae m,.slice d r g,.slice y z q,.slice B3 u s] W.2.2 (.slice Ap L.length cp) L k wq) (by kernel_rfl) ?_ ?_ ?_ ?_ ?_ ?_ ?_ ?_ ?_ ?_ ?_
   ·exact aD ⟨(fun _ _=>rfl),(fun _ _=>rfl),(fun _ _=>rfl),(fun _ _=>rfl),(fun _ _=>rfl),trivial⟩
   ·exact aD (bP _ 0 (by kernel_rfl))
   ·decide
   ·intro j hj
    obtain rfl|rfl|rfl:=(show j=0\/j=1\/j=2 by simp at hj;omega)
    ·exact⟨1,rfl,rfl⟩
    ·exact⟨3,rfl,rfl⟩
    exact⟨4,rfl,rfl⟩
   ·intro i o j F hj
    have al:=fy hj;obtain rfl|rfl:=(show j=0\/j=1 by simp at al;omega)
    ·injection hj with hj;subst hj
     injection F with F;subst F;exact⟨⟨1,.data⟩,by simp,rfl,rfl⟩
    injection hj with hj;subst hj;injection F with F;subst F;exact⟨⟨3,.chain⟩,by simp,rfl,rfl⟩
   ·exact fun _ _ _ _ _ _ h=>h
   ·exact H0.out.drew
   ·exact fun i _=>.inl Qr
   ·refine aD ⟨?_,(fun h=>absurd (by decide) h),?_,(fun h=>absurd (by decide) h),(fun h=>absurd (by decide) h),trivial⟩
    ·intro _ k xf wq b0 B hd K hK
     obtain⟨x0,x1,x2,x3,x4,x5,x6⟩:=B.1.c7;(try dsimp only[frZ]);go_simp;have C:=hK.out _ rfl;dsimp only[frZ]at C;exact C
    intro _ k xf wq b0 B hd K hK;obtain⟨x0,x1⟩:=B.2.1.c2;(try dsimp only[frZ]);go_simp;have C:=hK.out _ rfl;dsimp only[frZ]at C;exact C
   ·intro k i o hk F
    have al:=fy hk;obtain rfl|rfl|rfl:=(show k=0\/k=1\/k=2 by simp at al;omega)
    ·injection hk with hk;subst hk
     injection F with F;subst F;intro xf wq B hd K hK;have a5:xf 0=(.agg #[.slice A n c,.int .i64 (I:Nat),.int .i64 x',ae m,.slice d r g,.slice y z q,.slice B3 u s]):=hd ⟨0,.data⟩ (by simp) rfl;(try dsimp only[frZ]);(try simp only[a5]);go_simp;go_at_call 44;(refine(dA _ A n c l (HK.out.belw B.2.2.2.1) hn I a9 x' m d r g y z q B3 u s [125] G a3.out).mono ?_);rintro e en⟨rfl,hb⟩;have C:=hK.out _ _ rfl (TBG.bel_ B hb);dsimp only[frZ]at C;simp only[a5]at C;exact C
    ·injection hk with hk;subst hk
     injection F with F;subst F;intro xf wq B hd K hK;have a2:xf 1=(.agg #[.slice A n c,.int .i64 (G.1:Nat),.int .i64 G.2.1,ae m,.slice d r g,.slice y z q,.slice B3 u s]):=hd ⟨1,.data⟩ (by simp) rfl;obtain⟨P,O,U,V,Z,Y,S⟩:=(TBG.z1 B).c7;obtain⟨f0,f1,f2,f3,f4,f5,f6⟩:=(TBG.z1 B).f7;(try dsimp only[frZ]);(try simp only[a2]);go_simp;have C:=hK.out undef _ trivial (TBG.put B (by omega) (by omega) (by omega) (by omega) (by omega));dsimp only[frZ]at C;simp only[a2]at C;exact C
    injection hk with hk;subst hk;injection F with F;subst F;intro xf wq B hd K hK;have aT:xf 2=(.agg #[ae W.2.2,.slice Ap L.length cp]):=hd ⟨2,.data⟩ (by simp) rfl;obtain⟨P,O⟩:=(TBG.z2 B).c2;obtain⟨f0,f1⟩:=(TBG.z2 B).f2;(try dsimp only[frZ]);(try simp only[aT]);go_simp;have C:=hK.out undef _ trivial (TBG.put2 B (by omega) (by omega) (by omega) (by omega));dsimp only[frZ]at C;simp only[aT]at C;exact C
   intro xf wq B hr;have B:TBG w w.heap.size (w.heap.size+1) (w.heap.size+2) (w.heap.size+3) #[.slice A n c,.int .i64 (I:Nat),.int .i64 x',ae m,.slice d r g,.slice y z q,.slice B3 u s] #[.slice A n c,.int .i64 (G.1:Nat),.int .i64 G.2.1,ae m,.slice d r g,.slice y z q,.slice B3 u s] W.2.2 (.slice Ap L.length cp) L 3 wq:=B;obtain⟨P,O,U,V,Z,Y,S⟩:=(TBG.z3 B).1.c7;obtain⟨z0,z1⟩:=(TBG.z3 B).2.c2;have ac:=MksTb.of_row B.2.2.1;have aZ:=B.2.2.2.1;dsimp only[frZ];clear B hr;go_wp2_with fail;refine zr1 (.tuple #[.agg #[.slice A n c,.int .i64 (G.1:Nat),.int .i64 G.2.1,ae m,.slice d r g,.slice y z q,.slice B3 u s],.agg #[ae W.2.2,.slice Ap L.length cp]]) ?_;rw[<-a3.out];exact⟨_,_,_,rfl,ac,cv.out,aZ⟩
  subst hx;obtain⟨fb,eW⟩:=bu rfl;obtain⟨v,hv⟩:=Z9 (aR l I 0 [125]);have HV:=Qh hv;clear hv bu;go_wp2_with fail;(refine(jQ _ A n c l (HK.out.belw ab.out.bel) hn I a9 0 m d r g y z q B3 u s [125] v HV.out).mono ?_);rintro e H⟨rfl,cs⟩;have D:=Qh (ab.out.below cs);clear cs P O U V Z Y S ad dv;have eT:w.heap.size+3<H.heap.size:=by have:=D.out.b.lt;have:=D.out.lt;omega
  have eD:w.heap.size<H.heap.size:=by omega
  have eQ:¬w.heap.size=H.heap.size:=by omega
  obtain⟨P,O,U,V,Z,Y,S⟩:=D.out.st.c7;cases v;rotate_left
  ·have a4:=HR.out
   rw[cA (fun h=>by rw[HV.out]at h;exact absurd h.2 (by decide))]at a4;subst a4;have hN:=ba.out;subst hN;clear ba HR P O U V Z Y S;go_wp2_with fail;change Code.wp _ _ _ (frZ _ _ _ _ _ _ _ _ _ _ _ _ _ _ _ _ _ _ _ _ _ _ _ _ _ _ _ _ _ _ _ _ _ _ _ _ _ _ _ _ _ _ _ _ _ _ _ _ _ _ (upd (upd (upd (fun _=>undef) 0 _) 1 _) 2 _)) _;have ea:=D.out.lt;obtain⟨G,a6⟩:=Z9 (eF l I 0 [125]);have a3:=Qh a6;clear a6;have H0:=Qh (show TBG w w.heap.size (w.heap.size+1) (w.heap.size+2) (w.heap.size+3) #[.slice A n c,.int .i64 (I:Nat),.int .i64 0,ae m,.slice d r g,.slice y z q,.slice B3 u s] #[.slice A n c,.int .i64 (G.1:Nat),.int .i64 G.2.1,ae m,.slice d r g,.slice y z q,.slice B3 u s] W.2.2 (.slice Ap L.length cp) L 0 H from⟨D.out.st,D.out.b,D.out.row,D.out.bel,.inl ⟨by decide,D.out.zs,D.out.zb⟩⟩);refine eX [1,3,4] (fun _=>3) (R:=fun ri=>List.getD (VE (.agg #[.slice A n c,.int .i64 (I:Nat),.int .i64 0,ae m,.slice d r g,.slice y z q,.slice B3 u s])::VE (.agg #[.slice A n c,.int .i64 (G.1:Nat),.int .i64 G.2.1,ae m,.slice d r g,.slice y z q,.slice B3 u s])::VE (.agg #[ae W.2.2,.slice Ap L.length cp])::[]) ri VA) (T:=fun k _ wq=>TBG w w.heap.size (w.heap.size+1) (w.heap.size+2) (w.heap.size+3) #[.slice A n c,.int .i64 (I:Nat),.int .i64 0,ae m,.slice d r g,.slice y z q,.slice B3 u s] #[.slice A n c,.int .i64 (G.1:Nat),.int .i64 G.2.1,ae m,.slice d r g,.slice y z q,.slice B3 u s] W.2.2 (.slice Ap L.length cp) L k wq) (by kernel_rfl) ?_ ?_ ?_ ?_ ?_ ?_ ?_ ?_ ?_ ?_ ?_
   ·exact aD ⟨(fun _ _=>rfl),(fun _ _=>rfl),(fun _ _=>rfl),(fun _ _=>rfl),(fun _ _=>rfl),trivial⟩
   ·exact aD (bP _ 0 (by kernel_rfl))
   ·decide
   ·intro j hj
    obtain rfl|rfl|rfl:=(show j=0\/j=1\/j=2 by simp at hj;omega)
    ·exact⟨1,rfl,rfl⟩
    ·exact⟨3,rfl,rfl⟩
    exact⟨4,rfl,rfl⟩
   ·intro i o j F hj
    have al:=fy hj;obtain rfl|rfl:=(show j=0\/j=1 by simp at al;omega)
    ·injection hj with hj;subst hj
     injection F with F;subst F;exact⟨⟨1,.data⟩,by simp,rfl,rfl⟩
    injection hj with hj;subst hj;injection F with F;subst F;exact⟨⟨3,.chain⟩,by simp,rfl,rfl⟩
   ·exact fun _ _ _ _ _ _ h=>h
   ·exact H0.out.drew
   ·exact fun i _=>.inl Qr
   ·refine aD ⟨?_,(fun h=>absurd (by decide) h),?_,(fun h=>absurd (by decide) h),(fun h=>absurd (by decide) h),trivial⟩
    ·intro _ k xf wq b0 B hd K hK
     obtain⟨x0,x1,x2,x3,x4,x5,x6⟩:=B.1.c7;(try dsimp only[frZ]);go_simp;have C:=hK.out _ rfl;dsimp only[frZ]at C;exact C
    intro _ k xf wq b0 B hd K hK;obtain⟨x0,x1⟩:=B.2.1.c2;(try dsimp only[frZ]);go_simp;have C:=hK.out _ rfl;dsimp only[frZ]at C;exact C
   ·intro k i o hk F
    have al:=fy hk;obtain rfl|rfl|rfl:=(show k=0\/k=1\/k=2 by simp at al;omega)
    ·injection hk with hk;subst hk
     injection F with F;subst F;intro xf wq B hd K hK;have a5:xf 0=(.agg #[.slice A n c,.int .i64 (I:Nat),.int .i64 0,ae m,.slice d r g,.slice y z q,.slice B3 u s]):=hd ⟨0,.data⟩ (by simp) rfl;(try dsimp only[frZ]);(try simp only[a5]);go_simp;go_at_call 44;(refine(dA _ A n c l (HK.out.belw B.2.2.2.1) hn I a9 0 m d r g y z q B3 u s [125] G a3.out).mono ?_);rintro e en⟨rfl,hb⟩;have C:=hK.out _ _ rfl (TBG.bel_ B hb);dsimp only[frZ]at C;simp only[a5]at C;exact C
    ·injection hk with hk;subst hk
     injection F with F;subst F;intro xf wq B hd K hK;have a2:xf 1=(.agg #[.slice A n c,.int .i64 (G.1:Nat),.int .i64 G.2.1,ae m,.slice d r g,.slice y z q,.slice B3 u s]):=hd ⟨1,.data⟩ (by simp) rfl;obtain⟨P,O,U,V,Z,Y,S⟩:=(TBG.z1 B).c7;obtain⟨f0,f1,f2,f3,f4,f5,f6⟩:=(TBG.z1 B).f7;(try dsimp only[frZ]);(try simp only[a2]);go_simp;have C:=hK.out undef _ trivial (TBG.put B (by omega) (by omega) (by omega) (by omega) (by omega));dsimp only[frZ]at C;simp only[a2]at C;exact C
    injection hk with hk;subst hk;injection F with F;subst F;intro xf wq B hd K hK;have aT:xf 2=(.agg #[ae W.2.2,.slice Ap L.length cp]):=hd ⟨2,.data⟩ (by simp) rfl;obtain⟨P,O⟩:=(TBG.z2 B).c2;obtain⟨f0,f1⟩:=(TBG.z2 B).f2;(try dsimp only[frZ]);(try simp only[aT]);go_simp;have C:=hK.out undef _ trivial (TBG.put2 B (by omega) (by omega) (by omega) (by omega));dsimp only[frZ]at C;simp only[aT]at C;exact C
   intro xf wq B hr;have B:TBG w w.heap.size (w.heap.size+1) (w.heap.size+2) (w.heap.size+3) #[.slice A n c,.int .i64 (I:Nat),.int .i64 0,ae m,.slice d r g,.slice y z q,.slice B3 u s] #[.slice A n c,.int .i64 (G.1:Nat),.int .i64 G.2.1,ae m,.slice d r g,.slice y z q,.slice B3 u s] W.2.2 (.slice Ap L.length cp) L 3 wq:=B;obtain⟨P,O,U,V,Z,Y,S⟩:=(TBG.z3 B).1.c7;obtain⟨z0,z1⟩:=(TBG.z3 B).2.c2;have ac:=MksTb.of_row B.2.2.1;have aZ:=B.2.2.2.1;dsimp only[frZ];clear B hr;go_wp2_with fail;refine zr1 (.tuple #[.agg #[.slice A n c,.int .i64 (G.1:Nat),.int .i64 G.2.1,ae m,.slice d r g,.slice y z q,.slice B3 u s],.agg #[ae W.2.2,.slice Ap L.length cp]]) ?_;rw[<-a3.out];exact⟨_,_,_,rfl,ac,cv.out,aZ⟩
  obtain⟨T1,a1⟩:∃T,wF l I 0=T:=⟨_,rfl⟩;obtain⟨N1,be⟩:∃T,numF l T1.1 T1.2.1=T:=⟨_,rfl⟩;obtain⟨N2,ao⟩:∃T,numF l N1.1 N1.2.1=T:=⟨_,rfl⟩;obtain⟨T2,bk⟩:∃T,eF l N2.1 N2.2.1 [59]=T:=⟨_,rfl⟩
  have cm:mkF l I 0=(T2.1,T2.2.1,⟨T1.2.2,rd N1.2.2,rd N2.2.2⟩):=by
   unfold mkF;simp only[a1,be,ao,bk]
  have g1:T1.1<=n:=by rw[<-a1,<-hl];exact cC (by omega)
  have g2:N1.1<=n:=by rw[<-be,<-hl];exact l7.2.2 (by omega)
  have g3:N2.1<=n:=by rw[<-ao,<-hl];exact l7.2.2 (by omega)
  have g4:T2.1<=n:=by rw[<-bk,<-hl];exact cC (by omega)
  have et:=Qh a1;have ed:=Qh be;have di:=Qh ao;have d4:=Qh bk;have cu:=Qh cm;have ec:=Qh (show NmL T1.2.2 by rw[<-a1];exact oZ HX.out I 0);clear a1 be ao bk cm;clear P O U V Z Y S;obtain⟨P,O,U,V,Z,Y,S⟩:=D.out.st.c7;have a0:∀ {X:World},H.grownBy X (some w.heap.size)->Below w.heap.size w X:=fun k=>D.out.bel.trans (ix k D.out.bel.size Qr)
  have K0:=bp (rg_refl w.heap.size H) (.cells #[.string ⟨#[]⟩,.bool false,.slice none 0 0,.slice none 0 0,.bool false,.slice none 0 0,.slice none 0 0] 67);go_wp2_with fail;(refine(iA _ A n c l (HK.out.belw (a0 K0)) hn I a9 0 m d r g y z q B3 u s T1 et.out).mono ?_);rintro e w4⟨rfl,bg⟩;have K4:=du K0 bg;have s4:=(D.out.st.alloc (.cells #[.string ⟨#[]⟩,.bool false,.slice none 0 0,.slice none 0 0,.bool false,.slice none 0 0,.slice none 0 0] 67)).below bg (by simp;omega);have p4:=(Blk.new H 67 #[.string ⟨#[]⟩,.bool false,.slice none 0 0,.slice none 0 0,.bool false,.slice none 0 0,.slice none 0 0]).below bg (by simp);have ei:H.heap.size<w4.heap.size:=p4.lt;have es:w.heap.size<w4.heap.size:=s4.lt;have e7:¬w.heap.size=H.heap.size:=by omega
  have J:w.heap.size≠H.heap.size:=by omega
  clear P O U V Z Y S bg K0;obtain⟨P,O,U,V,Z,Y,S⟩:=s4.c7;obtain⟨f0,f1,f2,f3,f4,f5,f6⟩:=s4.f7;obtain⟨c9,_⟩:=p4.c7;obtain⟨ey,_⟩:=p4.f7;have br:=Qh (cZ (rg7 K4 (.slice A n c) (.int .i64 (T1.1:Nat)) (.int .i64 T1.2.1) (.string ⟨m.toArray⟩) (.slice d r g) (.slice y z q) (.slice B3 u s)) (p:=⟨H.heap.size,0,none⟩) Qr (.string ⟨T1.2.2.toArray⟩));have S4:=Qh ((st7 s4 (.slice A n c) (.int .i64 (T1.1:Nat)) (.int .i64 T1.2.1) (.string ⟨m.toArray⟩) (.slice d r g) (.slice y z q) (.slice B3 u s)).far (p:=⟨H.heap.size,0,none⟩) J (.string ⟨T1.2.2.toArray⟩));have P4:=Qh ((d8 p4 J.symm (.slice A n c) (.int .i64 (T1.1:Nat)) (.int .i64 T1.2.1) (.string ⟨m.toArray⟩) (.slice d r g) (.slice y z q) (.slice B3 u s)).set_ 0 (.string ⟨T1.2.2.toArray⟩));clear K4 s4 p4;go_wp2_with fail;clear P O U V Z Y S f0 f1 f2 f3 f4 f5 f6 c9 ey;(refine(oY _ A n c l (HK.out.belw (a0 br.out)) hn T1.1 g1 T1.2.1 m d r g y z q B3 u s N1 ed.out).mono ?_);rintro e w5⟨b5,A5,n5,c5,D5,d5,k5,rfl,q5,bd⟩;have K5:=du br.out bd;have s5:=S4.out.below bd S4.out.lt;have p5:=P4.out.below bd P4.out.lt;have ca:H.heap.size<w5.heap.size:=p5.lt;have ew:w.heap.size<w5.heap.size:=s5.lt;clear bd br S4 P4 ei es;obtain⟨P,O,U,V,Z,Y,S⟩:=s5.c7;obtain⟨f0,f1,f2,f3,f4,f5,f6⟩:=s5.f7;obtain⟨_,cj,cc,dd,_⟩:=p5.c7;obtain⟨_,ek,ee,ex,_⟩:=p5.f7;have bF:=Qh (cZ (cZ (cZ (rg7 K5 (.slice A n c) (.int .i64 (N1.1:Nat)) (.int .i64 N1.2.1) (.string ⟨m.toArray⟩) (.slice d r g) (.slice y z q) (.slice B3 u s)) (p:=⟨H.heap.size,1,none⟩) Qr (.bool b5)) (p:=⟨H.heap.size,2,none⟩) Qr (.slice A5 n5 c5)) (p:=⟨H.heap.size,3,none⟩) Qr (.slice D5 d5 k5));have S5:=Qh ((((st7 s5 (.slice A n c) (.int .i64 (N1.1:Nat)) (.int .i64 N1.2.1) (.string ⟨m.toArray⟩) (.slice d r g) (.slice y z q) (.slice B3 u s)).far (p:=⟨H.heap.size,1,none⟩) J (.bool b5)).far (p:=⟨H.heap.size,2,none⟩) J (.slice A5 n5 c5)).far (p:=⟨H.heap.size,3,none⟩) J (.slice D5 d5 k5));have P5:=Qh (Blk.x7 (d8 p5 J.symm (.slice A n c) (.int .i64 (N1.1:Nat)) (.int .i64 N1.2.1) (.string ⟨m.toArray⟩) (.slice d r g) (.slice y z q) (.slice B3 u s)) (.bool b5) (.slice A5 n5 c5) (.slice D5 d5 k5));have Q5:=Qh (QD.tch q5 ((fU (T:=TA) s5 rfl rfl (.slice A n c) (.int .i64 (N1.1:Nat)) (.int .i64 N1.2.1) (.string ⟨m.toArray⟩) (.slice d r g) (.slice y z q) (.slice B3 u s)).trans (fR (d8 p5 J.symm (.slice A n c) (.int .i64 (N1.1:Nat)) (.int .i64 N1.2.1) (.string ⟨m.toArray⟩) (.slice d r g) (.slice y z q) (.slice B3 u s)) rfl 1 2 3 (.bool b5) (.slice A5 n5 c5) (.slice D5 d5 k5))));clear K5 s5 p5 q5;go_wp2_with fail;clear P O U V Z Y S f0 f1 f2 f3 f4 f5 f6 cj cc dd ek ee ex;(refine(oY _ A n c l (HK.out.belw (a0 bF.out)) hn N1.1 g2 N1.2.1 m d r g y z q B3 u s N2 di.out).mono ?_);rintro e w6⟨b6,A6,n6,c6,D6,d6,k6,rfl,q6,a7⟩;have K6:=du bF.out a7;have s6:=S5.out.below a7 S5.out.lt;have p6:=P5.out.below a7 P5.out.lt;have c4:H.heap.size<w6.heap.size:=p6.lt;have eg:w.heap.size<w6.heap.size:=s6.lt;have u6:=QD.tch (T:=TA) Q5.out (Tch.below a7);clear a7 bF S5 P5 ca ew Q5;obtain⟨P,O,U,V,Z,Y,S⟩:=s6.c7;obtain⟨f0,f1,f2,f3,f4,f5,f6⟩:=s6.f7;obtain⟨_,_,_,_,ck,cy,c8⟩:=p6.c7;obtain⟨_,_,_,_,el,eh,eo⟩:=p6.f7;have t6:=(fU (T:=TA) s6 rfl rfl (.slice A n c) (.int .i64 (N2.1:Nat)) (.int .i64 N2.2.1) (.string ⟨m.toArray⟩) (.slice d r g) (.slice y z q) (.slice B3 u s)).trans (fR (d8 p6 J.symm (.slice A n c) (.int .i64 (N2.1:Nat)) (.int .i64 N2.2.1) (.string ⟨m.toArray⟩) (.slice d r g) (.slice y z q) (.slice B3 u s)) rfl 4 5 6 (.bool b6) (.slice A6 n6 c6) (.slice D6 d6 k6));have bv:=Qh (cZ (cZ (cZ (rg7 K6 (.slice A n c) (.int .i64 (N2.1:Nat)) (.int .i64 N2.2.1) (.string ⟨m.toArray⟩) (.slice d r g) (.slice y z q) (.slice B3 u s)) (p:=⟨H.heap.size,4,none⟩) Qr (.bool b6)) (p:=⟨H.heap.size,5,none⟩) Qr (.slice A6 n6 c6)) (p:=⟨H.heap.size,6,none⟩) Qr (.slice D6 d6 k6));have S6:=Qh ((((st7 s6 (.slice A n c) (.int .i64 (N2.1:Nat)) (.int .i64 N2.2.1) (.string ⟨m.toArray⟩) (.slice d r g) (.slice y z q) (.slice B3 u s)).far (p:=⟨H.heap.size,4,none⟩) J (.bool b6)).far (p:=⟨H.heap.size,5,none⟩) J (.slice A6 n6 c6)).far (p:=⟨H.heap.size,6,none⟩) J (.slice D6 d6 k6));have P6:=Qh (Blk.y7 (d8 p6 J.symm (.slice A n c) (.int .i64 (N2.1:Nat)) (.int .i64 N2.2.1) (.string ⟨m.toArray⟩) (.slice d r g) (.slice y z q) (.slice B3 u s)) (.bool b6) (.slice A6 n6 c6) (.slice D6 d6 k6));have Q6:=Qh (And.intro (QD.tch u6 t6) (QD.tch q6 t6));clear K6 s6 p6 q6 u6 t6;go_wp2_with fail;clear P O U V Z Y S f0 f1 f2 f3 f4 f5 f6 ck cy c8 el eh eo;(refine(dA _ A n c l (HK.out.belw (a0 bv.out)) hn N2.1 g3 N2.2.1 m d r g y z q B3 u s [59] T2 d4.out).mono ?_);rintro e w7⟨rfl,a8⟩;have K7:=du bv.out a8;have s7:=S6.out.below a8 S6.out.lt;have p7:=P6.out.below a8 P6.out.lt;have eA:H.heap.size<w7.heap.size:=p7.lt;have e4:w.heap.size<w7.heap.size:=s7.lt;have t7:=(Tch.below (T:=TA) a8).trans (fU (T:=TA) s7 rfl rfl (.slice A n c) (.int .i64 (T2.1:Nat)) (.int .i64 T2.2.1) (.string ⟨m.toArray⟩) (.slice d r g) (.slice y z q) (.slice B3 u s));have HM:=Qh (show MkC 500 _ [ae T1.2.2,.bool b5,.slice A5 n5 c5,.slice D5 d5 k5,.bool b6,.slice A6 n6 c6,.slice D6 d6 k6] ⟨T1.2.2,rd N1.2.2,rd N2.2.2⟩ from⟨b5,A5,n5,c5,D5,d5,k5,b6,A6,n6,c6,D6,d6,k6,rfl,QD.tch Q6.out.1 t7,QD.tch Q6.out.2 t7,ec.out⟩);have bb:=Qh (D.out.call (st7 s7 (.slice A n c) (.int .i64 (T2.1:Nat)) (.int .i64 T2.2.1) (.string ⟨m.toArray⟩) (.slice d r g) (.slice y z q) (.slice B3 u s)) (rg7 K7 (.slice A n c) (.int .i64 (T2.1:Nat)) (.int .i64 T2.2.1) (.string ⟨m.toArray⟩) (.slice d r g) (.slice y z q) (.slice B3 u s)) rfl);have eb:(World.setCell (World.setCell (World.setCell (World.setCell (World.setCell (World.setCell (World.setCell w7 ⟨w.heap.size,0,none⟩ (.slice A n c)) ⟨w.heap.size,1,none⟩ (.int .i64 (T2.1:Nat))) ⟨w.heap.size,2,none⟩ (.int .i64 T2.2.1)) ⟨w.heap.size,3,none⟩ (.string ⟨m.toArray⟩)) ⟨w.heap.size,4,none⟩ (.slice d r g)) ⟨w.heap.size,5,none⟩ (.slice y z q)) ⟨w.heap.size,6,none⟩ (.slice B3 u s)).heap.size=w7.heap.size:=by simp[World.setCell]
  obtain⟨_,xs,bn,ac⟩:=bb.out.row;have HO:=Qh bn;have d3:=Qh ac;obtain⟨P,O,U,V,Z,Y,S⟩:=s7.c7;obtain⟨f0,f1,f2,f3,f4,f5,f6⟩:=s7.f7;obtain⟨c9,cj,cc,dd,ck,cy,c8⟩:=p7.c7;have b7:=bX K7 D.out.b (by have:=D.out.lt;omega);obtain⟨d0,cb⟩:=b7.c2;obtain⟨d1,cr⟩:=b7.f2;have e5:w.heap.size+3<w7.heap.size:=b7.lt;have hL:L.length<=65536:=by omega
  clear a8 bv S6 P6 c4 eg Q6 s7 p7 t7 K7 bn ac b7 a0;go_wp2_with (at_builtin;(refine bK _ rfl noW _ _ _ rfl (w.heap.size+3) 67 i0 (.agg #[.string ⟨#[]⟩,.bool false,.slice none 0 0,.slice none 0 0,.bool false,.slice none 0 0,.slice none 0 0]) 7 128 Tryz.underlying60 HI.out.1 HI.out.2.1 HI.out.2.2.1 HI.out.2.2.2 rfl (by omega) rfl _ L.length xs rfl (HO.out.belw ((kz _ _).alloc Qr _)) ⟨w7.heap.size,0,none⟩ 1 1 [_,_,_,_,_,_,_] rfl rfl (l8 eb _ _) (by simp[Value.oneCell']) rfl (by omega) (by unfold maxLen;omega) (by omega) (by simp[World.setCell];omega) ?_);intro gx cap w8 bx an fa;have e0:=(bb.out.b5 HO.out _ an).frozen 1;obtain⟨e9,e8⟩:=(bb.out.b5 HO.out _ an).c2);have bl:=pZ (l:=l) (p:=I) (x:=0);rw[cu.out]at bl;simp only at bl;have dr:=dw (l:=l) (a:=L) (f:=f) (by omega) ⟨rfl,HV.out⟩;rw[HR.out,cu.out]at dr;have c1:=bb.out.push HO.out d3.out HM.out rfl bx an;go_roundw
  case rel =>
   refine⟨f-1,T2.1,T2.2.1,L++[⟨T1.2.2,rd N1.2.2,rd N2.2.2⟩],_,c1,g4,fun C=>?_,Qh dr.symm⟩;have h9:=bl.2.1 C;rw[kc,F8];omega
  case measure =>
   have ez:=uP (n:=n) c1.st;have ej:=uP (n:=n) ab.out.st;refine Nat.lt_of_lt_of_eq (Nat.lt_of_le_of_lt (Nat.le_of_eq ez) ?_) ej.symm;rw[kZ rfl];by_cases C:T2.2.1=0
   ·have h9:=bl.2.1 C
    rw[kZ C];omega
   rw[kl C];omega
def kt(l:List Tkn):List (Nat × List UInt8):=l.map fun t=>(t.kind,t.text)
structure AtK (s:PS) (K:List (Nat × List UInt8)) (L:am):Prop where
  x:s.x=0
  k:kt s.toks=K
  l:s.L=L
/-! Texts of numbers. -/
/-! Tokens of a text. -/
theorem sm{c:UInt8}(h:dj c=true):dR c=false:=by
 cases hs:dR c
 ·rfl
 unfold dR at hs;simp only[Io,xm]at hs;rcases hs with((e|e)|e)|e<;>subst e<;>exact absurd h (by decide)
def cl(l:List Tkn)(p:Nat)(x:Int)(s:PS):Prop:=x=s.x/\(x=0->l.drop p=s.toks)
def tA(l:List Tkn)(k:Nat)(t:List UInt8):Prop:=k≠1/\∀u∈l,u.kind≠1->u.text=t->u.kind=k
theorem wQ{k:Nat}{c:UInt8}(h:iE k [c])(g:dR c=true):k=2:=by
 obtain⟨r,n,a,b⟩:=h;have f:=eC a
 cases r with
 |nil=>simp at f;omega
 |cons d u =>
  obtain⟨m,rfl⟩:∃m,n=m+1:=⟨n-1,by omega⟩;rw[Hv]at b;injection b with e _;subst e;unfold bQ at a;simp only[g,GY]at a;injection a with a _;exact a.symm
theorem wS{k:Nat}{c:UInt8}{t:List UInt8}(h:iE k (c::t))(f:dj c=true):k=0:=by
 obtain⟨r,n,a,b⟩:=h;have g:=eC a
 cases r with
 |nil=>simp at g;omega
 |cons d u =>
  obtain⟨m,rfl⟩:∃m,n=m+1:=⟨n-1,by omega⟩;rw[Hv]at b;injection b with e _;subst e;have hw:0<cG (c::u):=by rw[cG,kZ f];omega
  unfold bQ at a;simp only[sm f,Gx,Hw,hw,GY]at a;split at a
  ·cases a
  injection a with a _;exact a.symm
theorem eK{l:List Tkn}(a:∀t∈l,iE t.kind t.text){c:UInt8}(f:dR c=true):tA l 2 [c]:=⟨by decide,fun u b _ d=>by have:=a u b;rw[d]at this;exact wQ this f⟩
theorem ii{l:List Tkn}(a:∀t∈l,iE t.kind t.text){c:UInt8}{r:List UInt8}(f:dj c=true):tA l 0 (c::r):=⟨by decide,fun u b _ d=>by have:=a u b;rw[d]at this;exact wS this f⟩
section
variable {l:List Tkn}{p:Nat}{x:Int}{s:PS}
theorem cl.cases(h:cl l p x s):(x≠0/\s.x≠0/\s.x=x)\/(x=0/\s.x=0/\l[p]?=none/\s.toks=[])\/∃t,x=0/\s.x=0/\l[p]?=some t/\s.toks=t::l.drop (p+1)/\t∈l:=by
 obtain⟨b,d⟩:=h;by_cases hx:x=0
 ·right
  have c:=d hx;rcases Nat.lt_or_ge p l.length with a|a
  ·right
   refine⟨l[p],hx,by rw[<-b];exact hx,sx a,?_,Hj a⟩;rw[<-c];exact Gp a
  left;exact⟨hx,by rw[<-b];exact hx,Gz a,by rw[<-c];exact FY a⟩
 exact .inl ⟨hx,by rw[<-b];exact hx,b.symm⟩
theorem gn{may:Bool}(a:x≠0):takeF l p x may=(p,x,[]):=kZ a
theorem ma{may:Bool}(a:x=0)(h:l[p]?=none):takeF l p x may=(p,18,[]):=by
 unfold takeF;rw[kl (by rw[a];simp),h]
theorem iB{may:Bool}{t:Tkn}(a:x=0)(h:l[p]?=some t):takeF l p x may=if may then (p+1,0,t.text) else (p,2,[]):=by
 unfold takeF;rw[kl (by rw[a];simp),h]
theorem cl.word(h:cl l p x s):cl l (wF l p x).1 (wF l p x).2.1 s.word.2/\(wF l p x).2.2=s.word.1:=by
 unfold wF;rcases h.cases with⟨b,a,c⟩|⟨b,a,c,d⟩|⟨t,b,a,c,d,_⟩
 ·have e:s.word=([],s):=by unfold PS.word PS.next;rw[kZ a]
  rw[gn b,e];exact⟨⟨c.symm,fun k=>absurd k b⟩,rfl⟩
 ·have e:s.word=([],{ s with x:=18 }):=by unfold PS.word PS.next;rw[kl (by rw[a];simp),d]
  rw[ma b c,e];exact⟨⟨rfl,fun k=>absurd (show (18:Int)=0 from k) (by decide)⟩,rfl⟩
 have f:bZ l p x 0=(t.kind==0):=by unfold bZ;rw[c,b];simp
 rw[iB b c,f];by_cases hk:t.kind=0
 ·have e:s.word=(t.text,s.drop1):=by unfold PS.word PS.next;rw[kl (by rw[a];simp),d];simp only;rw[kZ hk]
  rw[e,kZ (by simpa using hk)];refine⟨⟨a.symm,fun _=>?_⟩,rfl⟩;show l.drop (p+1)=s.toks.drop 1;rw[d];rfl
 have e:s.word=([],{ s with x:=2 }):=by unfold PS.word PS.next;rw[kl (by rw[a];simp),d];simp only;rw[kl hk]
 rw[e,kl (by simpa using hk)];exact⟨⟨rfl,fun k=>absurd (show (2:Int)=0 from k) (by decide)⟩,rfl⟩
theorem cl.expect(h:cl l p x s){k:Nat}{t:List UInt8}(i:tA l k t):cl l (eF l p x t).1 (eF l p x t).2.1 (s.expect k t):=by
 unfold eF;rcases h.cases with⟨b,a,d⟩|⟨b,a,d,c⟩|⟨u,b,a,d,c,j⟩
 ·have e:s.expect k t=s:=by unfold PS.expect PS.next;rw[kZ a]
  rw[gn b,e];exact⟨d.symm,fun k=>absurd k b⟩
 ·have e:s.expect k t={ s with x:=18 }:=by unfold PS.expect PS.next;rw[kl (by rw[a];simp),c]
  rw[ma b d,e];exact⟨rfl,fun k=>absurd (show (18:Int)=0 from k) (by decide)⟩
 have m:aR l p x t=(!(u.kind==1)&&(u.text==t)):=by unfold aR;rw[d,b];simp
 rw[iB b d,m];by_cases hk:u.kind=k
 ·by_cases ht:u.text=t
  ·have e:s.expect k t=s.drop1:=by unfold PS.expect PS.next;rw[kl (by rw[a];simp),c];simp only;rw[kZ hk];simp only;rw[kZ ht]
   have g:u.kind≠1:=by rw[hk];exact i.1
   rw[e,kZ (by simp[g,ht])];refine⟨a.symm,fun _=>?_⟩;show l.drop (p+1)=s.toks.drop 1;rw[c];rfl
  have e:s.expect k t=s.fail 2:=by unfold PS.expect PS.next;rw[kl (by rw[a];simp),c];simp only;rw[kZ hk];simp only;rw[kl ht]
  rw[e,kl (by simp[ht])];unfold PS.fail;rw[kZ a];exact⟨rfl,fun k=>absurd (show (2:Int)=0 from k) (by decide)⟩
 have e:s.expect k t={ s with x:=2 }:=by unfold PS.expect PS.next;rw[kl (by rw[a];simp),c];simp only;rw[kl hk]
 have n:¬((!(u.kind==1)&&(u.text==t))=true):=by
  intro f;simp only[uv,Ii,it,xm]at f;exact hk (i.2 u j f.1 f.2)
 rw[e,kl n];exact⟨rfl,fun k=>absurd (show (2:Int)=0 from k) (by decide)⟩
theorem Cr{t:List UInt8}(h:valX t≠0):valQ t=0:=by
 rcases val_out t with⟨_,_,a⟩|⟨_,_,_,a⟩|⟨_,_,_,_,_,_,b,_⟩|⟨_,_,_,_,_,_,_,_,_,_,a⟩|⟨_,_,_,_,_,_,_,_,_,b,_⟩|⟨_,_,_,_,_,_,_,_,b,_⟩
 ·exact a
 ·exact a
 ·exact absurd b h
 ·exact a
 ·exact absurd b h
 exact absurd b h
theorem mb{T:Nat × Int × List UInt8}(h:takeF l p x (bZ l p x 1)=T):numF l p x=if T.2.1≠0 then (T.1,T.2.1,0) else (T.1,valX T.2.2,valQ T.2.2):=by
 unfold numF;rw[h]
theorem cl.number(h:cl l p x s):cl l (numF l p x).1 (numF l p x).2.1 s.number.2/\(numF l p x).2.2=s.number.1:=by
 rcases h.cases with⟨b,a,c⟩|⟨b,a,c,d⟩|⟨t,b,a,c,d,_⟩
 ·have e:s.number=(0,s):=by unfold PS.number PS.next;rw[kZ a]
  rw[mb (gn b),e,kZ b];exact⟨⟨c.symm,fun k=>absurd k b⟩,rfl⟩
 ·have e:s.number=(0,{ s with x:=18 }):=by unfold PS.number PS.next;rw[kl (by rw[a];simp),d]
  rw[mb (ma b c),e,kZ (show (18:Int)≠0 by decide)];exact⟨⟨rfl,fun k=>absurd (show (18:Int)=0 from k) (by decide)⟩,rfl⟩
 have g:bZ l p x 1=(t.kind==1):=by unfold bZ;rw[c,b];simp
 by_cases hk:t.kind=1
 ·have f:takeF l p x (bZ l p x 1)=(p+1,0,t.text):=by rw[iB b c,g,kZ (by simpa using hk)]
  rw[mb f,kl (show ¬(0:Int)≠0 by simp)];by_cases hv:valX t.text=0
  ·have e:s.number=(valQ t.text,s.drop1):=by unfold PS.number PS.next;rw[kl (by rw[a];simp),d];simp only;rw[kZ hk];simp only;rw[kl (by rw[hv];simp)]
   rw[e];refine⟨⟨by show valX t.text=s.x;rw[hv,a],fun _=>?_⟩,rfl⟩;show l.drop (p+1)=s.toks.drop 1;rw[d];rfl
  have e:s.number=(0,s.fail (valX t.text)):=by unfold PS.number PS.next;rw[kl (by rw[a];simp),d];simp only;rw[kZ hk];simp only;rw[kZ hv]
  rw[e];refine⟨⟨?_,fun k=>absurd k hv⟩,Cr hv⟩;unfold PS.fail;rw[kZ a]
 have e:s.number=(0,{ s with x:=2 }):=by unfold PS.number PS.next;rw[kl (by rw[a];simp),d];simp only;rw[kl hk]
 have f:takeF l p x (bZ l p x 1)=(p,2,[]):=by rw[iB b c,g,kl (by simpa using hk)]
 rw[mb f,e,kZ (show (2:Int)≠0 by decide)];exact⟨⟨rfl,fun k=>absurd (show (2:Int)=0 from k) (by decide)⟩,rfl⟩
theorem cl.mark(h:cl l p x s)(f:tA l 2 [59]):cl l (mkF l p x).1 (mkF l p x).2.1 s.mark.2/\(mkF l p x).2.2=s.mark.1:=by
 obtain⟨i,b⟩:=h.word;obtain⟨g,c⟩:=i.number;obtain⟨j,d⟩:=g.number;have a:=j.expect f;unfold mkF PS.mark;simp only;exact⟨a,by rw[b,c,d]⟩
end
theorem cl.marks{l:List Tkn}(y:tA l 2 [59])(hb:tA l 2 [125]):∀(f g p:Nat) (x:Int) (s:PS) (a:List aB),cl l p x s->s.toks.length<f->l.length+1<=g+p->p<=l.length ->
 (eF l (cR l g p x a).1 (cR l g p x a).2.1 [125]).2.1=(PS.marks f s a).2.x/\((PS.marks f s a).2.x=0->cl l (eF l (cR l g p x a).1 (cR l g p x a).2.1 [125]).1 (eF l (cR l g p x a).1 (cR l g p x a).2.1 [125]).2.1 (PS.marks f s a).2/\(cR l g p x a).2.2=(PS.marks f s a).1)
 |0,g,p,x,s,a,_,hf,_,_=>by omega
 |f+1,g,p,x,s,a,h,hf,hg,hp=>by
  rcases h.cases with⟨o,n,w⟩|⟨o,n,w,r⟩|⟨t,o,n,w,r,B⟩
  ·rw[jH n,cA (fun k=>o k.1)]
   have e:eF l p x [125]=(p,x,[]):=gn o;simp only[e];exact⟨w.symm,fun k=>absurd k n⟩
  ·-- no token is left
   have c:s.signHead=false:=by unfold PS.signHead;rw[r]
   have i:aR l p x [125]=false:=by unfold aR;rw[w];simp
   rw[eJ (by omega) n c,dw (by omega) ⟨o,i⟩];obtain⟨j,_⟩:=h.mark y
   have b:s.mark.2.x≠0:=by
    have hw:s.word.2.x=18:=by unfold PS.word PS.next;rw[kl (by rw[n];simp),r]
    have q:=((eI s.word.2).trans (eI _)).trans (aH _ 2 [59]);have:=q.2.1 (by rw[hw];decide);show ((s.word.2.number.2.number.2.expect 2 [59]).x≠0);rw[this,hw];decide
   have d:(mkF l p x).2.1≠0:=by rw[j.1];exact b
   rw[jH b,cA (fun k=>d k.1)];have e:eF l (mkF l p x).1 (mkF l p x).2.1 [125]=((mkF l p x).1,(mkF l p x).2.1,[]):=gn d;simp only[e];exact⟨j.1,fun k=>absurd k b⟩
  have A:aR l p x [125]=(!(t.kind==1)&&(t.text==[125])):=by unfold aR;rw[w,o];simp
  cases c:s.signHead
  ·have m:t.kind≠2:=by
    unfold PS.signHead at c;rw[r]at c;simpa using c
   have i:aR l p x [125]=false:=by
    rw[A];cases hq:(!(t.kind==1)&&(t.text==[125]))
    ·rfl
    simp only[uv,Ii,it,xm]at hq;exact absurd (hb.2 t B hq.1 hq.2) m
   rw[eJ (by omega) n c,dw (by omega) ⟨o,i⟩];obtain⟨j,z⟩:=h.mark y;have u:=pZ (l:=l) (p:=p) (x:=x);rw[z];by_cases b:s.mark.2.x=0
   ·have D:=((jc s).2.2.1 b).2
    have C:=u.2.1 (by rw[j.1];exact b);exact cl.marks y hb f (g-1) _ _ _ _ j (by omega) (by omega) (u.2.2 hp)
   have d:(mkF l p x).2.1≠0:=by rw[j.1];exact b
   rw[jH (f:=f+1-1) b,cA (fun k=>d k.1)];have e:eF l (mkF l p x).1 (mkF l p x).2.1 [125]=((mkF l p x).1,(mkF l p x).2.1,[]):=gn d;simp only[e];exact⟨j.1,fun k=>absurd k b⟩
  ·have m:t.kind=2:=by
    unfold PS.signHead at c;rw[r]at c;simpa using c
   rw[jI (by omega) n c];by_cases ht:t.text=[125]
   ·have i:aR l p x [125]=true:=by rw[A,m,ht];rfl
    rw[cA (fun k=>by rw[i]at k;exact absurd k.2 (by decide))];have j:=h.expect hb;exact⟨j.1,fun _=>⟨j,rfl⟩⟩
   have i:aR l p x [125]=false:=by rw[A];simp[ht]
   have b:(s.expect 2 [125]).x=2:=by
    unfold PS.expect PS.next;rw[kl (by rw[n];simp),r];simp only;rw[kZ m];simp only;rw[kl ht];unfold PS.fail;rw[kZ n]
   rw[dw (by omega) ⟨o,i⟩];obtain⟨j,_⟩:=h.mark y
   have d:s.mark.2.x=2:=by
    have hw:s.word.2.x=2:=by unfold PS.word PS.next;rw[kl (by rw[n];simp),r];simp only;rw[kl (by rw[m];decide)]
    have q:=((eI s.word.2).trans (eI _)).trans (aH _ 2 [59]);have:=q.2.1 (by rw[hw];decide);show ((s.word.2.number.2.number.2.expect 2 [59]).x=2);rw[this,hw]
   have v:(mkF l p x).2.1≠0:=by rw[j.1,d];decide
   rw[cA (fun k=>v k.1)];have e:eF l (mkF l p x).1 (mkF l p x).2.1 [125]=((mkF l p x).1,(mkF l p x).2.1,[]):=gn v;simp only[e,b];exact⟨by rw[j.1,d],fun k=>absurd (show (2:Int)=0 from k) (by decide)⟩
theorem cl.body{l:List Tkn}(b:∀t∈l,iE t.kind t.text){p:Nat}{x:Int}{s:PS}(h:cl l p x s)(g:p<=l.length):(dT l p x).2.1=s.body.2.x/\(s.body.2.x=0->cl l (dT l p x).1 (dT l p x).2.1 s.body.2/\(dT l p x).2.2=s.body.1):=by
 have q:=eK b (c:=123) (by decide);have k:=eK b (c:=59) (by decide);have i:=eK b (c:=125) (by decide);obtain⟨n,j⟩:=h.word;have m:=n.expect q;have o:=((aM s).trans (aH s.word.2 2 [123])).1;have f:(wF l p x).1<=l.length:=cC g;have k2:(eF l (wF l p x).1 (wF l p x).2.1 [123]).1<=l.length:=cC f;have a:=cl.marks k i (s.toks.length+1) (l.length+1) _ _ _ [] m (by omega) (by omega) k2;unfold dT PS.body;simp only;exact⟨a.1,fun d=>⟨(a.2 d).1,by rw[j,(a.2 d).2]⟩⟩
theorem fv{P:Program}{c:Code}{Q:Exit->Act->World->Prop}{a:Act}{w:World}(h:∀w6,w6=w->Code.wp P c Q a w6):Code.wp P c Q a w:=h w rfl
noncomputable def FT (l:List Tkn) (x:Int):Int × aq :=
  let E:=eF l 0 x dG
  let N:=dT l E.1 E.2.1
  if N.2.1≠0 then (N.2.1,B0) else if N.1<l.length then (2,B0) else (0,N.2.2)
theorem tB{s:List UInt8}{x:Int}{l:List Tkn}(h:bi s x l):∀t∈l,NmL t.text:=by
 rcases h with⟨_,_,e⟩|⟨d,c,f⟩|⟨_,_,_,_,e⟩
 ·subst e;intro t b;cases b
 ·exact oV (.ok d c rfl)
 subst e;intro t b;cases b
/-! What the reference reads: a point's full name, a joint, a driver, an item. -/
def namedF(l:List Tkn)(p:Nat)(x:Int)(bs:List aq):Nat × Int × Int :=
  if (wF l p x).2.1≠0 then ((wF l p x).1,(wF l p x).2.1,0) else match findB bs (wF l p x).2.2 with|some i=>((wF l p x).1,0,(i:Int))|none=>((wF l p x).1,5,0)
def jW(x b only:Int):Int:=if x=0/\0<=only/\b≠only then 7 else x
def wT(bs:List aq)(i:Int):List aB:=match bs[i.toNat]? with|some b=>b.pts|none=>[]
def fullF(l:List Tkn)(p:Nat)(x:Int)(bs:List aq)(only:Int):Nat × Int × Int × Int :=
  let N:=namedF l p x bs
  let E:=eF l N.1 (jW N.2.1 N.2.2 only) [46]
  let W:=wF l E.1 E.2.1
  if W.2.1≠0 then (W.1,W.2.1,0,0) else match findM (wT bs N.2.2) W.2.2 with|some i=>(W.1,0,N.2.2,(i:Int))|none=>(W.1,5,0,0)
def cD(l:List Tkn)(p:Nat)(x:Int)(bs:List aq)(slide:Bool):Nat × Int × bj :=
  let W:=wF l p x
  let a:=fullF l W.1 W.2.1 bs (-1)
  let b:=fullF l a.1 a.2.1 bs (-1)
  let t:Nat × Int × Int × Int:=if slide then fullF l b.1 b.2.1 bs b.2.2.1 else (b.1,b.2.1,0,0)
  let E:=eF l t.1 t.2.1 [59]
  (E.1,E.2.1,⟨W.2.2,if slide then 1 else 0,a.2.2.1,a.2.2.2,b.2.2.1,b.2.2.2,t.2.2.2⟩)
def dB(l:List Tkn)(p:Nat)(x:Int)(bs:List aq):Nat × Int × bD :=
  let W:=wF l p x
  let N:=namedF l W.1 W.2.1 bs
  let E:=eF l N.1 N.2.1 [59]
  (E.1,E.2.1,⟨W.2.2,N.2.2⟩)
def gN(l:List Tkn)(p:Nat)(x:Int):Bool:=aR l p x dG||aR l p x iZ||aR l p x dL||aR l p x dz
def am.addB(L:am)(b:aq):am:={ L with bodies:=L.bodies++[b] }
def am.addJ(L:am)(j:bj):am:={ L with joints:=L.joints++[j] }
def am.addD(L:am)(d:bD):am:={ L with drivers:=L.drivers++[d] }
noncomputable def dk (l:List Tkn) (p:Nat) (x:Int) (L:am):Nat × Int × am :=
  let T:=takeF l p x (gN l p x)
  if T.2.2=dG then ((dT l T.1 T.2.1).1,(dT l T.1 T.2.1).2.1,L.addB (dT l T.1 T.2.1).2.2)
  else if T.2.2=iZ then ((cD l T.1 T.2.1 L.bodies false).1,(cD l T.1 T.2.1 L.bodies false).2.1,L.addJ (cD l T.1 T.2.1 L.bodies false).2.2)
  else if T.2.2=dL then ((cD l T.1 T.2.1 L.bodies true).1,(cD l T.1 T.2.1 L.bodies true).2.1,L.addJ (cD l T.1 T.2.1 L.bodies true).2.2)
  else if T.2.2=dz then ((dB l T.1 T.2.1 L.bodies).1,(dB l T.1 T.2.1 L.bodies).2.1,L.addD (dB l T.1 T.2.1 L.bodies).2.2)
  else (T.1,T.2.1,L)
noncomputable def itemsF (l:List Tkn):Nat->Nat->Int->am->Nat × Int × am
  |0,p,x,L=>(p,x,L)
  |f+1,p,x,L=>if x=0/\p<l.length then itemsF l f (dk l p x L).1 (dk l p x L).2.1 (dk l p x L).2.2 else (p,x,L)
noncomputable def uQ (l:List Tkn) (x:Int):Int × am :=
  let E:=eF l 0 x bW
  let W:=wF l E.1 E.2.1
  let E2:=eF l W.1 W.2.1 [59]
  let R:=itemsF l (l.length+1) E2.1 E2.2.1 ⟨W.2.2,[],[],[]⟩
  let c:=if R.2.1=0 then bN R.2.2 else R.2.1
  if c≠0 then (c,L0) else (0,R.2.2)
theorem em{l:List Tkn}{p:Nat}{x:Int}:p<=(wF l p x).1/\((wF l p x).2.1=0->x=0/\(wF l p x).1=p+1)/\(p<=l.length->(wF l p x).1<=l.length):=⟨fu.1,fu.2,fun h=>cC h⟩
theorem dH{l:List Tkn}{p:Nat}{x:Int}{t:List UInt8}:p<=(eF l p x t).1/\((eF l p x t).2.1=0->x=0/\(eF l p x t).1=p+1)/\(p<=l.length->(eF l p x t).1<=l.length):=⟨fu.1,fu.2,fun h=>cC h⟩
theorem tC{x b only:Int}(h:jW x b only=0):x=0:=by
 unfold jW at h;split at h
 ·omega
 exact h
theorem DZ(x b:Int){only:Int}(h:only<0):jW x b only=x:=by
 unfold jW;rw[kl (by omega)]
theorem eL{l:List Tkn}{p:Nat}{x:Int}{bs:List aq}:p<=(namedF l p x bs).1/\((namedF l p x bs).2.1=0->x=0/\(namedF l p x bs).1=p+1)/\(p<=l.length->(namedF l p x bs).1<=l.length):=by
 have h:=em (l:=l) (p:=p) (x:=x);unfold namedF;split
 ·rename_i a
  exact⟨h.1,fun b=>absurd b a,h.2.2⟩
 rename_i a;have a:(wF l p x).2.1=0:=by simpa using a
 split
 ·exact⟨h.1,fun _=>h.2.1 a,h.2.2⟩
 exact⟨h.1,fun b=>absurd (show (5:Int)=0 from b) (by decide),h.2.2⟩
theorem wU{l:List Tkn}{p:Nat}{x:Int}{bs:List aq}(h:(namedF l p x bs).2.1=0):∃i:Nat,(namedF l p x bs).2.2=(i:Int)/\i<bs.length:=by
 unfold namedF at h⊢;by_cases h1:(wF l p x).2.1=0
 ·rw[kl (by simpa using h1)]at h⊢
  cases hi:findB bs (wF l p x).2.2 with
  |none=>rw[hi]at h;exact absurd (show (5:Int)=0 from h) (by decide)
  |some i=>exact⟨i,rfl,(GJ.1 hi).1⟩
 rw[kZ h1]at h;exact absurd h h1
theorem cS{l:List Tkn}{p:Nat}{x:Int}{bs:List aq}{only:Int}:p<=(fullF l p x bs only).1/\((fullF l p x bs only).2.1=0->x=0/\(fullF l p x bs only).1=p+3)/\(p<=l.length->(fullF l p x bs only).1<=l.length):=by
 have m:=eL (l:=l) (p:=p) (x:=x) (bs:=bs);unfold fullF;simp only;generalize namedF l p x bs=N at m⊢;have j:=dH (l:=l) (p:=N.1) (x:=jW N.2.1 N.2.2 only) (t:=[46]);generalize eF l N.1 (jW N.2.1 N.2.2 only) [46]=E at j⊢;have n:=em (l:=l) (p:=E.1) (x:=E.2.1);generalize wF l E.1 E.2.1=W at n⊢;have i:p<=W.1:=by omega
 have g:p<=l.length->W.1<=l.length:=fun h=>n.2.2 (j.2.2 (m.2.2 h))
 have o:W.2.1=0->x=0/\W.1=p+3:=fun h=>by
  obtain⟨a,b⟩:=n.2.1 h;obtain⟨c,d⟩:=j.2.1 a;obtain⟨e,f⟩:=m.2.1 (tC c);exact⟨e,by omega⟩
 split
 ·rename_i k
  exact⟨i,fun h=>absurd h k,g⟩
 rename_i k;have k:W.2.1=0:=by simpa using k
 split
 ·exact⟨i,fun _=>o k,g⟩
 exact⟨i,fun j=>absurd (show (5:Int)=0 from j) (by decide),g⟩
theorem o0{l:List Tkn}:∀(f p:Nat) (x:Int) (a:List aB),p<=l.length->(cR l f p x a).1<=l.length
 |0,p,x,a,hp=>hp
 |f+1,p,x,a,hp=>by
  by_cases h:x=0/\aR l p x [125]=false
  ·rw[dw (by omega) h]
   exact o0 _ _ _ _ (pZ.2.2 hp)
  rw[cA h];exact hp
theorem Ai{l:List Tkn}{p:Nat}{x:Int}(a:p<=l.length):(dT l p x).1<=l.length:=dH.2.2 (o0 _ _ _ _ (dH.2.2 (em.2.2 a)))
theorem o5{l:List Tkn}{p:Nat}{x:Int}{bs:List aq}{a:Bool}(f:p<=l.length):(cD l p x bs a).1<=l.length:=by
 unfold cD;simp only;have d:=(em (l:=l) (p:=p) (x:=x)).2.2 f;generalize wF l p x=W at d⊢;have c:=(cS (l:=l) (p:=W.1) (x:=W.2.1) (bs:=bs) (only:=-1)).2.2 d;generalize fullF l W.1 W.2.1 bs (-1)=FA at c⊢;have b:=(cS (l:=l) (p:=FA.1) (x:=FA.2.1) (bs:=bs) (only:=-1)).2.2 c;generalize fullF l FA.1 FA.2.1 bs (-1)=FB at b⊢;cases a
 ·exact dH.2.2 b
 exact dH.2.2 (cS.2.2 b)
theorem tD{l:List Tkn}{p:Nat}{x:Int}{bs:List aq}(a:p<=l.length):(dB l p x bs).1<=l.length:=dH.2.2 (eL.2.2 (em.2.2 a))
theorem sn{l:List Tkn}{p:Nat}{x:Int}{L:am}(a:p<=l.length):(dk l p x L).1<=l.length:=by
 have h:=cC (l:=l) (p:=p) (x:=x) (may:=gN l p x) a;unfold dk;simp only;split
 ·exact Ai h
 split
 ·exact o5 h
 split
 ·exact o5 h
 split
 ·exact tD h
 exact h
section
variable {l:List Tkn}{p:Nat}{x:Int}{s:PS}{bs:List aq}
theorem cl.named(h:cl l p x s)(hb:x=0->bs=s.L.bodies)(only:Int):cl l (namedF l p x bs).1 (jW (namedF l p x bs).2.1 (namedF l p x bs).2.2 only) (s.named only).2/\(jW (namedF l p x bs).2.1 (namedF l p x bs).2.2 only=0->(namedF l p x bs).2.2=(s.named only).1):=by
 obtain⟨b,d⟩:=h.word;have c:=em (l:=l) (p:=p) (x:=x);have f:=(aM s).sameL;unfold namedF PS.named;simp only;by_cases hx:(wF l p x).2.1=0
 ·have a:s.word.2.x=0:=by rw[<-b.1];exact hx
  rw[kl (by simpa using hx),kl (by simpa using a),f,hb (c.2.1 hx).1,d];generalize findB s.L.bodies s.word.1=o
  cases o with
  |some i =>
   simp only;by_cases ho:0<=only/\(i:Int)≠only
   ·rw[show jW 0 (i:Int) only=7 from kZ ⟨rfl,ho⟩,kZ ho]
    refine⟨⟨?_,fun k=>absurd (show (7:Int)=0 from k) (by decide)⟩,fun k=>absurd (show (7:Int)=0 from k) (by decide)⟩;unfold PS.fail;rw[kZ a]
   rw[show jW 0 (i:Int) only=0 from kl (fun k=>ho k.2),kl ho];refine⟨⟨a.symm,fun _=>b.2 hx⟩,fun _=>by trivial⟩
  |none =>
   simp only;rw[show jW 5 0 only=5 from kl (fun k=>absurd k.1 (by decide))];refine⟨⟨?_,fun k=>absurd (show (5:Int)=0 from k) (by decide)⟩,fun k=>absurd (show (5:Int)=0 from k) (by decide)⟩;unfold PS.fail;rw[kZ a]
 have a:s.word.2.x≠0:=by rw[<-b.1];exact hx
 rw[kZ hx,kZ a];simp only;rw[show jW (wF l p x).2.1 0 only=(wF l p x).2.1 from kl (fun k=>hx k.1)];exact⟨b,fun k=>absurd k hx⟩
theorem cl.full(h:cl l p x s)(hd:tA l 2 [46])(hb:x=0->bs=s.L.bodies)(only:Int):cl l (fullF l p x bs only).1 (fullF l p x bs only).2.1 (s.full only).2.2/\((fullF l p x bs only).2.1=0->(fullF l p x bs only).2.2.1=(s.full only).1/\(fullF l p x bs only).2.2.2=(s.full only).2.1):=by
 obtain⟨m,d⟩:=h.named hb only;have f:=eL (l:=l) (p:=p) (x:=x) (bs:=bs);have q:=((fK s only).trans ((aH (s.named only).2 2 [46]).trans (aM _))).sameL;unfold fullF PS.full;simp only;generalize namedF l p x bs=N at m d f⊢;have j:=m.expect hd;obtain⟨a,c⟩:=j.word;have g:=dH (l:=l) (p:=N.1) (x:=jW N.2.1 N.2.2 only) (t:=[46]);generalize eF l N.1 (jW N.2.1 N.2.2 only) [46]=E at j a c g⊢;have r:=em (l:=l) (p:=E.1) (x:=E.2.1);generalize wF l E.1 E.2.1=W at a c r⊢;generalize ((s.named only).2.expect 2 [46]).word=V at a c q⊢;by_cases hx:W.2.1=0
 ·have b:V.2.x=0:=by rw[<-a.1];exact hx
  have n:=(g.2.1 (r.2.1 hx).1).1;have u:=(f.2.1 (tC n)).1;have v:=d n;rw[kl (by simpa using hx),kl (by simpa using b),hb u,v,<-c];have w:cY V.2.L (s.named only).1=wT s.L.bodies (s.named only).1:=by rw[q];rfl
  rw[w];generalize findM (wT s.L.bodies (s.named only).1) W.2.2=o
  cases o with
  |some i=>exact⟨⟨b.symm,fun _=>a.2 hx⟩,fun _=>⟨rfl,rfl⟩⟩
  |none =>
   simp only;refine⟨⟨?_,fun k=>absurd (show (5:Int)=0 from k) (by decide)⟩,fun k=>absurd (show (5:Int)=0 from k) (by decide)⟩;unfold PS.fail;rw[kZ b]
 have b:V.2.x≠0:=by rw[<-a.1];exact hx
 rw[kZ hx,kZ b];exact⟨a,fun k=>absurd k hx⟩
theorem cl.joint(h:cl l p x s)(G:∀t∈l,iE t.kind t.text)(hb:x=0->bs=s.L.bodies)(a:Bool):cl l (cD l p x bs a).1 (cD l p x bs a).2.1 (s.joint a)/\((cD l p x bs a).2.1=0->x=0/\(s.joint a).L=s.L.addJ (cD l p x bs a).2.2):=by
 have q:=eK G (c:=46) (by decide);have N:=eK G (c:=59) (by decide);obtain⟨K,E⟩:=h.word;have z:=em (l:=l) (p:=p) (x:=x);have I:=aM s;unfold cD PS.joint;simp only;generalize wF l p x=W at K E z⊢;have m:W.2.1=0->bs=s.word.2.L.bodies:=fun k=>by rw[I.sameL];exact hb (z.2.1 k).1
 obtain⟨C,A⟩:=K.full q m (-1);have v:=cS (l:=l) (p:=W.1) (x:=W.2.1) (bs:=bs) (only:=-1);have w:=cJ s.word.2 (-1);generalize fullF l W.1 W.2.1 bs (-1)=FA at C A v⊢;generalize s.word.2.full (-1)=PA at C A w⊢;have j:FA.2.1=0->bs=PA.2.2.L.bodies:=fun k=>by rw[w.sameL];exact m (v.2.1 k).1
 obtain⟨f,o⟩:=C.full q j (-1);have D:=cS (l:=l) (p:=FA.1) (x:=FA.2.1) (bs:=bs) (only:=-1);have B:=cJ PA.2.2 (-1);generalize fullF l FA.1 FA.2.1 bs (-1)=FB at f o D⊢;generalize PA.2.2.full (-1)=PB at f o B⊢;have n:FB.2.1=0->bs=PB.2.2.L.bodies:=fun k=>by rw[B.sameL];exact j (D.2.1 k).1
 have d:PB.2.2.L=s.L:=by rw[B.sameL,w.sameL,I.sameL]
 have key:∀(F:Nat × Int × Int × Int) (Q:Int × Int × PS),cl l F.1 F.2.1 Q.2.2->(F.2.1=0->FB.2.1=0/\F.2.2.2=Q.2.1)->Q.2.2.L=s.L ->
  cl l (eF l F.1 F.2.1 [59]).1 (eF l F.1 F.2.1 [59]).2.1 ((Q.2.2.expect 2 [59]).addJ ⟨s.word.1,if a then 1 else 0,PA.1,PA.2.1,PB.1,PB.2.1,Q.2.1⟩) /\
  ((eF l F.1 F.2.1 [59]).2.1=0->x=0/\((Q.2.2.expect 2 [59]).addJ ⟨s.word.1,if a then 1 else 0,PA.1,PA.2.1,PB.1,PB.2.1,Q.2.1⟩).L=s.L.addJ ⟨W.2.2,if a then 1 else 0,FA.2.2.1,FA.2.2.2,FB.2.2.1,FB.2.2.2,F.2.2.2⟩):=by
  intro F Q U O R;have g:=U.expect N;have r:=dH (l:=l) (p:=F.1) (x:=F.2.1) (t:=[59]);have u:=aH Q.2.2 2 [59];refine⟨g,fun k=>?_⟩;have M:=(r.2.1 k).1;obtain⟨k2,P⟩:=O M;have k3:=(D.2.1 k2).1;have Z:=(v.2.1 k3).1;have S:=(z.2.1 Z).1;obtain⟨V,T⟩:=A k3;obtain⟨X,Y⟩:=o k2;refine⟨S,?_⟩;show ({ (Q.2.2.expect 2 [59]).L with joints:=_ }:am)=_;rw[u.sameL,R,E,V,T,X,Y,P];rfl
 cases a
 ·exact key (FB.1,FB.2.1,0,0) (0,0,PB.2.2) f (fun k=>⟨k,rfl⟩) d
 simp only[GY]at key⊢;have i:FB.2.1=0->FB.2.2.1=PB.1:=fun k=>(o k).1
 by_cases h0:FB.2.1=0
 ·rw[i h0]
  obtain⟨g,J⟩:=f.full q n PB.1;have r:=cS (l:=l) (p:=FB.1) (x:=FB.2.1) (bs:=bs) (only:=PB.1);have u:=cJ PB.2.2 PB.1;have:=key (fullF l FB.1 FB.2.1 bs PB.1) (PB.2.2.full PB.1) g (fun k=>⟨(r.2.1 k).1,(J k).2⟩) (by rw[u.sameL,d]);rw[i h0]at this;exact this
 obtain⟨g,J⟩:=f.full q n FB.2.2.1;have r:=cS (l:=l) (p:=FB.1) (x:=FB.2.1) (bs:=bs) (only:=FB.2.2.1);have s5:=cJ PB.2.2 PB.1;have b:PB.2.2.x≠0:=by rw[<-f.1];exact h0
 have H:(PB.2.2.full PB.1).2.2=PB.2.2:=s5.2.1 b
 have y:(fullF l FB.1 FB.2.1 bs FB.2.2.1).2.1=PB.2.2.x:=by
  have e:=(cJ PB.2.2 FB.2.2.1).2.1 b;rw[g.1,e]
 exact key (fullF l FB.1 FB.2.1 bs FB.2.2.1) (PB.2.2.full PB.1) ⟨by rw[y,H],fun k=>absurd (by rw[<-y];exact k) b⟩ (fun k=>absurd (by rw[<-y];exact k) b) (by rw[H,d])
theorem cl.driver(h:cl l p x s)(u:∀t∈l,iE t.kind t.text)(hb:x=0->bs=s.L.bodies):cl l (dB l p x bs).1 (dB l p x bs).2.1 s.driver/\((dB l p x bs).2.1=0->x=0/\s.driver.L=s.L.addD (dB l p x bs).2.2):=by
 have q:=eK u (c:=59) (by decide);obtain⟨o,i⟩:=h.word;have d:=em (l:=l) (p:=p) (x:=x);have n:=aM s;unfold dB PS.driver;simp only;generalize wF l p x=W at o i d⊢;have f:W.2.1=0->bs=s.word.2.L.bodies:=fun k=>by rw[n.sameL];exact hb (d.2.1 k).1
 obtain⟨b,a⟩:=o.named f (-1);rw[DZ _ _ (by decide)]at b a;have j:=eL (l:=l) (p:=W.1) (x:=W.2.1) (bs:=bs);have m:=fK s.word.2 (-1);generalize namedF l W.1 W.2.1 bs=N at b a j⊢;generalize s.word.2.named (-1)=Q at b a m⊢;have v:=b.expect q;have w:=dH (l:=l) (p:=N.1) (x:=N.2.1) (t:=[59]);have r:=aH Q.2 2 [59];refine⟨v,fun k=>?_⟩;have g:=(w.2.1 k).1;have k2:=(j.2.1 g).1;have k3:=(d.2.1 k2).1;refine⟨k3,?_⟩;show ({ (Q.2.expect 2 [59]).L with drivers:=_ }:am)=_;rw[r.sameL,m.sameL,n.sameL,i,a g];rfl
end
theorem cl.first{l:List Tkn}{p:Nat}{x:Int}{s:PS}(h:cl l p x s)(k:∀t∈l,iE t.kind t.text):
 (∃t,x=0/\s.x=0/\t∈l/\t.kind=0/\(t.text=dG\/t.text=iZ\/t.text=dL\/t.text=dz)/\takeF l p x (gN l p x)=(p+1,0,t.text)/\s.word=(t.text,s.drop1)/\cl l (p+1) 0 s.drop1) \/
 (∃e:Int,e≠0/\takeF l p x (gN l p x)=(p,e,[])/\s.item.x=e/\s.item.L=s.L):=by
 have y:=ii k (c:=98) (r:=[111,100,121]) (by decide);have n:=ii k (c:=112) (r:=[105,110]) (by decide);have o:=ii k (c:=115) (r:=[108,105,100,101]) (by decide);have w:=ii k (c:=100) (r:=[114,105,118,101,114]) (by decide);have m:∀q:PS,s.word=([],q)->s.item=q.fail 2:=fun q f=>by unfold PS.item;simp only[f];rfl
 rcases h.cases with⟨d,k2,k3⟩|⟨d,k2,k3,j⟩|⟨t,d,k2,k3,j,g⟩
 ·right
  have e:s.word=([],s):=by unfold PS.word PS.next;rw[kZ k2]
  refine⟨x,d,gn d,?_⟩;rw[m s e,show s.fail 2=s from kl k2];exact⟨k3,rfl⟩
 ·right
  have e:s.word=([],{ s with x:=18 }):=by unfold PS.word PS.next;rw[kl (by rw[k2];simp),j]
  refine⟨18,by decide,ma d k3,?_⟩;rw[m _ e];exact⟨rfl,rfl⟩
 have i:∀u,aR l p x u=(!(t.kind==1)&&(t.text==u)):=fun u=>by unfold aR;rw[k3,d];simp
 by_cases hk:t.kind=0
 ·have e:s.word=(t.text,s.drop1):=by unfold PS.word PS.next;rw[kl (by rw[k2];simp),j];simp only;rw[kZ hk]
  have a:∀u,aR l p x u=decide (t.text=u):=fun u=>by rw[i,hk,Bool.eq_iff_iff];simp
  by_cases hw:t.text=dG\/t.text=iZ\/t.text=dL\/t.text=dz
  ·left
   have b:gN l p x=true:=by unfold gN;rw[a,a,a,a];simpa[or_assoc]using hw
   refine⟨t,d,k2,g,hk,hw,by rw[iB d k3,b];rfl,e,k2.symm,fun _=>?_⟩;show l.drop (p+1)=s.toks.drop 1;rw[j];rfl
  right;have b:gN l p x=false:=by unfold gN;rw[a,a,a,a];simp only[not_or]at hw;simp[hw.1,hw.2.1,hw.2.2.1,hw.2.2.2]
  refine⟨2,by decide,by rw[iB d k3,b];rfl,?_⟩;simp only[not_or]at hw;have:s.item=s.drop1.fail 2:=by unfold PS.item;simp only[e];rw[kl hw.1,kl hw.2.1,kl hw.2.2.1,kl hw.2.2.2]
  rw[this];have v:s.drop1.x=0:=k2;unfold PS.fail;rw[kZ v];exact⟨rfl,rfl⟩
 right;have e:s.word=([],{ s with x:=2 }):=by unfold PS.word PS.next;rw[kl (by rw[k2];simp),j];simp only;rw[kl hk]
 have b:gN l p x=false:=by
  cases f:gN l p x
  ·rfl
  exfalso;unfold gN at f;rw[i,i,i,i]at f;simp only[Io,uv,Ii,it,xm]at f;rcases f with((⟨q1,q2⟩|⟨q1,q2⟩)|⟨q1,q2⟩)|⟨q1,q2⟩
  ·exact hk (y.2 t g q1 q2)
  ·exact hk (n.2 t g q1 q2)
  ·exact hk (o.2 t g q1 q2)
  exact hk (w.2 t g q1 q2)
 refine⟨2,by decide,by rw[iB d k3,b];rfl,?_⟩;rw[m _ e];exact⟨rfl,rfl⟩
theorem cl.item{l:List Tkn}{p:Nat}{x:Int}{s:PS}{L:am}(h:cl l p x s)(q:∀t∈l,iE t.kind t.text)(D:p<=l.length)(f:x=0->L=s.L):cl l (dk l p x L).1 (dk l p x L).2.1 s.item/\((dk l p x L).2.1=0->(dk l p x L).2.2=s.item.L/\p<(dk l p x L).1):=by
 unfold dk;simp only;rcases h.first q with⟨t,B,k2,J,H,hw,u,e,g⟩|⟨c,A,u,G,I⟩
 ·have f:=f B
  have v:p+1<=l.length:=by
   have:=cC (l:=l) (p:=p) (x:=x) (may:=gN l p x) D;rw[u]at this;exact this
  have E:s.item=(if t.text=dG then s.drop1.body.2.addB s.drop1.body.1 else if t.text=iZ then s.drop1.joint false else if t.text=dL then s.drop1.joint true else if t.text=dz then s.drop1.driver else s.drop1.fail 2):=by unfold PS.item;simp only[e]
  rw[u,E];simp only;have d:s.drop1.L=s.L:=rfl;rcases hw with hw|hw|hw|hw
  ·rw[kZ hw,kZ hw]
   obtain⟨a,z⟩:=g.body q v;refine⟨⟨a,fun k=>?_⟩,fun k=>?_⟩
   ·rw[a]at k
    exact(z k).1.2 (by rw[a];exact k)
   have w:(dT l (p+1) 0).2.1=0:=k;rw[a]at w;obtain⟨C,F⟩:=z w;refine⟨?_,?_⟩
   ·show L.addB _=({ s.drop1.body.2.L with bodies:=s.drop1.body.2.L.bodies++[s.drop1.body.1] }:am)
    rw[(kQ s.drop1).sameL,d,f,F];rfl
   have b:=(kQ s.drop1).1;have n:=C.2 (by rw[a];exact w);have m:=mo List.length n;have o:s.drop1.toks=l.drop (p+1):=(g.2 rfl).symm;rw[o]at b;simp at m b;show p<(dT l (p+1) 0).1;omega
  ·have j:¬t.text=dG:=by rw[hw];decide
   rw[kl j,kl j,kZ hw,kZ hw];obtain⟨i,a⟩:=g.joint (bs:=L.bodies) q (fun _=>by rw[f];rfl) false;refine⟨i,fun k=>⟨by rw[(a k).2,d,f],?_⟩⟩;have b:=(jK s.drop1 false).1;have n:=i.2 k;have m:=mo List.length n;have o:s.drop1.toks=l.drop (p+1):=(g.2 rfl).symm;rw[o]at b;simp at m b;show p<(cD l (p+1) 0 L.bodies false).1;omega
  ·have j:¬t.text=dG:=by rw[hw];decide
   have r:¬t.text=iZ:=by rw[hw];decide
   rw[kl j,kl j,kl r,kl r,kZ hw,kZ hw];obtain⟨i,a⟩:=g.joint (bs:=L.bodies) q (fun _=>by rw[f];rfl) true;refine⟨i,fun k=>⟨by rw[(a k).2,d,f],?_⟩⟩;have b:=(jK s.drop1 true).1;have n:=i.2 k;have m:=mo List.length n;have o:s.drop1.toks=l.drop (p+1):=(g.2 rfl).symm;rw[o]at b;simp at m b;show p<(cD l (p+1) 0 L.bodies true).1;omega
  have j:¬t.text=dG:=by rw[hw];decide
  have r:¬t.text=iZ:=by rw[hw];decide
  have y:¬t.text=dL:=by rw[hw];decide
  rw[kl j,kl j,kl r,kl r,kl y,kl y,kZ hw,kZ hw];obtain⟨i,a⟩:=g.driver (bs:=L.bodies) q (fun _=>by rw[f];rfl);refine⟨i,fun k=>⟨by rw[(a k).2,d,f],?_⟩⟩;have b:=(mY s.drop1).1;have n:=i.2 k;have m:=mo List.length n;have o:s.drop1.toks=l.drop (p+1):=(g.2 rfl).symm;rw[o]at b;simp at m b;show p<(dB l (p+1) 0 L.bodies).1;omega
 rw[u];simp only;rw[kl (show ¬([]:List UInt8)=dG by decide),kl (show ¬([]:List UInt8)=iZ by decide),kl (show ¬([]:List UInt8)=dL by decide),kl (show ¬([]:List UInt8)=dz by decide)];exact⟨⟨G.symm,fun k=>absurd k A⟩,fun k=>absurd k A⟩
theorem iC{f:Nat}{s:PS}(h:¬(s.x=0/\s.toks≠[])):PS.items f s=s:=by
 cases f
 ·rfl
 exact kl h
theorem Al{f:Nat}{s:PS}(a:0<f)(h:s.x=0/\s.toks≠[]):PS.items f s=PS.items (f-1) s.item:=by
 obtain⟨f,rfl⟩:∃g,f=g+1:=⟨f-1,by omega⟩;exact kZ h
theorem fw{l:List Tkn}{f p:Nat}{x:Int}{L:am}(h:¬(x=0/\p<l.length)):itemsF l f p x L=(p,x,L):=by
 cases f
 ·rfl
 exact kl h
theorem pd{l:List Tkn}{f p:Nat}{x:Int}{L:am}(a:0<f)(h:x=0/\p<l.length):itemsF l f p x L=itemsF l (f-1) (dk l p x L).1 (dk l p x L).2.1 (dk l p x L).2.2:=by
 obtain⟨f,rfl⟩:∃g,f=g+1:=⟨f-1,by omega⟩;exact kZ h
theorem cl.items{l:List Tkn}(o:∀t∈l,iE t.kind t.text):∀(f g p:Nat) (x:Int) (s:PS) (L:am),cl l p x s->(x=0->L=s.L)->(s.x=0->s.toks.length<f)->l.length+1<=g+p->p<=l.length ->
 cl l (itemsF l g p x L).1 (itemsF l g p x L).2.1 (PS.items f s)/\((itemsF l g p x L).2.1=0->(itemsF l g p x L).2.2=(PS.items f s).L)
 |f,g,p,x,s,L,h,hL,hf,y,hp=>by
  by_cases hx:x=0
  ·have c:s.x=0:=by rw[<-h.1];exact hx
   have j:=h.2 hx;by_cases hlt:p<l.length
   ·have i:s.toks≠[]:=by
     rw[<-j];intro u;have:=mo List.length u;simp at this;omega
    have w:=hf c;rw[Al (by omega) ⟨c,i⟩,pd (by omega) ⟨hx,hlt⟩];obtain⟨d,q⟩:=h.item o hp hL;have a:=sn (l:=l) (p:=p) (x:=x) (L:=L) hp;by_cases hx1:(dk l p x L).2.1=0
    ·obtain⟨r,A⟩:=q hx1
     have b:s.item.toks.length<f-1:=by
      have v:=mo List.length (d.2 hx1);have z:=mo List.length j;simp at v z;omega
     exact cl.items o (f-1) (g-1) _ _ _ _ d (fun _=>r) (fun _=>b) (by omega) a
    have m:¬s.item.x=0:=by rw[<-d.1];exact hx1
    rw[iC (fun k=>m k.1),fw (fun k=>hx1 k.1)];exact⟨d,fun k=>absurd k hx1⟩
   have n:s.toks=[]:=by rw[<-j];exact FY (by omega)
   rw[iC (by rw[n];simp),fw (by omega)];exact⟨h,hL⟩
  have c:¬s.x=0:=by rw[<-h.1];exact hx
  rw[iC (fun k=>c k.1),fw (fun k=>hx k.1)];exact⟨h,hL⟩
termination_by f=>f
decreasing_by omega
theorem wV{s:List UInt8}{x y:Int}{l:List Tkn}{L:am}(m:bi s x l)(h:cE s y L):uQ l x=(y,L):=by
 have hrel:cl l 0 x (⟨l,L0,x⟩:PS):=⟨rfl,fun _=>rfl⟩
 have w:∀t∈l,iE t.kind t.text:=by
  intro t v;rcases m with⟨_,_,h⟩|⟨_,h,_⟩|⟨_,_,_,_,h⟩
  ·subst h;cases v
  ·exact vJ _ _ _ _ _ h t v
  subst h;cases v
 have I:=eK w (c:=59) (by decide);have u:=hrel.expect (ii w (c:=108) (r:=[105,110,107,97,103,101]) (by decide));have D:=(dH (l:=l) (p:=0) (x:=x) (t:=bW)).2.2 (Nat.zero_le _);have N:=(dH (l:=l) (p:=0) (x:=x) (t:=bW)).2.1;have q:=aH (⟨l,L0,x⟩:PS) 0 bW
 have a:x=0->dC l=PS.items (l.length+1) (({ ((⟨l,L0,x⟩:PS).expect 0 bW).word.2 with L:={ ((⟨l,L0,x⟩:PS).expect 0 bW).word.2.L with name:=((⟨l,L0,x⟩:PS).expect 0 bW).word.1 } }:PS).expect 2 [59]):=by
  rintro rfl;rfl
 unfold uQ;simp only;change cl l (eF l 0 x bW).1 (eF l 0 x bW).2.1 ((⟨l,L0,x⟩:PS).expect 0 bW)at u;generalize eF l 0 x bW=E at u D N⊢;generalize (⟨l,L0,x⟩:PS).expect 0 bW=q1 at u q a;obtain⟨B,A⟩:=u.word;have k2:=(em (l:=l) (p:=E.1) (x:=E.2.1)).2.2 D;have J:=(em (l:=l) (p:=E.1) (x:=E.2.1)).2.1;have o:=aM q1;generalize wF l E.1 E.2.1=W at B A k2 J⊢;generalize q1.word=V at B A o a;have K:cl l W.1 W.2.1 ({ V.2 with L:={ V.2.L with name:=V.1 } }:PS):=B;have z:=K.expect I;have H:=(dH (l:=l) (p:=W.1) (x:=W.2.1) (t:=[59])).2.2 k2;have M:=(dH (l:=l) (p:=W.1) (x:=W.2.1) (t:=[59])).2.1;have n:=aH ({ V.2 with L:={ V.2.L with name:=V.1 } }:PS) 2 [59];generalize eF l W.1 W.2.1 [59]=E2 at z H M⊢;generalize ({ V.2 with L:={ V.2.L with name:=V.1 } }:PS).expect 2 [59]=q4 at z n a;have C:q4.L=⟨W.2.2,[],[],[]⟩:=by rw[n.sameL];show ({ V.2.L with name:=V.1 }:am)=_;rw[o.sameL,q.sameL,A];rfl
 have i:q4.toks.length<l.length+1:=by
  have:=Nat.le_trans n.1 (show V.2.toks.length<=l.length from Nat.le_trans o.1 q.1);omega
 obtain⟨g,b5⟩:=cl.items w (l.length+1) (l.length+1) E2.1 E2.2.1 q4 ⟨W.2.2,[],[],[]⟩ z (fun _=>C.symm) (fun _=>i) (by omega) H;generalize itemsF l (l.length+1) E2.1 E2.2.1 ⟨W.2.2,[],[],[]⟩=R at g b5⊢;by_cases hx:x=0
 ·subst hx
  have a:=a rfl;rw[<-a]at g b5;by_cases hr:R.2.1=0
  ·have f:(dC l).x=0:=by rw[<-g.1];exact hr
   rw[kZ hr,b5 hr];by_cases hc:bN (dC l).L=0
   ·rw[kl (by simpa using hc)]
    obtain⟨b,d⟩:=h.uniq (cE.ok l m f hc rfl rfl);rw[b,d]
   rw[kZ hc];obtain⟨b,d⟩:=h.uniq (cE.check l m f rfl hc rfl);rw[b,d]
  rw[kl hr,kZ hr];have f:(dC l).x≠0:=by rw[<-g.1];exact hr
  obtain⟨b,d⟩:=h.uniq (cE.read l m rfl f rfl);rw[b,d,g.1]
 ·have G:R.2.1=x:=by
   have b:q1=⟨l,L0,x⟩:=q.2.1 hx;have d:V.2=q1:=o.2.1 (by rw[b];exact hx)
   have F:q4.x=x:=by
    have O:=n.2.1 (by show V.2.x≠0;rw[d,b];exact hx);rw[O];show V.2.x=x;rw[d,b]
   rw[g.1,iC (fun k=>hx (by rw[<-F];exact k.1)),F]
  have j:R.2.1≠0:=by rw[G];exact hx
  rw[kl j,kZ j,G];obtain⟨b,d⟩:=h.uniq (cE.split l m hx rfl);rw[b,d]
def kV(bs:List aq)(nm:List UInt8):Int × Int:=match findB bs nm with|some i=>((i:Int),0)|none=>(0,5)
theorem Cs(w:World)(k:Nat)(F:List UInt8)(y:Option Addr)(d z:Nat)(bs:List aq)(hb:SlS (fD k) 2 w y d z bs)(hm:d<=100000)(L:Option Addr)(D H:Nat)(B3:Option Addr)(E J:Nat)(nm:List UInt8)(R:Int × Int)(j:kV bs nm=R):
 Calls Tryz.prog 121 #[.agg #[ae F,.slice y d z,.slice L D H,.slice B3 E J],ae nm] w (av w (.tuple #[.int .i64 R.1,.int .i64 R.2])):=by
 have I:=Qh j;have G:=Qh hb;clear j hb;go_in;go_wp2_with fail;refine fv ?_;intro m l;have q1:Below w.heap.size w m:=by rw[l];exact(aa w).alloc Qr _
 have K:Blk m w.heap.size 36 #[ae F,.slice y d z,.slice L D H,.slice B3 E J]:=by rw[l];exact Blk.new _ _ _
 clear l;go_loopw [6] (fun B wr=>∃i:Nat,B=.int .i64 (i:Nat)/\i<=d/\Hid (∀a∈bs.take i,a.name≠nm)/\Below m.heap.size m wr) (fun B _=>d-(intOf B).toNat)
 case atStart=>exact⟨0,rfl,Nat.zero_le _,Qh (by simp),aa m⟩
 case round =>
  obtain⟨i,rfl,hi,r,hb⟩:=hrel;rename World=>wr;have T:=K.below hb K.lt;have q2:=q1.trans (hb.mono q1.size);have S:=T.cell 1;rcases Nat.lt_or_ge i d with t|M
  ·have s:((i:Int)<(d:Int))=True:=by simp;omega
   obtain⟨g,o,b,e,X,_,n,hB⟩:=(G.out.bd q2).at_ t;subst e;obtain⟨Z,V,W,P,Y,N,A⟩:=hB;clear N A;have u:=aK b.name;have O:=aK nm;have h:=Qh n;clear n;by_cases c:b.name=nm
   ·have q:kV bs nm=((i:Int),0):=by
     unfold kV;rw[show findB bs nm=some i from lW (f:=aq.name) r.out h.out c]
    have j:=I.out;rw[q]at j;subst j;rw[c]at P u;have x:(nm==nm)=true:=by simp
    clear h c q;go_wp2_with fail;refine zr1 (.tuple #[.int .i64 (i:Nat),.int .i64 0]) ?_;exact⟨rfl,q2⟩
   have x:(b.name==nm)=false:=it.2 c;have C:=Qh (jO (p:=fun a:aq=>a.name≠nm) r.out h.out c);clear c r h;go_wp2_with fail;go_roundw
   case rel=>exact⟨i+1,by go_num,by omega,C,hb⟩
   case measure=>simp[intOf];omega
  have s:((i:Int)<(d:Int))=False:=by simp;omega
  obtain rfl:i=d:=by omega
  have Q:bs.length=i:=G.out.1
  have q:kV bs nm=(0,5):=by
   unfold kV;rw[show findB bs nm=none from kS (f:=aq.name) fun a U=>r.out a (by rw[ms (by omega)];exact U)]
  have j:=I.out;rw[q]at j;subst j;clear q Q r;go_wp2_with fail;refine zr1 (.tuple #[.int .i64 0,.int .i64 5]) ?_;exact⟨rfl,q2⟩
theorem wW{l:List Tkn}{p:Nat}{x:Int}{bs:List aq}:namedF l p x bs=if (wF l p x).2.1≠0 then ((wF l p x).1,(wF l p x).2.1,0) else ((wF l p x).1,(kV bs (wF l p x).2.2).2,(kV bs (wF l p x).2.2).1):=by
 unfold namedF kV;split
 ·rfl
 generalize findB bs (wF l p x).2.2=o;cases o<;>rfl
theorem sq(w:World)(A:Option Addr)(n c:Nat)(l:List Tkn)(h:TkS w A n c l)(hn:n<=65536)(p:Nat)(hp:p<=n)(x:Int)(i:List UInt8)(b:Option Addr)(a d:Nat)(bs:List aq)(hb:SlS (fD 500) 2 w b a d bs)(hm:a<=100000)(k:Option Addr)(m j:Nat)(B3:Option Addr)(g o:Nat)(N:Nat × Int × Int)(f:namedF l p x bs=N):
 Calls Tryz.prog 86 #[.agg #[.slice A n c,.int .i64 (p:Nat),.int .i64 x,ae i,.slice b a d,.slice k m j,.slice B3 g o]] w (av w (.tuple #[.agg #[.slice A n c,.int .i64 (N.1:Nat),.int .i64 N.2.1,ae i,.slice b a d,.slice k m j,.slice B3 g o],.int .i64 N.2.2])):=by
 rw[wW]at f;obtain⟨W,I⟩:=Z9 (wF l p x);rw[I]at f;obtain⟨R,J⟩:=Z9 (kV bs W.2.2);rw[J]at f;have HK:=Qh h;have HW:=Qh (show takeF l p x (bZ l p x 0)=W from I);have Y:=Qh J;have E:=Qh f;have HB:=Qh hb;clear f I J h hb;go_in;go_wp2_with fail;refine(iA _ A n c l ?_ hn p hp x i b a d k m j B3 g o W HW.out).mono ?_
 ·exact HK.out.belw (((aa w).alloc Qr _).alloc (by simp) _)
 rintro e H⟨rfl,r⟩;have q1:Below w.heap.size w H:=(((aa w).alloc Qr _).alloc (by simp) _).trans (r.mono (by simp<;>omega));have F:Blk H w.heap.size 94 #[.slice A n c,.int .i64 (p:Nat),.int .i64 x,ae i,.slice b a d,.slice k m j,.slice B3 g o]:=((Blk.new w _ _).alloc _).below r (by simp<;>omega);have G:Blk H (w.heap.size+1) 94 #[.slice none 0 0,.int .i64 0,.int .i64 0,.string ⟨#[]⟩,.slice none 0 0,.slice none 0 0,.slice none 0 0]:=(aj _ _ _ (by simp)).below r (by simp);clear r;obtain⟨U,f1,f2,f3,f4,P,f6⟩:=F.f7;obtain⟨g0,Z,V,g3,M,g5,S⟩:=G.f7;obtain⟨c0,c1,c2,c3,c4,c5,c6⟩:=F.c7;obtain⟨O,X,K,T,d4,Q,L⟩:=G.c7;obtain⟨C,z,W3⟩:=W;simp only at E Y⊢;by_cases y:z=0
 ·subst y
  have f:=E.out;rw[kl (by simp)]at f;subst f;go_wp2_with fail;(refine(Cs _ 500 i b a d bs ?_ hm k m j B3 g o W3 R Y.out).mono ?_)
  ·exact HB.out.bd (dM q1 Qr _ _ _ _ _ _ _)
  rintro e w2⟨rfl,q⟩;have s:=dM q1 (Nat.le_refl w.heap.size) (.slice A n c) (.int .i64 (C:Nat)) (.int .i64 0) (ae i) (.slice b a d) (.slice k m j) (.slice B3 g o);have q2:=s.trans (q.mono s.size);have t:=st7 F (.slice A n c) (.int .i64 (C:Nat)) (.int .i64 0) (ae i) (.slice b a d) (.slice k m j) (.slice B3 g o);have u:=d8 G (g':=w.heap.size) (by omega) (.slice A n c) (.int .i64 (C:Nat)) (.int .i64 0) (ae i) (.slice b a d) (.slice k m j) (.slice B3 g o);have D:=t.below q t.lt;have B:=u.below q u.lt;clear q s q1 t u F G c0 c1 c2 c3 c4 c5 c6 O X K T d4 Q L U f1 f2 f3 f4 P f6 g0 Z V g3 M g5 S;obtain⟨c0,c1,c2,c3,c4,c5,c6⟩:=D.c7;obtain⟨O,X,K,T,d4,Q,L⟩:=B.c7;obtain⟨U,f1,f2,f3,f4,P,f6⟩:=D.f7;obtain⟨g0,Z,V,g3,M,g5,S⟩:=B.f7;go_wp2_with fail;refine zr1 (.tuple #[.agg #[.slice A n c,.int .i64 (C:Nat),.int .i64 R.2,ae i,.slice b a d,.slice k m j,.slice B3 g o],.int .i64 R.1]) ?_;exact⟨rfl,dM (q2.setCell (p:=⟨w.heap.size,2,none⟩) Qr _) (by omega) _ _ _ _ _ _ _⟩
 have t1:(z==0)=false:=it.2 y;have t2:(z=0)=False:=oK y;have t3:(z != 0)=true:=by unfold bne;rw[t1];rfl
 have f:=E.out;rw[kZ y]at f;subst f;clear y E;go_wp2_with fail;refine zr1 (.tuple #[.agg #[.slice A n c,.int .i64 (C:Nat),.int .i64 z,ae i,.slice b a d,.slice k m j,.slice B3 g o],.int .i64 0]) ?_;exact⟨rfl,dM (dM q1 Qr _ _ _ _ _ _ _) (by omega) _ _ _ _ _ _ _⟩
theorem qh(w:World)(A:Option Addr)(n c:Nat)(l:List Tkn)(h:TkS w A n c l)(hn:n<=65536)(p:Nat)(hp:p<=n)(x:Int)(o:List UInt8)(u:Option Addr)(d j:Nat)(bs:List aq)(hb:SlS (fD 500) 2 w u d j bs)(hm:d<=100000)(aZ:∀b∈bs,b.pts.length<=100000)(r:Option Addr)(s q:Nat)(B3:Option Addr)(m t:Nat)(only:Int)(N:Nat × Int × Int × Int)(z:fullF l p x bs only=N):
 Calls Tryz.prog 120 #[.agg #[.slice A n c,.int .i64 (p:Nat),.int .i64 x,ae o,.slice u d j,.slice r s q,.slice B3 m t],.int .i64 only] w (av w (.tuple #[.agg #[.slice A n c,.int .i64 (N.1:Nat),.int .i64 N.2.1,ae o,.slice u d j,.slice r s q,.slice B3 m t],.int .i64 N.2.2.1,.int .i64 N.2.2.2])):=by
 have a5:l.length=n:=h.1;obtain⟨Q,hQ⟩:=Z9 (namedF l p x bs);have a3:Q.1<=n:=by rw[<-hQ,<-a5];exact eL.2.2 (by omega)
 have al:Q.2.1=0->∃i:Nat,Q.2.2=(i:Int)/\i<bs.length:=by rw[<-hQ];exact wU
 obtain⟨y,hy⟩:=Z9 (jW Q.2.1 Q.2.2 only);obtain⟨E,hE⟩:=Z9 (eF l Q.1 y [46]);have aS:E.1<=n:=by rw[<-hE,<-a5];exact dH.2.2 (by omega)
 have aF:E.2.1=0->y=0:=by rw[<-hE];exact fun k=>(dH.2.1 k).1
 obtain⟨W,hW⟩:=Z9 (wF l E.1 E.2.1);have a1:W.2.1=0->E.2.1=0:=by rw[<-hW];exact fun k=>(em.2.1 k).1
 have aC:(if W.2.1≠0 then (W.1,W.2.1,0,0) else match findM (wT bs Q.2.2) W.2.2 with|some i=>(W.1,0,Q.2.2,(i:Int))|none=>(W.1,5,0,0))=N:=by
  rw[<-z];unfold fullF;simp only[hQ,hy,hE,hW]<;>rfl
 have a4:W.2.1=0->∃i:Nat,Q.2.2=(i:Int)/\i<bs.length:=fun k=>al (tC (hy.trans (aF (a1 k))))
 have HK:=Qh h;have HQ:=Qh hQ;have HY:=Qh hy;have HE:=Qh (show takeF l Q.1 y (aR l Q.1 y [46])=E from hE);have HW:=Qh (show takeF l E.1 E.2.1 (bZ l E.1 E.2.1 0)=W from hW);have HN:=Qh aC;have HB:=Qh hb;have X:=Qh a4;have a9:=Qh aZ;clear z aC hW hE hy hQ h hb a4 aF a1 al aZ;go_in;go_wp2_with fail;refine(sq _ A n c l ?_ hn p hp x o u d j bs ?_ hm r s q B3 m t Q HQ.out).mono ?_
 ·exact HK.out.belw (((aa w).alloc Qr _).alloc (by simp) _)
 ·exact HB.out.bd (((aa w).alloc Qr _).alloc (by simp) _)
 rintro e w1⟨rfl,ad⟩;have q1:Below w.heap.size w w1:=(((aa w).alloc Qr _).alloc (by simp) _).trans (ad.mono (by simp<;>omega));have Z:Blk w1 w.heap.size 94 #[.slice A n c,.int .i64 (p:Nat),.int .i64 x,ae o,.slice u d j,.slice r s q,.slice B3 m t]:=((Blk.new w _ _).alloc _).below ad (by simp<;>omega);have aT:Blk w1 (w.heap.size+1) 94 #[.slice none 0 0,.int .i64 0,.int .i64 0,.string ⟨#[]⟩,.slice none 0 0,.slice none 0 0,.slice none 0 0]:=(aj _ _ _ (by simp)).below ad (by simp);clear ad;obtain⟨Q1,I,F⟩:=Q;simp only at HN X HY HE a3⊢;obtain⟨f0,f1,f2,f3,f4,f5,f6⟩:=Z.f7;obtain⟨S,C,L,T,U,Y,P⟩:=Z.c7;go_upto_region 2 with fail;refine fv ?_;intro w2 O;have H:Blk w2 w.heap.size 94 #[.slice A n c,.int .i64 (Q1:Nat),.int .i64 I,ae o,.slice u d j,.slice r s q,.slice B3 m t]:=by rw[O];exact st7 Z (.slice A n c) (.int .i64 (Q1:Nat)) (.int .i64 I) (ae o) (.slice u d j) (.slice r s q) (.slice B3 m t)
 have ao:Blk w2 (w.heap.size+1) 94 #[.slice none 0 0,.int .i64 0,.int .i64 0,.string ⟨#[]⟩,.slice none 0 0,.slice none 0 0,.slice none 0 0]:=by rw[O];exact d8 aT (g':=w.heap.size) (by omega) (.slice A n c) (.int .i64 (Q1:Nat)) (.int .i64 I) (ae o) (.slice u d j) (.slice r s q) (.slice B3 m t)
 have q2:Below w.heap.size w w2:=by rw[O];exact dM q1 Qr (.slice A n c) (.int .i64 (Q1:Nat)) (.int .i64 I) (ae o) (.slice u d j) (.slice r s q) (.slice B3 m t)
 clear O Z aT q1 f0 f1 f2 f3 f4 f5 f6 S C L T U Y P;obtain⟨S,C,L,T,U,Y,P⟩:=H.c7;obtain⟨f0,f1,f2,f3,f4,f5,f6⟩:=H.f7;go_cut [26] (fun v wx=>v=.bool (decide (I=0/\0<=only/\F≠only))/\w2=wx)
 case first =>
  by_cases G:I=0
  ·subst G
   by_cases ho:0<=only
   ·have be:(0<=only)=True:=xr ho
    by_cases hq:F=only
    ·have B:=Qh (show decide ((0:Int)=0/\0<=only/\F≠only)=false from yB (fun k=>k.2.2 hq))
     have t1:(F==only)=true:=xm.2 hq;have t2:(F != only)=false:=by unfold bne;rw[t1];rfl
     clear ho hq;go_wp2_with fail;go_meet;exact⟨by rw[B.out],rfl⟩
    have B:=Qh (show decide ((0:Int)=0/\0<=only/\F≠only)=true from zO ⟨rfl,ho,hq⟩);have t1:(F==only)=false:=it.2 hq;have t2:(F != only)=true:=by unfold bne;rw[t1];rfl
    clear ho hq;go_wp2_with fail;go_meet;exact⟨by rw[B.out],rfl⟩
   have be:(0<=only)=False:=oK ho;have B:=Qh (show decide ((0:Int)=0/\0<=only/\F≠only)=false from yB (fun k=>ho k.2.1));clear ho;go_wp2_with fail;go_meet;exact⟨by rw[B.out],rfl⟩
  have B:=Qh (show decide (I=0/\0<=only/\F≠only)=false from yB (fun k=>G k.1));have t1:(I==0)=false:=it.2 G;have t2:(I=0)=False:=oK G;clear G;go_wp2_with fail;go_meet;exact⟨by rw[B.out],rfl⟩
 case rest =>
  obtain⟨rfl,rfl⟩:=hcut;go_upto_if 26 with fail;go_cut [] (fun wx=>Blk wx w.heap.size 94 #[.slice A n c,.int .i64 (Q1:Nat),.int .i64 y,ae o,.slice u d j,.slice r s q,.slice B3 m t]/\Blk wx (w.heap.size+1) 94 #[.slice none 0 0,.int .i64 0,.int .i64 0,.string ⟨#[]⟩,.slice none 0 0,.slice none 0 0,.slice none 0 0]/\Below w.heap.size w wx)
  case first =>
   by_cases hc:I=0/\0<=only/\F≠only
   ·rw[zO hc]
    have e:y=7:=by rw[<-HY.out];exact kZ hc
    subst e;clear hc;go_wp2_with fail;go_meet;exact⟨H.s72 _,ao.far (p:=⟨w.heap.size,2,none⟩) (by show w.heap.size+1≠w.heap.size;omega) _,q2.setCell (p:=⟨w.heap.size,2,none⟩) Qr _⟩
   rw[yB hc];have e:y=I:=by rw[<-HY.out];exact kl hc
   subst e;clear hc;go_wp2_with fail;go_meet;exact⟨H,ao,q2⟩
  case rest =>
   obtain⟨y3,z3,q3⟩:=hcut;rename World=>w3;clear H ao q2 S C L T U Y P f0 f1 f2 f3 f4 f5 f6;obtain⟨S,C,L,T,U,Y,P⟩:=y3.c7;go_wp2_with fail;refine(dA _ A n c l ?_ hn Q1 a3 y o u d j r s q B3 m t [46] E HE.out).mono ?_
   ·exact HK.out.belw q3
   rintro e w4⟨rfl,ac⟩;have q4:=q3.trans (ac.mono q3.size);have y4:=y3.below ac y3.lt;have z4:=z3.below ac z3.lt;clear ac y3 z3 q3 S C L T U Y P;obtain⟨E1,E2,E3⟩:=E;simp only at HW HN aS⊢;obtain⟨f0,f1,f2,f3,f4,f5,f6⟩:=y4.f7;obtain⟨S,C,L,T,U,Y,P⟩:=y4.c7;go_wp2_with fail;(refine(iA _ A n c l ?_ hn E1 aS E2 o u d j r s q B3 m t W HW.out).mono ?_)
   ·exact HK.out.belw (dM q4 Qr (.slice A n c) (.int .i64 (E1:Nat)) (.int .i64 E2) (ae o) (.slice u d j) (.slice r s q) (.slice B3 m t))
   rintro e w5⟨rfl,ab⟩;have q5:=(dM q4 Qr (.slice A n c) (.int .i64 (E1:Nat)) (.int .i64 E2) (ae o) (.slice u d j) (.slice r s q) (.slice B3 m t)).trans (ab.mono (dM q4 Qr (.slice A n c) (.int .i64 (E1:Nat)) (.int .i64 E2) (ae o) (.slice u d j) (.slice r s q) (.slice B3 m t)).size);have y5:=(st7 y4 (.slice A n c) (.int .i64 (E1:Nat)) (.int .i64 E2) (ae o) (.slice u d j) (.slice r s q) (.slice B3 m t)).below ab (st7 y4 (.slice A n c) (.int .i64 (E1:Nat)) (.int .i64 E2) (ae o) (.slice u d j) (.slice r s q) (.slice B3 m t)).lt;have z5:=(d8 z4 (g':=w.heap.size) (by omega) (.slice A n c) (.int .i64 (E1:Nat)) (.int .i64 E2) (ae o) (.slice u d j) (.slice r s q) (.slice B3 m t)).below ab (d8 z4 (g':=w.heap.size) (by omega) (.slice A n c) (.int .i64 (E1:Nat)) (.int .i64 E2) (ae o) (.slice u d j) (.slice r s q) (.slice B3 m t)).lt;clear ab y4 z4 q4 f0 f1 f2 f3 f4 f5 f6 S C L T U Y P;obtain⟨K,J,R⟩:=W;simp only at HN X⊢;obtain⟨f0,f1,f2,f3,f4,f5,f6⟩:=y5.f7;obtain⟨S,C,L,T,U,Y,P⟩:=y5.c7;go_upto_region 6 with fail;refine fv ?_;intro w6 M;have y6:Blk w6 w.heap.size 94 #[.slice A n c,.int .i64 (K:Nat),.int .i64 J,ae o,.slice u d j,.slice r s q,.slice B3 m t]:=by rw[M];exact st7 y5 (.slice A n c) (.int .i64 (K:Nat)) (.int .i64 J) (ae o) (.slice u d j) (.slice r s q) (.slice B3 m t)
   have z6:Blk w6 (w.heap.size+1) 94 #[.slice none 0 0,.int .i64 0,.int .i64 0,.string ⟨#[]⟩,.slice none 0 0,.slice none 0 0,.slice none 0 0]:=by rw[M];exact d8 z5 (g':=w.heap.size) (by omega) (.slice A n c) (.int .i64 (K:Nat)) (.int .i64 J) (ae o) (.slice u d j) (.slice r s q) (.slice B3 m t)
   have q6:Below w.heap.size w w6:=by rw[M];exact dM q5 Qr (.slice A n c) (.int .i64 (K:Nat)) (.int .i64 J) (ae o) (.slice u d j) (.slice r s q) (.slice B3 m t)
   clear M y5 z5 q5 f0 f1 f2 f3 f4 f5 f6 S C L T U Y P;have g:=z6.f7;have z:=HN.out;by_cases G:J=0
   ·subst G
    rw[kl (by simp)]at z;obtain⟨ib,eb,br⟩:=X.out rfl;subst eb;have hl:bs.length=d:=HB.out.1;obtain⟨gq,oq,bd,A',n',c',e,an,C,hM⟩:=RdP.body_at (HB.out.bd q6) (show ib<d by omega);subst e
    have hp:wT bs (ib:Int)=bd.pts:=by
     unfold wT;rw[Hf,an]
    rw[hp]at z;have bn:((ib:Int)<(d:Int))=True:=by simp;omega
    have bl:(0:Int)<=(ib:Int):=by omega
    have bo:n'<=100000:=by rw[<-hM.1];exact a9.out bd (pk an)
    have a2:=Qh z;have HM:=Qh hM;have bu:=HB.out.2.1;obtain⟨b0,b1,b2,b3,b4,b5,b6⟩:=y6.c7;clear z hp an hM hl HN;go_upto_region 9 with fail;have ba:=Qh C;clear b0 b1 b2 b3 b4 b5 b6 C g;go_loopw [9] (fun iv wr=>∃i:Nat,iv=.int .i64 (i:Nat)/\i<=n'/\Hid (∀a∈bd.pts.take i,a.name≠R)/\Below w6.heap.size w6 wr) (fun iv _=>n'-(intOf iv).toNat)
    case atStart=>exact⟨0,rfl,Nat.zero_le _,Qh (by simp),aa w6⟩
    case round =>
     obtain⟨i,rfl,hi,HT,hb⟩:=hrel;rename World=>wr;have y7:=y6.below hb y6.lt;have z7:=z6.below hb z6.lt;have q7:=q6.trans (hb.mono q6.size);obtain⟨b0,b1,b2,b3,b4,b5,b6⟩:=y7.c7;obtain⟨f0,f1,f2,f3,f4,f5,f6⟩:=y7.f7;obtain⟨g0,g1,g2,g3,g4,g5,g6⟩:=z7.f7;obtain⟨h0,h1,h2,h3,h4,h5,h6⟩:=z7.c7;have C:=aw ba.out hb;rcases Nat.lt_or_ge i n' with a7|bv
     ·have a8:((i:Int)<(n':Int))=True:=by simp;omega
      obtain⟨gm,om,pm,e,hg,_,a0,hP⟩:=(HM.out.mk_ hb).at_ a7;subst e;obtain⟨k0,_,_,_⟩:=hP;have bg:=aK pm.name;have bk:=aK R;have V:=Qh a0;clear a0;by_cases D:pm.name=R
      ·have hf:findM bd.pts R=some i:=lW (f:=aB.name) HT.out V.out D
       have z:=a2.out;rw[hf]at z;simp only at z;subst z;rw[D]at k0 bg;have bb:(R==R)=true:=by simp
       clear V D hf;go_wp2_with fail;refine zr1 (.tuple #[.agg #[.slice A n c,.int .i64 (K:Nat),.int .i64 0,ae o,.slice (some ⟨gq,oq,none⟩) d j,.slice r s q,.slice B3 m t],.int .i64 (ib:Nat),.int .i64 (i:Nat)]) ?_;exact⟨rfl,dM q7 (by omega) (.slice A n c) (.int .i64 (K:Nat)) (.int .i64 0) (ae o) (.slice (some ⟨gq,oq,none⟩) d j) (.slice r s q) (.slice B3 m t)⟩
      have bb:(pm.name==R)=false:=it.2 D;have a6:=Qh (jO (p:=fun a:aB=>a.name≠R) HT.out V.out D);clear D HT V;go_wp2_with fail;go_roundw
      case rel=>exact⟨i+1,by go_num,by omega,a6,hb⟩
      case measure=>simp[intOf];omega
     have a8:((i:Int)<(n':Int))=False:=by simp;omega
     obtain rfl:i=n':=by omega
     have hl:bd.pts.length=i:=HM.out.1;have hf:findM bd.pts R=none:=kS (f:=aB.name) fun a ha=>HT.out a (by rw[ms (by omega)];exact ha)
     have z:=a2.out;rw[hf]at z;simp only at z;subst z;clear hf hl HT;go_wp2_with fail;refine zr1 (.tuple #[.agg #[.slice A n c,.int .i64 (K:Nat),.int .i64 5,ae o,.slice (some ⟨gq,oq,none⟩) d j,.slice r s q,.slice B3 m t],.int .i64 0,.int .i64 0]) ?_;exact⟨rfl,dM (q7.setCell (p:=⟨w.heap.size,2,none⟩) Qr _) (by show w.heap.size<=w.heap.size+1;omega) (.slice A n c) (.int .i64 (K:Nat)) (.int .i64 5) (ae o) (.slice (some ⟨gq,oq,none⟩) d j) (.slice r s q) (.slice B3 m t)⟩
   have t1:(J==0)=false:=it.2 G;have t2:(J=0)=False:=oK G;have t3:(J != 0)=true:=by unfold bne;rw[t1];rfl
   rw[kZ G]at z;subst z;obtain⟨b0,b1,b2,b3,b4,b5,b6⟩:=y6.c7;obtain⟨g0,g1,g2,g3,g4,g5,g6⟩:=g;obtain⟨h0,h1,h2,h3,h4,h5,h6⟩:=z6.c7;clear G HN X;go_wp2_with fail;refine zr1 (.tuple #[.agg #[.slice A n c,.int .i64 (K:Nat),.int .i64 J,ae o,.slice u d j,.slice r s q,.slice B3 m t],.int .i64 0,.int .i64 0]) ?_;exact⟨rfl,dM q6 (by omega) (.slice A n c) (.int .i64 (K:Nat)) (.int .i64 J) (ae o) (.slice u d j) (.slice r s q) (.slice B3 m t)⟩
theorem Tch.own{T:TypeId->Bool}{w b c:World}(h:Tch T w b)(k:Below w.heap.size b c):Tch T w c :=
 ⟨Nat.le_trans h.1 k.size,fun g a t fr x y=>(k.block g (Gi x)).trans (h.2 g a t fr x y)⟩
structure JnS (tj:TypeId) (W:World) (gs:Nat) (cs cj:Array Value) (w:World):Prop where
  s:Blk w gs 94 cs
  z:Blk w (gs+1) 94 #[.slice none 0 0,.int .i64 0,.int .i64 0,.string ⟨#[]⟩,.slice none 0 0,.slice none 0 0,.slice none 0 0]
  j:Blk w (gs+2) tj cj
  q:Below gs W w
section
variable {tj gs:Nat}{W w w':World}{cs cj:Array Value}{a0 a1 a2 a3 a4 a5 a6:Value}
theorem JnS.call(h:JnS tj W gs cs cj w)(hb:Below w.heap.size w w'):JnS tj W gs cs cj w':=⟨h.s.below hb h.s.lt,h.z.below hb h.z.lt,h.j.below hb h.j.lt,h.q.trans (hb.mono (by have:=h.s.lt;omega))⟩
theorem JnS.st(h:JnS tj W gs #[a0,a1,a2,a3,a4,a5,a6] cj w)(b0 a c f d b5 b:Value):JnS tj W gs #[b0,a,c,f,d,b5,b] cj (((((((w.setCell ⟨gs,0,none⟩ b0).setCell ⟨gs,1,none⟩ a).setCell ⟨gs,2,none⟩ c).setCell ⟨gs,3,none⟩ f).setCell ⟨gs,4,none⟩ d).setCell ⟨gs,5,none⟩ b5).setCell ⟨gs,6,none⟩ b) :=
 ⟨st7 h.s b0 a c f d b5 b,d8 h.z (by omega) b0 a c f d b5 b,d8 h.j (by omega) b0 a c f d b5 b,dM h.q Qr b0 a c f d b5 b⟩
theorem JnS.put(h:JnS tj W gs cs cj w)(i:Nat)(u:Value):JnS tj W gs cs (cj.setIfInBounds i u) (w.setCell ⟨gs+2,i,none⟩ u) :=
 ⟨h.s.far (p:=⟨gs+2,i,none⟩) (by show gs≠gs+2;omega) u,h.z.far (p:=⟨gs+2,i,none⟩) (by show gs+1≠gs+2;omega) u,h.j.set_ i u,h.q.setCell (p:=⟨gs+2,i,none⟩) (by show gs<=gs+2;omega) u⟩
end
theorem JtC.any{w:World}{cs:List Value}{j:bj}(h:JtC w cs j)(a:World):JtC a cs j:=⟨h.1,h.2⟩
theorem DrC.any{w:World}{cs:List Value}{j:bD}(h:DrC w cs j)(a:World):DrC a cs j:=⟨h.1,h.2⟩
def FQ(w:World)(B:Nat)(f:Value->Value)(j:bj)(m:Nat)(l:List bj)(e:Ending)(w':World):Prop :=
  ∃A c,e=.returned (f (.slice A (m+1) c))/\bc 79 JtC 7 w' B (.slice A (m+1) c) (m+1) (l++[j])/\Below B w w'/\Tch (bI 79) w w'
theorem wX{l:List Tkn}(b:∀t∈l,NmL t.text)(p:Nat)(x:Int)(bs:List aq)(a:Bool):NmL (cD l p x bs a).2.2.name:=oZ b p x
theorem ss(w:World)(B:Nat)(bb:B<=w.heap.size)(A:Option Addr)(n c:Nat)(l:List Tkn)(h:TkS w A n c l)(hn:n<=65536)(b9:∀t∈l,NmL t.text)(p:Nat)(hp:p<=n)(x:Int)(r:List UInt8)(k:Option Addr)(i m:Nat)(bs:List aq)(hb:SlS (fD 500) 2 w k i m bs)(hm:i<=100000)(bk:∀b∈bs,b.pts.length<=100000)(K:Option Addr)(d J:Nat)(js:List bj)(hj:bc 79 JtC 7 w B (.slice K d J) d js)(eo:d<=100000)(B3:Option Addr)(o u:Nat)(f:Bool)(z:Int)(hz:z=if f then 1 else 0)(N:Nat × Int × bj)(hN:cD l p x bs f=N):
 Calls Tryz.prog 85 #[.agg #[.slice A n c,.int .i64 (p:Nat),.int .i64 x,ae r,.slice k i m,.slice K d J,.slice B3 o u],.int .i64 z] w (FQ w B (fun v=>.agg #[.slice A n c,.int .i64 (N.1:Nat),.int .i64 N.2.1,ae r,.slice k i m,v,.slice B3 o u]) N.2.2 d js):=by
 have ad:l.length=n:=h.1;obtain⟨i0,bz,a8,bF,bv⟩:=Gb uF;have HI:=Qh (And.intro bz (And.intro a8 (And.intro bF bv)));clear bz a8 bF bv;have ba:=Qh (show NmL N.2.2.name by rw[<-hN];exact wX b9 p x bs f);obtain⟨W,hW⟩:=Z9 (wF l p x);have bo:W.1<=n:=by rw[<-hW,<-ad];exact em.2.2 (by omega)
 obtain⟨a,ha⟩:=Z9 (fullF l W.1 W.2.1 bs (-1));have a0:a.1<=n:=by rw[<-ha,<-ad];exact cS.2.2 (by omega)
 obtain⟨b,ab⟩:=Z9 (fullF l a.1 a.2.1 bs (-1));have aZ:b.1<=n:=by rw[<-ab,<-ad];exact cS.2.2 (by omega)
 obtain⟨t,ht⟩:∃t:Nat × Int × Int × Int,(if f then fullF l b.1 b.2.1 bs b.2.2.1 else (b.1,b.2.1,0,0))=t:=⟨_,rfl⟩
 have bw:t.1<=n:=by
  rw[<-ht];split
  ·rw[<-ad];exact cS.2.2 (by omega)
  exact aZ
 obtain⟨E,hE⟩:=Z9 (eF l t.1 t.2.1 [59])
 have a7:N=(E.1,E.2.1,⟨W.2.2,if f then 1 else 0,a.2.2.1,a.2.2.2,b.2.2.1,b.2.2.2,t.2.2.2⟩):=by
  rw[<-hN];unfold cD;simp only[hW,ha,ab,ht,hE]
 rw[<-hz]at a7;subst a7;have HK:=Qh h;have HW:=Qh (show takeF l p x (bZ l p x 0)=W from hW);have HA:=Qh ha;have a9:=Qh ab;have HT:=Qh ht;have HE:=Qh (show takeF l t.1 t.2.1 (aR l t.1 t.2.1 [59])=E from hE);have HB:=Qh hb;have aF:=Qh bk;have HJ:=Qh hj;have HZ:=Qh hz;clear hN hW ha ab ht hE h hb bk hj hz;obtain⟨W1,W2,S⟩:=W;obtain⟨a1,a2,Y,X⟩:=a;obtain⟨b1,b2,U,b4⟩:=b;obtain⟨t1,t2,t3,t4⟩:=t;obtain⟨E1,E2,E3⟩:=E;simp only at ba HW HA a9 HT HE bo a0 aZ bw⊢;go_in;go_upto_region 2 with fail;refine fv ?_;intro w1 a5
 have Q:JnS 79 w w.heap.size #[.slice A n c,.int .i64 (p:Nat),.int .i64 x,ae r,.slice k i m,.slice K d J,.slice B3 o u] #[.string ⟨#[]⟩,.int .i64 z,.int .i64 0,.int .i64 0,.int .i64 0,.int .i64 0,.int .i64 0] w1:=by
  rw[a5];exact⟨((Blk.new w _ _).alloc _).alloc _,(aj _ _ _ (by simp)).alloc _,aj _ _ _ (by simp),(((aa w).alloc Qr _).alloc (by simp) _).alloc (by simp;omega) _⟩
 clear a5;obtain⟨c0,c1,c2,c3,c4,c5,c6⟩:=Q.s.c7;obtain⟨D,G,y,F,H,I,C⟩:=Q.j.c7;go_wp2_with fail;(refine(iA _ A n c l ?_ hn p hp x r k i m K d J B3 o u (W1,W2,S) HW.out).mono ?_)
 ·exact HK.out.belw Q.q
 rintro e w2⟨rfl,bg⟩;replace Q:=Q.call bg;clear bg c0 c1 c2 c3 c4 c5 c6 D G y F H I C;obtain⟨c0,c1,c2,c3,c4,c5,c6⟩:=Q.s.c7;obtain⟨f0,f1,f2,f3,f4,f5,f6⟩:=Q.s.f7;obtain⟨D,G,y,F,H,I,C⟩:=Q.j.c7;obtain⟨g0,g1,g2,g3,g4,g5,Z⟩:=Q.j.f7;go_upto_region 3 with fail;refine fv ?_;intro w3 br;replace Q:JnS 79 w w.heap.size #[.slice A n c,.int .i64 (W1:Nat),.int .i64 W2,ae r,.slice k i m,.slice K d J,.slice B3 o u] #[ae S,.int .i64 z,.int .i64 0,.int .i64 0,.int .i64 0,.int .i64 0,.int .i64 0] w3:=by rw[br];exact(Q.st (.slice A n c) (.int .i64 (W1:Nat)) (.int .i64 W2) (ae r) (.slice k i m) (.slice K d J) (.slice B3 o u)).put 0 (ae S)
 clear br;clear c0 c1 c2 c3 c4 c5 c6 D G y F H I C f0 f1 f2 f3 f4 f5 f6 g0 g1 g2 g3 g4 g5 Z;have k3:=Q;clear Q;obtain⟨c0,c1,c2,c3,c4,c5,c6⟩:=k3.s.c7;obtain⟨D,G,y,F,H,I,C⟩:=k3.j.c7;go_wp2_with fail;(refine(qh _ A n c l ?_ hn W1 bo W2 r k i m bs ?_ hm aF.out K d J B3 o u (-1) (a1,a2,Y,X) HA.out).mono ?_)
 ·exact HK.out.belw k3.q
 ·exact HB.out.bd k3.q
 rintro e w4⟨rfl,b0⟩;replace k3:=k3.call b0;clear b0 c0 c1 c2 c3 c4 c5 c6 D G y F H I C;obtain⟨c0,c1,c2,c3,c4,c5,c6⟩:=k3.s.c7;obtain⟨f0,f1,f2,f3,f4,f5,f6⟩:=k3.s.f7;obtain⟨D,G,y,F,H,I,C⟩:=k3.j.c7;obtain⟨g0,g1,g2,g3,g4,g5,Z⟩:=k3.j.f7;go_upto_region 4 with fail;refine fv ?_;intro w5 bl;replace k3:JnS 79 w w.heap.size #[.slice A n c,.int .i64 (a1:Nat),.int .i64 a2,ae r,.slice k i m,.slice K d J,.slice B3 o u] #[ae S,.int .i64 z,.int .i64 Y,.int .i64 X,.int .i64 0,.int .i64 0,.int .i64 0] w5:=by rw[bl];exact((k3.st (.slice A n c) (.int .i64 (a1:Nat)) (.int .i64 a2) (ae r) (.slice k i m) (.slice K d J) (.slice B3 o u)).put 2 (.int .i64 Y)).put 3 (.int .i64 X)
 clear bl;clear c0 c1 c2 c3 c4 c5 c6 D G y F H I C f0 f1 f2 f3 f4 f5 f6 g0 g1 g2 g3 g4 g5 Z;have M:=k3;clear k3;obtain⟨c0,c1,c2,c3,c4,c5,c6⟩:=M.s.c7;obtain⟨D,G,y,F,H,I,C⟩:=M.j.c7;go_wp2_with fail;(refine(qh _ A n c l ?_ hn a1 a0 a2 r k i m bs ?_ hm aF.out K d J B3 o u (-1) (b1,b2,U,b4) a9.out).mono ?_)
 ·exact HK.out.belw M.q
 ·exact HB.out.bd M.q
 rintro e w6⟨rfl,bu⟩;replace M:=M.call bu;clear bu c0 c1 c2 c3 c4 c5 c6 D G y F H I C;obtain⟨c0,c1,c2,c3,c4,c5,c6⟩:=M.s.c7;obtain⟨f0,f1,f2,f3,f4,f5,f6⟩:=M.s.f7;obtain⟨D,G,y,F,H,I,C⟩:=M.j.c7;obtain⟨g0,g1,g2,g3,g4,g5,Z⟩:=M.j.f7;go_upto_region 5 with fail;refine fv ?_;intro w7 bY;replace M:JnS 79 w w.heap.size #[.slice A n c,.int .i64 (b1:Nat),.int .i64 b2,ae r,.slice k i m,.slice K d J,.slice B3 o u] #[ae S,.int .i64 z,.int .i64 Y,.int .i64 X,.int .i64 U,.int .i64 b4,.int .i64 0] w7:=by rw[bY];exact((M.st (.slice A n c) (.int .i64 (b1:Nat)) (.int .i64 b2) (ae r) (.slice k i m) (.slice K d J) (.slice B3 o u)).put 4 (.int .i64 U)).put 5 (.int .i64 b4)
 clear bY;clear c0 c1 c2 c3 c4 c5 c6 D G y F H I C f0 f1 f2 f3 f4 f5 f6 g0 g1 g2 g3 g4 g5 Z;have O:=M;clear M;go_upto_if 31 with fail;go_cut [] (fun wx=>JnS 79 w w.heap.size #[.slice A n c,.int .i64 (t1:Nat),.int .i64 t2,ae r,.slice k i m,.slice K d J,.slice B3 o u] #[ae S,.int .i64 z,.int .i64 Y,.int .i64 X,.int .i64 U,.int .i64 b4,.int .i64 t4] wx)
 case first =>
  cases f
  ·obtain rfl:z=0:=HZ.out
   have hT:=HT.out;simp only[Gx,Hw,Hq]at hT;obtain⟨rfl,rfl,rfl,rfl⟩:=hT;go_wp2_with fail;go_meet;exact O
  obtain rfl:z=1:=HZ.out;have hT:=HT.out;simp only[GY]at hT;have cr:=Qh hT;clear hT;obtain⟨c0,c1,c2,c3,c4,c5,c6⟩:=O.s.c7;obtain⟨D,G,y,F,H,I,C⟩:=O.j.c7;go_wp2_with fail;(refine(qh _ A n c l ?_ hn b1 aZ b2 r k i m bs ?_ hm aF.out K d J B3 o u U (t1,t2,t3,t4) cr.out).mono ?_)
  ·exact HK.out.belw O.q
  ·exact HB.out.bd O.q
  rintro e w8⟨rfl,a6⟩;replace O:=O.call a6;clear a6 c0 c1 c2 c3 c4 c5 c6 D G y F H I C;obtain⟨c0,c1,c2,c3,c4,c5,c6⟩:=O.s.c7;obtain⟨f0,f1,f2,f3,f4,f5,f6⟩:=O.s.f7;obtain⟨D,G,y,F,H,I,C⟩:=O.j.c7;obtain⟨g0,g1,g2,g3,g4,g5,Z⟩:=O.j.f7;go_wp2_with fail;go_meet;exact(O.st (.slice A n c) (.int .i64 (t1:Nat)) (.int .i64 t2) (ae r) (.slice k i m) (.slice K d J) (.slice B3 o u)).put 6 (.int .i64 t4)
 case rest =>
  rename World=>w9;have R:JnS 79 w w.heap.size #[.slice A n c,.int .i64 (t1:Nat),.int .i64 t2,ae r,.slice k i m,.slice K d J,.slice B3 o u] #[ae S,.int .i64 z,.int .i64 Y,.int .i64 X,.int .i64 U,.int .i64 b4,.int .i64 t4] w9:=hcut;clear hcut O;obtain⟨c0,c1,c2,c3,c4,c5,c6⟩:=R.s.c7;obtain⟨D,G,y,F,H,I,C⟩:=R.j.c7;go_wp2_with fail;(refine(dA _ A n c l ?_ hn t1 bw t2 r k i m K d J B3 o u [59] (E1,E2,E3) HE.out).mono ?_)
  ·exact HK.out.belw R.q
  rintro e ep⟨rfl,ao⟩;replace R:=R.call ao;clear ao c0 c1 c2 c3 c4 c5 c6 D G y F H I C;obtain⟨c0,c1,c2,c3,c4,c5,c6⟩:=R.s.c7;obtain⟨f0,f1,f2,f3,f4,f5,f6⟩:=R.s.f7;obtain⟨D,G,y,F,H,I,C⟩:=R.j.c7;obtain⟨g0,g1,g2,g3,g4,g5,Z⟩:=R.j.f7;go_upto_region 8 with fail;refine fv ?_;intro P al;replace R:JnS 79 w w.heap.size #[.slice A n c,.int .i64 (E1:Nat),.int .i64 E2,ae r,.slice k i m,.slice K d J,.slice B3 o u] #[ae S,.int .i64 z,.int .i64 Y,.int .i64 X,.int .i64 U,.int .i64 b4,.int .i64 t4] P:=by rw[al];exact R.st (.slice A n c) (.int .i64 (E1:Nat)) (.int .i64 E2) (ae r) (.slice k i m) (.slice K d J) (.slice B3 o u)
  clear al;clear c0 c1 c2 c3 c4 c5 c6 D G y F H I C f0 f1 f2 f3 f4 f5 f6 g0 g1 g2 g3 g4 g5 Z;have g:=R;clear R;have co:Tch (bI 79) w P:=Tch.below g.q;have hj:=HJ.out.tch (T:=fun _=>false) (Tch.below g.q) rfl (fun _ _ x=>x);obtain⟨cj,xs,aC,an⟩:=hj;have HO:=Qh aC;have b7:=Qh an;have eh:=g.q.size;have ek:=g.s.lt;have ej:=g.z.lt;have ei:=g.j.lt;have en:¬w.heap.size=P.heap.size:=by omega
  have el:¬w.heap.size+2=P.heap.size:=by omega
  have V:=Qh g;obtain⟨c0,c1,c2,c3,c4,c5,c6⟩:=g.s.c7;obtain⟨f0,f1,f2,f3,f4,f5,f6⟩:=g.s.f7;obtain⟨D,G,y,F,H,I,C⟩:=g.j.c7;obtain⟨g0,g1,g2,g3,g4,g5,Z⟩:=g.z.c7;obtain⟨h0,h1,h2,h3,h4,h5,h6⟩:=g.z.f7;clear aC an g;go_wp2_with (at_builtin;(refine bK _ rfl noW _ _ _ rfl B 79 i0 (.agg #[.string ⟨#[]⟩,.int .i64 0,.int .i64 0,.int .i64 0,.int .i64 0,.int .i64 0,.int .i64 0]) 7 64 Tryz.underlying33 HI.out.1 HI.out.2.1 HI.out.2.2.1 HI.out.2.2.2 rfl (by omega) rfl _ d xs rfl (HO.out.belw ((kz _ _).alloc Qr _)) ⟨P.heap.size,0,none⟩ 1 1 [_,_,_,_,_,_,_] rfl rfl (l8 rfl _ _) (by simp[Value.oneCell']) rfl (by omega) (by unfold maxLen;omega) (by omega) (by simp;omega) ?_);intro gx cap b6 ac L eq;have aS:=(V.out.s.alloc (.cells #[ae S,.int .i64 z,.int .i64 Y,.int .i64 X,.int .i64 U,.int .i64 b4,.int .i64 t4] 79)).grown L (gL HO.out V.out.s (by decide));have aT:=(V.out.z.alloc (.cells #[ae S,.int .i64 z,.int .i64 Y,.int .i64 X,.int .i64 U,.int .i64 b4,.int .i64 t4] 79)).grown L (gL HO.out V.out.z (by decide));obtain⟨ck,cx,dv,ed,dd,ds,ca⟩:=aS.c7;obtain⟨cy,di,cc,dr,dO,cm,cL⟩:=aS.f7;obtain⟨cn,c9,b8,ea,eg,dq,cz⟩:=aT.c7;obtain⟨c8,ec,ee,cp,cv,cu,cs⟩:=aT.f7);have eb:=fS cj HO.out b7.out (show JtC P [ae S,.int .i64 z,.int .i64 Y,.int .i64 X,.int .i64 U,.int .i64 b4,.int .i64 t4] ⟨S,z,Y,X,U,b4,t4⟩ from⟨rfl,ba.out⟩) rfl ac L (by omega) (fun _ _ _ _ h=>h);obtain⟨hr,b5,bn⟩:=eb;refine zr1 (.agg #[.slice A n c,.int .i64 (E1:Nat),.int .i64 E2,ae r,.slice k i m,.slice (some ⟨gx,0,none⟩) (d+1) cap,.slice B3 o u]) ?_;clear ck cx dv ed dd ds ca cy di cc dr dO cm cL cn c9 b8 ea eg dq cz c8 ec ee cp cv cu cs c0 c1 c2 c3 c4 c5 c6 f0 f1 f2 f3 f4 f5 f6 D G y F H I C g0 g1 g2 g3 g4 g5 Z h0 h1 h2 h3 h4 h5 h6;have cb:=aT.far (p:=⟨w.heap.size,5,none⟩) (by show w.heap.size+1≠w.heap.size;omega) (.slice (some ⟨gx,0,none⟩) (d+1) cap);have te:=(Tch.set aS (T:=bI 94) (by simp[bI]) rfl 5 (.slice (some ⟨gx,0,none⟩) (d+1) cap)).trans (fU cb (by simp[bI]) rfl (.slice A n c) (.int .i64 (E1:Nat)) (.int .i64 E2) (.string ⟨r.toArray⟩) (.slice k i m) (.slice (some ⟨gx,0,none⟩) (d+1) cap) (.slice B3 o u));have be:Below w.heap.size b6 _:=dM ((kz w.heap.size b6).setCell (p:=⟨w.heap.size,5,none⟩) Qr (.slice (some ⟨gx,0,none⟩) (d+1) cap)) (show w.heap.size<=w.heap.size+1 by omega) (.slice A n c) (.int .i64 (E1:Nat)) (.int .i64 E2) (.string ⟨r.toArray⟩) (.slice k i m) (.slice (some ⟨gx,0,none⟩) (d+1) cap) (.slice B3 o u);exact⟨_,_,rfl,hr.tch te (by decide) (fun _ _ x=>x.any _),((V.out.q.mono bb).trans bn).trans (be.mono bb),(co.trans b5).own be⟩
structure SzS (W:World) (gs:Nat) (cs:Array Value) (w:World):Prop where
  s:Blk w gs 94 cs
  z:Blk w (gs+1) 94 #[.slice none 0 0,.int .i64 0,.int .i64 0,.string ⟨#[]⟩,.slice none 0 0,.slice none 0 0,.slice none 0 0]
  q:Below gs W w
section
variable {gs:Nat}{W w w':World}{cs:Array Value}{a0 a1 a2 a3 a4 a5 a6:Value}
theorem SzS.call(h:SzS W gs cs w)(hb:Below w.heap.size w w'):SzS W gs cs w':=⟨h.s.below hb h.s.lt,h.z.below hb h.z.lt,h.q.trans (hb.mono (by have:=h.s.lt;omega))⟩
theorem SzS.alloc(h:SzS W gs cs w)(a:Obj):SzS W gs cs (w.alloc a):=h.call ((aa w).alloc Qr a)
theorem SzS.st(h:SzS W gs #[a0,a1,a2,a3,a4,a5,a6] w)(b0 a c f d b5 b:Value):SzS W gs #[b0,a,c,f,d,b5,b] (((((((w.setCell ⟨gs,0,none⟩ b0).setCell ⟨gs,1,none⟩ a).setCell ⟨gs,2,none⟩ c).setCell ⟨gs,3,none⟩ f).setCell ⟨gs,4,none⟩ d).setCell ⟨gs,5,none⟩ b5).setCell ⟨gs,6,none⟩ b) :=
 ⟨st7 h.s b0 a c f d b5 b,d8 h.z (by omega) b0 a c f d b5 b,dM h.q Qr b0 a c f d b5 b⟩
theorem SzS.far(h:SzS W gs cs w){g:Nat}(a:gs+2<=g)(i:Nat)(u:Value):SzS W gs cs (w.setCell ⟨g,i,none⟩ u) :=
 ⟨h.s.far (p:=⟨g,i,none⟩) (by show gs≠g;omega) u,h.z.far (p:=⟨g,i,none⟩) (by show gs+1≠g;omega) u,h.q.setCell (p:=⟨g,i,none⟩) (by show gs<=g;omega) u⟩
end
def TI:TypeId->Bool:=fun t=>t==62||t==79||t==81
structure RfL (B:Nat) (w:World) (A1:Option Addr) (n1 c1:Nat) (A2:Option Addr) (n2 c2:Nat) (A3:Option Addr) (n3 c3:Nat) (L:am):Prop where
  bd:bc 62 (BdC 500) 2 w B (.slice A1 n1 c1) n1 L.bodies
  jt:bc 79 JtC 7 w B (.slice A2 n2 c2) n2 L.joints
  dr:bc 81 DrC 2 w B (.slice A3 n3 c3) n3 L.drivers
  pts:∀b∈L.bodies,b.pts.length<=100000
theorem RfL.tch{T:TypeId->Bool}{B:Nat}{w a:World}{c f d:Option Addr}{g c1 i c2 b c3:Nat}{L:am}(h:RfL B w c g c1 f i c2 d b c3 L)(t:Tch T w a)(l:T 62=false)(j:T 79=false)(m:T 81=false)(k:T 67=false):RfL B a c g c1 f i c2 d b c3 L :=
 ⟨h.bd.tch t l fun _ _ x=>x.tch t k,h.jt.tch t j fun _ _ x=>x.any _,h.dr.tch t m fun _ _ x=>x.any _,h.pts⟩
def Fh(w:World)(B:Nat)(f:Value->Value->Value->Value)(m:Nat)(L:am)(e:Ending)(w':World):Prop :=
  ∃A1 n1 c1 A2 n2 c2 A3 n3 c3,e=.returned (f (.slice A1 n1 c1) (.slice A2 n2 c2) (.slice A3 n3 c3))/\RfL B w' A1 n1 c1 A2 n2 c2 A3 n3 c3 L/\n1+n2+n3<=m+1/\Below B w w'/\Tch TI w w'
theorem ni{l:List Tkn}:∀(f p:Nat) (x:Int) (a:List aB),(cR l f p x a).2.2.length<=a.length+f
 |0,p,x,a=>Qr
 |f+1,p,x,a=>by
  by_cases h:x=0/\aR l p x [125]=false
  ·rw[dw (by omega) h]
   have:=ni (l:=l) (f+1-1) (mkF l p x).1 (mkF l p x).2.1 (a++[(mkF l p x).2.2]);rw[kc,F8]at this;omega
  rw[cA h];show a.length<=_;omega
theorem wY{l:List Tkn}(a:l.length<=65536)(p:Nat)(x:Int):(dT l p x).2.2.pts.length<=100000:=by
 have h:(dT l p x).2.2.pts.length<=([]:List aB).length+(l.length+1):=ni _ _ _ _;simp only[Gm]at h;omega
theorem Am{l:List Tkn}(a:∀t∈l,NmL t.text)(p:Nat)(x:Int):NmL (dT l p x).2.2.name:=oZ a p x
theorem kW{T:TypeId->Bool}{w a:World}{g t:Nat}{cs:Array Value}(x:Blk w g t cs)(h:Tch T w a)(b:T t=false):Blk a g t cs:=h.2 g _ _ _ x (.inl b)
theorem Ct(w:World)(B:Nat)(R:B<=w.heap.size)(A:Option Addr)(n c:Nat)(l:List Tkn)(h:TkS w A n c l)(hn:n<=65536)(a2:∀t∈l,NmL t.text)(p:Nat)(hp:p<=n)(x:Int)(j:List UInt8)(k:Option Addr)(f a:Nat)(y:Option Addr)(i m:Nat)(B3:Option Addr)(g d:Nat)(L:am)(hL:RfL B w k f a y i m B3 g d L)(hm:f+i+g<=70000)(N:Nat × Int × am)(hN:dk l p x L=N):
 Calls Tryz.prog 46 #[.agg #[.slice A n c,.int .i64 (p:Nat),.int .i64 x,ae j,.slice k f a,.slice y i m,.slice B3 g d]] w (Fh w B (fun v1 v2 v3=>.agg #[.slice A n c,.int .i64 (N.1:Nat),.int .i64 N.2.1,ae j,v1,v2,v3]) (f+i+g) N.2.2):=by
 have cn:l.length=n:=h.1;obtain⟨T,hT⟩:=Z9 (takeF l p x (gN l p x));have a9:T.1<=n:=by rw[<-hT,<-cn];exact cC (by omega)
 unfold dk at hN;simp only[hT]at hN;have HK:=Qh h;have HT:=Qh hT;have HN:=Qh hN;have HL:=Qh hL;clear h hT hN hL;obtain⟨T1,T2,Y⟩:=T;simp only at HN a9;obtain⟨may,bl⟩:=Z9 (gN l p x);rw[bl]at HT;have K:=Qh bl;clear bl;go_in;go_upto_region 1 with fail;refine fv ?_;intro w1 dd;have k1:SzS w w.heap.size #[.slice A n c,.int .i64 (p:Nat),.int .i64 x,ae j,.slice k f a,.slice y i m,.slice B3 g d] w1:=by rw[dd];exact⟨(Blk.new w _ _).alloc _,aj _ _ _ (by simp),((aa w).alloc Qr _).alloc (by simp) _⟩
 clear dd;go_cut [3] (fun v wx=>v=.bool may/\SzS w w.heap.size #[.slice A n c,.int .i64 (p:Nat),.int .i64 x,ae j,.slice k f a,.slice y i m,.slice B3 g d] wx)
 case first =>
  obtain⟨v0,ec⟩:∃v,aR l p x [98,111,100,121]=v:=⟨_,rfl⟩;have a0:=Qh ec;clear ec;obtain⟨c0,c1,c2,c3,c4,c5,c6⟩:=k1.s.c7;go_wp2_with fail;(refine(jQ _ A n c l ?_ hn p hp x j k f a y i m B3 g d [98,111,100,121] v0 a0.out).mono ?_)
  ·exact HK.out.belw k1.q
  rintro e w2⟨rfl,ds⟩;have k2:=k1.call ds;clear ds c0 c1 c2 c3 c4 c5 c6;cases v0;rotate_left
  ·obtain rfl:may=true:=by rw[<-K.out];unfold gN;rw[show aR l p x dG=true from a0.out];rfl
   go_wp2_with fail;go_meet;exact⟨rfl,k2⟩
  obtain⟨v1,eg⟩:∃v,aR l p x [112,105,110]=v:=⟨_,rfl⟩;have bn:=Qh eg;clear eg;obtain⟨c0,c1,c2,c3,c4,c5,c6⟩:=k2.s.c7;go_wp2_with fail;(refine(jQ _ A n c l ?_ hn p hp x j k f a y i m B3 g d [112,105,110] v1 bn.out).mono ?_)
  ·exact HK.out.belw k2.q
  rintro e w3⟨rfl,dv⟩;have k3:=k2.call dv;clear dv c0 c1 c2 c3 c4 c5 c6;cases v1;rotate_left
  ·obtain rfl:may=true:=by rw[<-K.out];unfold gN;rw[show aR l p x dG=false from a0.out,show aR l p x iZ=true from bn.out];rfl
   go_wp2_with fail;go_meet;exact⟨rfl,k3⟩
  obtain⟨v2,dO⟩:∃v,aR l p x [115,108,105,100,101]=v:=⟨_,rfl⟩;have bw:=Qh dO;clear dO;obtain⟨c0,c1,c2,c3,c4,c5,c6⟩:=k3.s.c7;go_wp2_with fail;(refine(jQ _ A n c l ?_ hn p hp x j k f a y i m B3 g d [115,108,105,100,101] v2 bw.out).mono ?_)
  ·exact HK.out.belw k3.q
  rintro e w4⟨rfl,ee⟩;have k4:=k3.call ee;clear ee c0 c1 c2 c3 c4 c5 c6;cases v2;rotate_left
  ·obtain rfl:may=true:=by rw[<-K.out];unfold gN;rw[show aR l p x dG=false from a0.out,show aR l p x iZ=false from bn.out,show aR l p x dL=true from bw.out];rfl
   go_wp2_with fail;go_meet;exact⟨rfl,k4⟩
  obtain⟨v3,ek⟩:∃v,aR l p x [100,114,105,118,101,114]=v:=⟨_,rfl⟩;have b6:=Qh ek;clear ek;obtain⟨c0,c1,c2,c3,c4,c5,c6⟩:=k4.s.c7;go_wp2_with fail;(refine(jQ _ A n c l ?_ hn p hp x j k f a y i m B3 g d [100,114,105,118,101,114] v3 b6.out).mono ?_)
  ·exact HK.out.belw k4.q
  rintro e w5⟨rfl,eb⟩;have k5:=k4.call eb;clear eb c0 c1 c2 c3 c4 c5 c6;cases v3
  ·obtain rfl:may=false:=by rw[<-K.out];unfold gN;rw[show aR l p x dG=false from a0.out,show aR l p x iZ=false from bn.out,show aR l p x dL=false from bw.out,show aR l p x dz=false from b6.out];rfl
   go_wp2_with fail;go_meet;exact⟨rfl,k5⟩
  obtain rfl:may=true:=by rw[<-K.out];unfold gN;rw[show aR l p x dG=false from a0.out,show aR l p x iZ=false from bn.out,show aR l p x dL=false from bw.out,show aR l p x dz=true from b6.out];rfl
  go_wp2_with fail;go_meet;exact⟨rfl,k5⟩
 case rest =>
  obtain⟨rfl,k6⟩:=hcut;rename World=>w6;clear k1;obtain⟨c0,c1,c2,c3,c4,c5,c6⟩:=k6.s.c7;obtain⟨f0,f1,f2,f3,f4,f5,f6⟩:=k6.s.f7;go_wp2_with fail;(refine(lZ _ A n c l ?_ hn p hp x j k f a y i m B3 g d may).mono ?_)
  ·exact HK.out.belw k6.q
  rintro e w7⟨he,ep⟩;rw[HT.out]at he;simp only at he;subst he;have k7:=k6.call ep;clear ep c0 c1 c2 c3 c4 c5 c6 f0 f1 f2 f3 f4 f5 f6 k6;obtain⟨c0,c1,c2,c3,c4,c5,c6⟩:=k7.s.c7;obtain⟨f0,f1,f2,f3,f4,f5,f6⟩:=k7.s.f7;go_upto_region 3 with fail;refine fv ?_;intro w8 eh;have V:SzS w w.heap.size #[.slice A n c,.int .i64 (T1:Nat),.int .i64 T2,ae j,.slice k f a,.slice y i m,.slice B3 g d] w8:=by rw[eh];exact k7.st (.slice A n c) (.int .i64 (T1:Nat)) (.int .i64 T2) (ae j) (.slice k f a) (.slice y i m) (.slice B3 g d)
  clear eh;clear c0 c1 c2 c3 c4 c5 c6 f0 f1 f2 f3 f4 f5 f6;clear k7;have ex:=aK Y;have b3:=V.s.lt;have b4:=V.z.lt;by_cases e0:Y=dG;rotate_left;by_cases a:Y=iZ;rotate_left;by_cases m:Y=dL;rotate_left;by_cases d:Y=dz;rotate_left
  ·have hN:=HN.out
   rw[kl e0,kl a,kl m,kl d]at hN;subst hN;have t0:(Y==[98,111,100,121])=false:=it.2 e0;have t1:(Y==[112,105,110])=false:=it.2 a;have t2:(Y==[115,108,105,100,101])=false:=it.2 m;have t3:(Y==[100,114,105,118,101,114])=false:=it.2 d;have ks:=V.s;have U:=V.z;clear e0 a m d HN HT K;obtain⟨c0,c1,c2,c3,c4,c5,c6⟩:=ks.c7;obtain⟨d0,d1,d2,d3,d4,d5,d6⟩:=U.c7;obtain⟨g0,g1,g2,g3,g4,g5,g6⟩:=U.f7;go_wp2_with fail;refine zr1 (.agg #[.slice A n c,.int .i64 (T1:Nat),.int .i64 T2,ae j,.slice k f a,.slice y i m,.slice B3 g d]) ?_;clear c0 c1 c2 c3 c4 c5 c6 d0 d1 d2 d3 d4 d5 d6 g0 g1 g2 g3 g4 g5 g6;have te:Tch (bI 94) w8 _:=fU U (by simp[bI]) rfl (.slice A n c) (.int .i64 (T1:Nat)) (.int .i64 T2) (.string ⟨j.toArray⟩) (.slice k f a) (.slice y i m) (.slice B3 g d);have be:Below w.heap.size w8 _:=dM (kz w.heap.size w8) (show w.heap.size<=w.heap.size+1 by omega) (.slice A n c) (.int .i64 (T1:Nat)) (.int .i64 T2) (.string ⟨j.toArray⟩) (.slice k f a) (.slice y i m) (.slice B3 g d);exact⟨_,_,_,_,_,_,_,_,_,rfl,(HL.out.tch (T:=fun _=>false) (Tch.below V.q) rfl rfl rfl rfl).tch te (by decide) (by decide) (by decide) (by decide),Nat.le_succ _,(V.q.mono R).trans (be.mono R),(Tch.below V.q).own be⟩
  ·have hN:=HN.out
   rw[kZ e0]at hN;have t0:(Y==[98,111,100,121])=true:=by rw[e0];decide
   have t1:(Y==[112,105,110])=false:=by rw[e0];decide
   have t2:(Y==[115,108,105,100,101])=false:=by rw[e0];decide
   have t3:(Y==[100,114,105,118,101,114])=false:=by rw[e0];decide
   obtain⟨H,bg⟩:=Z9 (dT l T1 T2);have bs:NmL H.2.2.name:=by rw[<-bg];exact Am a2 _ _
   have es:H.2.2.pts.length<=100000:=by rw[<-bg];exact wY (by omega) _ _
   rw[bg]at hN;subst hN;have eq:=Qh bg;clear bg e0 HN HT K;go_upto_region 6 with fail;refine fv ?_;intro w9 aF;have k9:SzS w w.heap.size #[.slice A n c,.int .i64 (T1:Nat),.int .i64 T2,ae j,.slice k f a,.slice y i m,.slice B3 g d] w9:=by rw[aF];exact V.alloc _
   have j9:Blk w9 w8.heap.size 62 #[.string ⟨#[]⟩,.slice none 0 0]:=by rw[aF];exact Blk.new w8 _ _
   clear aF V;obtain⟨c0,c1,c2,c3,c4,c5,c6⟩:=k9.s.c7;go_wp2_with fail;(refine(Cq _ A n c l ?_ hn T1 a9 T2 j k f a y i m B3 g d a2 H eq.out).mono ?_)
   ·exact HK.out.belw k9.q
   rintro e o⟨Ab,nb,cb,rfl,hM,_,r⟩;have al:=k9.call r;have an:=j9.below r j9.lt;clear r c0 c1 c2 c3 c4 c5 c6 k9 j9;obtain⟨c0,c1,c2,c3,c4,c5,c6⟩:=al.s.c7;obtain⟨f0,f1,f2,f3,f4,f5,f6⟩:=al.s.f7;obtain⟨d0,d1⟩:=an.c2;obtain⟨g0,g1⟩:=an.f2;go_upto_region 7 with fail;refine fv ?_;intro ad X;have ab:SzS w w.heap.size #[.slice A n c,.int .i64 (H.1:Nat),.int .i64 H.2.1,ae j,.slice k f a,.slice y i m,.slice B3 g d] ad:=by rw[X];exact((al.st (.slice A n c) (.int .i64 (H.1:Nat)) (.int .i64 H.2.1) (ae j) (.slice k f a) (.slice y i m) (.slice B3 g d)).far (by omega) 0 (ae H.2.2.name)).far (by omega) 1 (.slice Ab nb cb)
   have kj:Blk ad w8.heap.size 62 #[ae H.2.2.name,.slice Ab nb cb]:=by rw[X];exact((d8 an (g':=w.heap.size) (by omega) (.slice A n c) (.int .i64 (H.1:Nat)) (.int .i64 H.2.1) (ae j) (.slice k f a) (.slice y i m) (.slice B3 g d)).set_ 0 (ae H.2.2.name)).set_ 1 (.slice Ab nb cb)
   have b1:ls 500 ad Ab nb cb H.2.2.pts:=by
    rw[X];exact hM.tch (((fU (T:=fun t=>t==94||t==62) al.s (by simp) rfl (.slice A n c) (.int .i64 (H.1:Nat)) (.int .i64 H.2.1) (ae j) (.slice k f a) (.slice y i m) (.slice B3 g d))).trans ((Fc (d8 an (g':=w.heap.size) (by omega) (.slice A n c) (.int .i64 (H.1:Nat)) (.int .i64 H.2.1) (ae j) (.slice k f a) (.slice y i m) (.slice B3 g d)) ⟨rfl,rfl⟩ (ae H.2.2.name) (.slice Ab nb cb)).mono fun t ht=>by simp[bI]at ht;simp[ht])) (by decide)
   clear X c0 c1 c2 c3 c4 c5 c6 f0 f1 f2 f3 f4 f5 f6 d0 d1 g0 g1 al an hM;have b2:=HL.out.tch (T:=fun _=>false) (Tch.below ab.q) rfl rfl rfl rfl;have br:=Qh b2;have ks:=ab.s;have U:=ab.z;have kb:=ab.q;have ea:=Qh b1;clear b2 ab b1;have ev:=kb.size;obtain⟨b8,xs,ao,aC⟩:=br.out.bd;have HO:=Qh ao;have b5:=Qh aC;have KS:=Qh ks;have KZ:=Qh U;have di:=ks.lt;have dq:=U.lt;have ed:¬w.heap.size=ad.heap.size:=by omega
   have eo:¬w8.heap.size=ad.heap.size:=by have:=kj.lt;omega
   obtain⟨c0,c1,c2,c3,c4,c5,c6⟩:=ks.c7;obtain⟨f0,f1,f2,f3,f4,f5,f6⟩:=ks.f7;obtain⟨d0,d1⟩:=kj.c2;obtain⟨i0,a6,bb,bo,a5⟩:=Gb uE;have HI:=Qh (And.intro a6 (And.intro bb (And.intro bo a5)));clear ao aC ks U a6 bb bo a5;go_upto_region 18 with(at_builtin;(refine bK _ rfl noW _ _ _ rfl B 62 i0 (.agg #[.string ⟨#[]⟩,.slice none 0 0]) 2 40 Tryz.underlying32 HI.out.1 HI.out.2.1 HI.out.2.2.1 HI.out.2.2.2 rfl (by omega) rfl _ f xs rfl (HO.out.belw ((kz _ _).alloc Qr _)) ⟨ad.heap.size,0,none⟩ 1 1 [_,_] rfl rfl (l8 rfl _ _) (by simp[Value.oneCell']) rfl (by omega) (by unfold maxLen;omega) (by omega) (by simp;omega) ?_);intro gx cap aT P D c9;have ac:=(KS.out.alloc (.cells #[ae H.2.2.name,.slice Ab nb cb] 62)).grown D (gL HO.out KS.out (by decide));have ba:=(KZ.out.alloc (.cells #[ae H.2.2.name,.slice Ab nb cb] 62)).grown D (gL HO.out KZ.out (by decide));obtain⟨cv,b9,c8,cr,cy,cL,b7⟩:=ac.c7;obtain⟨ca,cz,cs,cc,cm,cu,cx⟩:=ac.f7);have co:=fS b8 HO.out b5.out (show BdC 500 ad [ae H.2.2.name,.slice Ab nb cb] H.2.2 from⟨Ab,nb,cb,rfl,ea.out,bs⟩) rfl P D (by omega) (fun _ _ _ ht x=>x.tch ht (by decide));obtain⟨hr,I,S⟩:=co;have VS:∃vs:Value,vs=.slice (some ⟨gx,0,none⟩) (f+1) cap:=⟨_,rfl⟩;refine fv ?_;intro C F;have ks:Blk C w.heap.size 94 #[.slice A n c,.int .i64 (H.1:Nat),.int .i64 H.2.1,ae j,.slice (some ⟨gx,0,none⟩) (f+1) cap,.slice y i m,.slice B3 g d]:=by rw[F];exact ac.s74 _
   have U:Blk C (w.heap.size+1) 94 #[.slice none 0 0,.int .i64 0,.int .i64 0,.string ⟨#[]⟩,.slice none 0 0,.slice none 0 0,.slice none 0 0]:=by rw[F];exact ba.far (p:=⟨w.heap.size,4,none⟩) (by show w.heap.size+1≠w.heap.size;omega) _
   have M:Below w.heap.size aT C:=by rw[F];exact(kz w.heap.size aT).setCell (p:=⟨w.heap.size,4,none⟩) Qr _
   have u:Tch (bI 94) aT C:=by rw[F];exact Tch.set ac (by simp[bI]) rfl 4 _
   have aS:RfL B C (some ⟨gx,0,none⟩) (f+1) cap y i m B3 g d (L.addB H.2.2):=by
    have h1:=hr.tch u (by decide) fun _ _ x=>x.tch u (by decide)
    have h2:=(br.out.jt.tch I (by decide) fun _ _ x=>x.any _).tch u (by decide) fun _ _ x=>x.any _
    have h3:=(br.out.dr.tch I (by decide) fun _ _ x=>x.any _).tch u (by decide) fun _ _ x=>x.any _
    refine⟨h1,h2,h3,fun b hb=>?_⟩;rcases Gu.1 hb with hb|hb
    ·exact br.out.pts b hb
    rw[List.mem_singleton.1 hb];exact es
   have r:Below B w C:=((kb.mono R).trans S).trans (M.mono R);have Z:Tch TI w C:=((Tch.below (T:=TI) kb).trans (I.mono fun t ht=>by simp[bI]at ht;simp[TI,ht])).own M;clear F c0 c1 c2 c3 c4 c5 c6 f0 f1 f2 f3 f4 f5 f6 d0 d1 cv b9 c8 cr cy cL b7 ca cz cs cc cm cu cx hr I S ac ba M u P D c9;obtain⟨c0,c1,c2,c3,c4,c5,c6⟩:=ks.c7;obtain⟨d0,d1,d2,d3,d4,d5,d6⟩:=U.c7;obtain⟨g0,g1,g2,g3,g4,g5,g6⟩:=U.f7;go_wp2_with fail;refine zr1 (.agg #[.slice A n c,.int .i64 (H.1:Nat),.int .i64 H.2.1,ae j,.slice (some ⟨gx,0,none⟩) (f+1) cap,.slice y i m,.slice B3 g d]) ?_;clear c0 c1 c2 c3 c4 c5 c6 d0 d1 d2 d3 d4 d5 d6 g0 g1 g2 g3 g4 g5 g6;have te:Tch (bI 94) C _:=fU U (by simp[bI]) rfl (.slice A n c) (.int .i64 (H.1:Nat)) (.int .i64 H.2.1) (.string ⟨j.toArray⟩) (.slice (some ⟨gx,0,none⟩) (f+1) cap) (.slice y i m) (.slice B3 g d);have be:Below w.heap.size C _:=dM (kz w.heap.size C) (show w.heap.size<=w.heap.size+1 by omega) (.slice A n c) (.int .i64 (H.1:Nat)) (.int .i64 H.2.1) (.string ⟨j.toArray⟩) (.slice (some ⟨gx,0,none⟩) (f+1) cap) (.slice y i m) (.slice B3 g d);exact⟨_,_,_,_,_,_,_,_,_,rfl,(aS).tch te (by decide) (by decide) (by decide) (by decide),by omega,(r).trans (be.mono R),(Z).own be⟩
  ·have hN:=HN.out
   rw[kl e0,kZ a]at hN;have t0:(Y==[98,111,100,121])=false:=by rw[a];decide
   have t1:(Y==[112,105,110])=true:=by rw[a];decide
   have t2:(Y==[115,108,105,100,101])=false:=by rw[a];decide
   have t3:(Y==[100,114,105,118,101,114])=false:=by rw[a];decide
   obtain⟨J,hJ⟩:=Z9 (cD l T1 T2 L.bodies false);rw[hJ]at hN;subst hN;have HJ:=Qh hJ;clear hJ e0 a HN HT K;obtain⟨c0,c1,c2,c3,c4,c5,c6⟩:=V.s.c7;have a1:=HL.out.tch (T:=fun _=>false) (Tch.below V.q) rfl rfl rfl rfl;have H8:=Qh a1;clear a1;go_wp2_with fail;(refine(ss _ B ?_ A n c l ?_ hn a2 T1 a9 T2 j k f a L.bodies H8.out.bd.bds (by omega) H8.out.pts y i m L.joints H8.out.jt (by omega) B3 g d false 0 rfl J HJ.out).mono ?_)
   ·omega
   ·exact HK.out.belw V.q
   rintro e w9⟨Aj,cj,rfl,hr,a3,O⟩;have s9:=kW V.s O (by decide);have z9:=kW V.z O (by decide);clear c0 c1 c2 c3 c4 c5 c6;obtain⟨c0,c1,c2,c3,c4,c5,c6⟩:=s9.c7;obtain⟨f0,f1,f2,f3,f4,f5,f6⟩:=s9.f7;go_upto_region 18 with fail;refine fv ?_;intro o G;have ks:Blk o w.heap.size 94 #[.slice A n c,.int .i64 (J.1:Nat),.int .i64 J.2.1,ae j,.slice k f a,.slice Aj (i+1) cj,.slice B3 g d]:=by rw[G];exact st7 s9 (.slice A n c) (.int .i64 (J.1:Nat)) (.int .i64 J.2.1) (ae j) (.slice k f a) (.slice Aj (i+1) cj) (.slice B3 g d)
   have U:Blk o (w.heap.size+1) 94 #[.slice none 0 0,.int .i64 0,.int .i64 0,.string ⟨#[]⟩,.slice none 0 0,.slice none 0 0,.slice none 0 0]:=by rw[G];exact d8 z9 (g':=w.heap.size) (by omega) (.slice A n c) (.int .i64 (J.1:Nat)) (.int .i64 J.2.1) (ae j) (.slice k f a) (.slice Aj (i+1) cj) (.slice B3 g d)
   have M:Below w.heap.size w9 o:=by rw[G];exact dM (kz w.heap.size w9) Qr (.slice A n c) (.int .i64 (J.1:Nat)) (.int .i64 J.2.1) (ae j) (.slice k f a) (.slice Aj (i+1) cj) (.slice B3 g d)
   have u:Tch (bI 94) w9 o:=by rw[G];exact fU s9 (by simp[bI]) rfl (.slice A n c) (.int .i64 (J.1:Nat)) (.int .i64 J.2.1) (ae j) (.slice k f a) (.slice Aj (i+1) cj) (.slice B3 g d)
   have aS:RfL B o k f a Aj (i+1) cj B3 g d (L.addJ J.2.2):=by
    have h1:=(H8.out.bd.tch O (by decide) fun _ _ x=>x.tch O (by decide)).tch u (by decide) fun _ _ x=>x.tch u (by decide)
    have h2:=hr.tch u (by decide) fun _ _ x=>x.any _
    have h3:=(H8.out.dr.tch O (by decide) fun _ _ x=>x.any _).tch u (by decide) fun _ _ x=>x.any _
    exact⟨h1,h2,h3,H8.out.pts⟩
   have r:Below B w o:=((V.q.mono R).trans a3).trans (M.mono R);have Z:Tch TI w o:=((Tch.below (T:=TI) V.q).trans (O.mono fun t ht=>by simp[bI]at ht;simp[TI,ht])).own M;clear G c0 c1 c2 c3 c4 c5 c6 f0 f1 f2 f3 f4 f5 f6 hr a3 O s9 z9 M u V b3 b4;obtain⟨c0,c1,c2,c3,c4,c5,c6⟩:=ks.c7;obtain⟨d0,d1,d2,d3,d4,d5,d6⟩:=U.c7;obtain⟨g0,g1,g2,g3,g4,g5,g6⟩:=U.f7;go_wp2_with fail;refine zr1 (.agg #[.slice A n c,.int .i64 (J.1:Nat),.int .i64 J.2.1,ae j,.slice k f a,.slice Aj (i+1) cj,.slice B3 g d]) ?_;clear c0 c1 c2 c3 c4 c5 c6 d0 d1 d2 d3 d4 d5 d6 g0 g1 g2 g3 g4 g5 g6;have te:Tch (bI 94) o _:=fU U (by simp[bI]) rfl (.slice A n c) (.int .i64 (J.1:Nat)) (.int .i64 J.2.1) (.string ⟨j.toArray⟩) (.slice k f a) (.slice Aj (i+1) cj) (.slice B3 g d);have be:Below w.heap.size o _:=dM (kz w.heap.size o) (show w.heap.size<=w.heap.size+1 by omega) (.slice A n c) (.int .i64 (J.1:Nat)) (.int .i64 J.2.1) (.string ⟨j.toArray⟩) (.slice k f a) (.slice Aj (i+1) cj) (.slice B3 g d);exact⟨_,_,_,_,_,_,_,_,_,rfl,(aS).tch te (by decide) (by decide) (by decide) (by decide),by omega,(r).trans (be.mono R),(Z).own be⟩
  ·have hN:=HN.out
   rw[kl e0,kl a,kZ m]at hN;have t0:(Y==[98,111,100,121])=false:=by rw[m];decide
   have t1:(Y==[112,105,110])=false:=by rw[m];decide
   have t2:(Y==[115,108,105,100,101])=true:=by rw[m];decide
   have t3:(Y==[100,114,105,118,101,114])=false:=by rw[m];decide
   obtain⟨J,hJ⟩:=Z9 (cD l T1 T2 L.bodies true);rw[hJ]at hN;subst hN;have HJ:=Qh hJ;clear hJ e0 a m HN HT K;obtain⟨c0,c1,c2,c3,c4,c5,c6⟩:=V.s.c7;have a1:=HL.out.tch (T:=fun _=>false) (Tch.below V.q) rfl rfl rfl rfl;have H8:=Qh a1;clear a1;go_wp2_with fail;(refine(ss _ B ?_ A n c l ?_ hn a2 T1 a9 T2 j k f a L.bodies H8.out.bd.bds (by omega) H8.out.pts y i m L.joints H8.out.jt (by omega) B3 g d true 1 rfl J HJ.out).mono ?_)
   ·omega
   ·exact HK.out.belw V.q
   rintro e w9⟨Aj,cj,rfl,hr,a3,O⟩;have s9:=kW V.s O (by decide);have z9:=kW V.z O (by decide);clear c0 c1 c2 c3 c4 c5 c6;obtain⟨c0,c1,c2,c3,c4,c5,c6⟩:=s9.c7;obtain⟨f0,f1,f2,f3,f4,f5,f6⟩:=s9.f7;go_upto_region 18 with fail;refine fv ?_;intro o G;have ks:Blk o w.heap.size 94 #[.slice A n c,.int .i64 (J.1:Nat),.int .i64 J.2.1,ae j,.slice k f a,.slice Aj (i+1) cj,.slice B3 g d]:=by rw[G];exact st7 s9 (.slice A n c) (.int .i64 (J.1:Nat)) (.int .i64 J.2.1) (ae j) (.slice k f a) (.slice Aj (i+1) cj) (.slice B3 g d)
   have U:Blk o (w.heap.size+1) 94 #[.slice none 0 0,.int .i64 0,.int .i64 0,.string ⟨#[]⟩,.slice none 0 0,.slice none 0 0,.slice none 0 0]:=by rw[G];exact d8 z9 (g':=w.heap.size) (by omega) (.slice A n c) (.int .i64 (J.1:Nat)) (.int .i64 J.2.1) (ae j) (.slice k f a) (.slice Aj (i+1) cj) (.slice B3 g d)
   have M:Below w.heap.size w9 o:=by rw[G];exact dM (kz w.heap.size w9) Qr (.slice A n c) (.int .i64 (J.1:Nat)) (.int .i64 J.2.1) (ae j) (.slice k f a) (.slice Aj (i+1) cj) (.slice B3 g d)
   have u:Tch (bI 94) w9 o:=by rw[G];exact fU s9 (by simp[bI]) rfl (.slice A n c) (.int .i64 (J.1:Nat)) (.int .i64 J.2.1) (ae j) (.slice k f a) (.slice Aj (i+1) cj) (.slice B3 g d)
   have aS:RfL B o k f a Aj (i+1) cj B3 g d (L.addJ J.2.2):=by
    have h1:=(H8.out.bd.tch O (by decide) fun _ _ x=>x.tch O (by decide)).tch u (by decide) fun _ _ x=>x.tch u (by decide)
    have h2:=hr.tch u (by decide) fun _ _ x=>x.any _
    have h3:=(H8.out.dr.tch O (by decide) fun _ _ x=>x.any _).tch u (by decide) fun _ _ x=>x.any _
    exact⟨h1,h2,h3,H8.out.pts⟩
   have r:Below B w o:=((V.q.mono R).trans a3).trans (M.mono R);have Z:Tch TI w o:=((Tch.below (T:=TI) V.q).trans (O.mono fun t ht=>by simp[bI]at ht;simp[TI,ht])).own M;clear G c0 c1 c2 c3 c4 c5 c6 f0 f1 f2 f3 f4 f5 f6 hr a3 O s9 z9 M u V b3 b4;obtain⟨c0,c1,c2,c3,c4,c5,c6⟩:=ks.c7;obtain⟨d0,d1,d2,d3,d4,d5,d6⟩:=U.c7;obtain⟨g0,g1,g2,g3,g4,g5,g6⟩:=U.f7;go_wp2_with fail;refine zr1 (.agg #[.slice A n c,.int .i64 (J.1:Nat),.int .i64 J.2.1,ae j,.slice k f a,.slice Aj (i+1) cj,.slice B3 g d]) ?_;clear c0 c1 c2 c3 c4 c5 c6 d0 d1 d2 d3 d4 d5 d6 g0 g1 g2 g3 g4 g5 g6;have te:Tch (bI 94) o _:=fU U (by simp[bI]) rfl (.slice A n c) (.int .i64 (J.1:Nat)) (.int .i64 J.2.1) (.string ⟨j.toArray⟩) (.slice k f a) (.slice Aj (i+1) cj) (.slice B3 g d);have be:Below w.heap.size o _:=dM (kz w.heap.size o) (show w.heap.size<=w.heap.size+1 by omega) (.slice A n c) (.int .i64 (J.1:Nat)) (.int .i64 J.2.1) (.string ⟨j.toArray⟩) (.slice k f a) (.slice Aj (i+1) cj) (.slice B3 g d);exact⟨_,_,_,_,_,_,_,_,_,rfl,(aS).tch te (by decide) (by decide) (by decide) (by decide),by omega,(r).trans (be.mono R),(Z).own be⟩
  have hN:=HN.out;rw[kl e0,kl a,kl m,kZ d]at hN;have t0:(Y==[98,111,100,121])=false:=by rw[d];decide
  have t1:(Y==[112,105,110])=false:=by rw[d];decide
  have t2:(Y==[115,108,105,100,101])=false:=by rw[d];decide
  have t3:(Y==[100,114,105,118,101,114])=true:=by rw[d];decide
  obtain⟨W,hW⟩:=Z9 (wF l T1 T2);have ei:W.1<=n:=by rw[<-hW,<-cn];exact em.2.2 (by omega)
  have bs:NmL W.2.2:=by rw[<-hW];exact oZ a2 _ _
  obtain⟨Q,hQ⟩:=Z9 (namedF l W.1 W.2.1 L.bodies);have en:Q.1<=n:=by rw[<-hQ,<-cn];exact eL.2.2 (by omega)
  obtain⟨E,hE⟩:=Z9 (eF l Q.1 Q.2.1 [59])
  have et:N=(E.1,E.2.1,L.addD ⟨W.2.2,Q.2.2⟩):=by
   rw[<-hN];unfold dB;simp only[hW,hQ,hE]
  subst et;have HW:=Qh (show takeF l T1 T2 (bZ l T1 T2 0)=W from hW);have HQ:=Qh hQ;have HE:=Qh (show takeF l Q.1 Q.2.1 (aR l Q.1 Q.2.1 [59])=E from hE);clear hW hQ hE hN e0 a m d HN HT K;obtain⟨W1,W2,W3⟩:=W;obtain⟨Q1,Q2,Q3⟩:=Q;obtain⟨E1,E2,E3⟩:=E;simp only at HW HQ HE ei en bs⊢;go_upto_region 14 with fail;refine fv ?_;intro w9 aF;have k9:SzS w w.heap.size #[.slice A n c,.int .i64 (T1:Nat),.int .i64 T2,ae j,.slice k f a,.slice y i m,.slice B3 g d] w9:=by rw[aF];exact V.alloc _
  have j9:Blk w9 w8.heap.size 81 #[.string ⟨#[]⟩,.int .i64 0]:=by rw[aF];exact Blk.new w8 _ _
  clear aF V;obtain⟨c0,c1,c2,c3,c4,c5,c6⟩:=k9.s.c7;go_wp2_with fail;(refine(iA _ A n c l ?_ hn T1 a9 T2 j k f a y i m B3 g d (W1,W2,W3) HW.out).mono ?_)
  ·exact HK.out.belw k9.q
  rintro e o⟨rfl,r⟩;have al:=k9.call r;have an:=j9.below r j9.lt;clear r c0 c1 c2 c3 c4 c5 c6 k9 j9;obtain⟨c0,c1,c2,c3,c4,c5,c6⟩:=al.s.c7;obtain⟨f0,f1,f2,f3,f4,f5,f6⟩:=al.s.f7;obtain⟨d0,d1⟩:=an.c2;obtain⟨g0,g1⟩:=an.f2;go_upto_region 15 with fail;refine fv ?_;intro ad X;have ab:SzS w w.heap.size #[.slice A n c,.int .i64 (W1:Nat),.int .i64 W2,ae j,.slice k f a,.slice y i m,.slice B3 g d] ad:=by rw[X];exact(al.st (.slice A n c) (.int .i64 (W1:Nat)) (.int .i64 W2) (ae j) (.slice k f a) (.slice y i m) (.slice B3 g d)).far (by omega) 0 (ae W3)
  have ck:Blk ad w8.heap.size 81 #[ae W3,.int .i64 0]:=by rw[X];exact(d8 an (g':=w.heap.size) (by omega) (.slice A n c) (.int .i64 (W1:Nat)) (.int .i64 W2) (ae j) (.slice k f a) (.slice y i m) (.slice B3 g d)).set_ 0 (ae W3)
  clear X c0 c1 c2 c3 c4 c5 c6 f0 f1 f2 f3 f4 f5 f6 d0 d1 g0 g1 al an;obtain⟨c0,c1,c2,c3,c4,c5,c6⟩:=ab.s.c7;go_wp2_with fail;(refine(sq _ A n c l ?_ hn W1 ei W2 j k f a L.bodies ?_ (by omega) y i m B3 g d (Q1,Q2,Q3) HQ.out).mono ?_)
  ·exact HK.out.belw ab.q
  ·exact(HL.out.tch (T:=fun _=>false) (Tch.below ab.q) rfl rfl rfl rfl).bd.bds
  rintro e ez⟨rfl,S⟩;have bY:=ab.call S;have bz:=ck.below S ck.lt;clear S c0 c1 c2 c3 c4 c5 c6 ab ck;obtain⟨c0,c1,c2,c3,c4,c5,c6⟩:=bY.s.c7;obtain⟨f0,f1,f2,f3,f4,f5,f6⟩:=bY.s.f7;obtain⟨d0,d1⟩:=bz.c2;obtain⟨g0,g1⟩:=bz.f2;go_upto_region 16 with fail;refine fv ?_;intro el a7;have bF:SzS w w.heap.size #[.slice A n c,.int .i64 (Q1:Nat),.int .i64 Q2,ae j,.slice k f a,.slice y i m,.slice B3 g d] el:=by rw[a7];exact(bY.st (.slice A n c) (.int .i64 (Q1:Nat)) (.int .i64 Q2) (ae j) (.slice k f a) (.slice y i m) (.slice B3 g d)).far (by omega) 1 (.int .i64 Q3)
  have cp:Blk el w8.heap.size 81 #[ae W3,.int .i64 Q3]:=by rw[a7];exact(d8 bz (g':=w.heap.size) (by omega) (.slice A n c) (.int .i64 (Q1:Nat)) (.int .i64 Q2) (ae j) (.slice k f a) (.slice y i m) (.slice B3 g d)).set_ 1 (.int .i64 Q3)
  clear a7 c0 c1 c2 c3 c4 c5 c6 f0 f1 f2 f3 f4 f5 f6 d0 d1 g0 g1 bY bz;obtain⟨c0,c1,c2,c3,c4,c5,c6⟩:=bF.s.c7;go_wp2_with fail;(refine(dA _ A n c l ?_ hn Q1 en Q2 j k f a y i m B3 g d [59] (E1,E2,E3) HE.out).mono ?_)
  ·exact HK.out.belw bF.q
  rintro e ey⟨rfl,bk⟩;have bu:=bF.call bk;have bv:=cp.below bk cp.lt;clear bk c0 c1 c2 c3 c4 c5 c6 bF cp;obtain⟨c0,c1,c2,c3,c4,c5,c6⟩:=bu.s.c7;obtain⟨f0,f1,f2,f3,f4,f5,f6⟩:=bu.s.f7;obtain⟨d0,d1⟩:=bv.c2;obtain⟨g0,g1⟩:=bv.f2;go_upto_region 17 with fail;refine fv ?_;intro aZ a8;have a4:SzS w w.heap.size #[.slice A n c,.int .i64 (E1:Nat),.int .i64 E2,ae j,.slice k f a,.slice y i m,.slice B3 g d] aZ:=by rw[a8];exact bu.st (.slice A n c) (.int .i64 (E1:Nat)) (.int .i64 E2) (ae j) (.slice k f a) (.slice y i m) (.slice B3 g d)
  have ej:Blk aZ w8.heap.size 81 #[ae W3,.int .i64 Q3]:=by rw[a8];exact d8 bv (g':=w.heap.size) (by omega) (.slice A n c) (.int .i64 (E1:Nat)) (.int .i64 E2) (ae j) (.slice k f a) (.slice y i m) (.slice B3 g d)
  clear a8 c0 c1 c2 c3 c4 c5 c6 f0 f1 f2 f3 f4 f5 f6 d0 d1 g0 g1 bu bv;have b0:=HL.out.tch (T:=fun _=>false) (Tch.below a4.q) rfl rfl rfl rfl;have bx:=Qh b0;have ks:=a4.s;have U:=a4.z;have kb:=a4.q;have kj:=ej;clear b0 a4 ej;have ew:=kb.size;obtain⟨b8,xs,ao,aC⟩:=bx.out.dr;have HO:=Qh ao;have b5:=Qh aC;have KS:=Qh ks;have KZ:=Qh U;have di:=ks.lt;have dq:=U.lt;have ed:¬w.heap.size=aZ.heap.size:=by omega
  have eo:¬w8.heap.size=aZ.heap.size:=by have:=kj.lt;omega
  obtain⟨c0,c1,c2,c3,c4,c5,c6⟩:=ks.c7;obtain⟨f0,f1,f2,f3,f4,f5,f6⟩:=ks.f7;obtain⟨d0,d1⟩:=kj.c2;obtain⟨i0,a6,bb,bo,a5⟩:=Gb uG;have HI:=Qh (And.intro a6 (And.intro bb (And.intro bo a5)));clear ao aC ks U a6 bb bo a5;go_upto_region 18 with(at_builtin;(refine bK _ rfl noW _ _ _ rfl B 81 i0 (.agg #[.string ⟨#[]⟩,.int .i64 0]) 2 24 Tryz.underlying34 HI.out.1 HI.out.2.1 HI.out.2.2.1 HI.out.2.2.2 rfl (by omega) rfl _ g xs rfl (HO.out.belw ((kz _ _).alloc Qr _)) ⟨aZ.heap.size,0,none⟩ 1 1 [_,_] rfl rfl (l8 rfl _ _) (by simp[Value.oneCell']) rfl (by omega) (by unfold maxLen;omega) (by omega) (by simp;omega) ?_);intro gx cap aT P D c9;have ac:=(KS.out.alloc (.cells #[ae W3,.int .i64 Q3] 81)).grown D (gL HO.out KS.out (by decide));have ba:=(KZ.out.alloc (.cells #[ae W3,.int .i64 Q3] 81)).grown D (gL HO.out KZ.out (by decide));obtain⟨cv,b9,c8,cr,cy,cL,b7⟩:=ac.c7;obtain⟨ca,cz,cs,cc,cm,cu,cx⟩:=ac.f7);have co:=fS b8 HO.out b5.out (show DrC aZ [ae W3,.int .i64 Q3] ⟨W3,Q3⟩ from⟨rfl,bs⟩) rfl P D (by omega) (fun _ _ _ _ x=>x.any _);obtain⟨hr,I,S⟩:=co;have VS:∃vs:Value,vs=.slice (some ⟨gx,0,none⟩) (g+1) cap:=⟨_,rfl⟩;refine fv ?_;intro C F;have ks:Blk C w.heap.size 94 #[.slice A n c,.int .i64 (E1:Nat),.int .i64 E2,ae j,.slice k f a,.slice y i m,.slice (some ⟨gx,0,none⟩) (g+1) cap]:=by rw[F];exact ac.s76 _
  have U:Blk C (w.heap.size+1) 94 #[.slice none 0 0,.int .i64 0,.int .i64 0,.string ⟨#[]⟩,.slice none 0 0,.slice none 0 0,.slice none 0 0]:=by rw[F];exact ba.far (p:=⟨w.heap.size,6,none⟩) (by show w.heap.size+1≠w.heap.size;omega) _
  have M:Below w.heap.size aT C:=by rw[F];exact(kz w.heap.size aT).setCell (p:=⟨w.heap.size,6,none⟩) Qr _
  have u:Tch (bI 94) aT C:=by rw[F];exact Tch.set ac (by simp[bI]) rfl 6 _
  have aS:RfL B C k f a y i m (some ⟨gx,0,none⟩) (g+1) cap (L.addD ⟨W3,Q3⟩):=by
   have h1:=(bx.out.bd.tch I (by decide) fun _ _ x=>x.tch I (by decide)).tch u (by decide) fun _ _ x=>x.tch u (by decide)
   have h2:=(bx.out.jt.tch I (by decide) fun _ _ x=>x.any _).tch u (by decide) fun _ _ x=>x.any _
   have h3:=hr.tch u (by decide) fun _ _ x=>x.any _
   exact⟨h1,h2,h3,bx.out.pts⟩
  have r:Below B w C:=((kb.mono R).trans S).trans (M.mono R);have Z:Tch TI w C:=((Tch.below (T:=TI) kb).trans (I.mono fun t ht=>by simp[bI]at ht;simp[TI,ht])).own M;clear F c0 c1 c2 c3 c4 c5 c6 f0 f1 f2 f3 f4 f5 f6 d0 d1 cv b9 c8 cr cy cL b7 ca cz cs cc cm cu cx hr I S ac ba M u P D c9;obtain⟨c0,c1,c2,c3,c4,c5,c6⟩:=ks.c7;obtain⟨d0,d1,d2,d3,d4,d5,d6⟩:=U.c7;obtain⟨g0,g1,g2,g3,g4,g5,g6⟩:=U.f7;go_wp2_with fail;refine zr1 (.agg #[.slice A n c,.int .i64 (E1:Nat),.int .i64 E2,ae j,.slice k f a,.slice y i m,.slice (some ⟨gx,0,none⟩) (g+1) cap]) ?_;clear c0 c1 c2 c3 c4 c5 c6 d0 d1 d2 d3 d4 d5 d6 g0 g1 g2 g3 g4 g5 g6;have te:Tch (bI 94) C _:=fU U (by simp[bI]) rfl (.slice A n c) (.int .i64 (E1:Nat)) (.int .i64 E2) (.string ⟨j.toArray⟩) (.slice k f a) (.slice y i m) (.slice (some ⟨gx,0,none⟩) (g+1) cap);have be:Below w.heap.size C _:=dM (kz w.heap.size C) (show w.heap.size<=w.heap.size+1 by omega) (.slice A n c) (.int .i64 (E1:Nat)) (.int .i64 E2) (.string ⟨j.toArray⟩) (.slice k f a) (.slice y i m) (.slice (some ⟨gx,0,none⟩) (g+1) cap);exact⟨_,_,_,_,_,_,_,_,_,rfl,(aS).tch te (by decide) (by decide) (by decide) (by decide),by omega,(r).trans (be.mono R),(Z).own be⟩
theorem RfL.lkY{B:Nat}{w:World}{b d c:Option Addr}{f c1 i c2 a c3:Nat}{L:am}(h:RfL B w b f c1 d i c2 c a c3 L)(n:NmL L.name):LkY 500 w b f c1 d i c2 c a c3 L:=by
 intro T o t l j m k;have g:=h.tch t l j m k;exact⟨n,g.bd.bds,g.jt.jts,g.dr.drs⟩
def D0(w:World)(x:Int)(L:am)(e:Ending)(w':World):Prop :=
  ∃A n c A' n' c' A'' n'' c'',e=.returned (.tuple #[.agg #[ae L.name,.slice A n c,.slice A' n' c',.slice A'' n'' c''],.int .i64 x])/\LkY 500 w' A n c A' n' c' A'' n'' c'' L/\Below w.heap.size w w'
theorem pf{l:List Tkn}:∀(f p:Nat) (x:Int) (a:List aB),p<=(cR l f p x a).1/\((cR l f p x a).2.1=0->x=0)
 |0,p,x,a=>⟨Qr,fun h=>h⟩
 |f+1,p,x,a=>by
  by_cases h:x=0/\aR l p x [125]=false
  ·rw[dw (by omega) h]
   have c:=pf (l:=l) (f+1-1) (mkF l p x).1 (mkF l p x).2.1 (a++[(mkF l p x).2.2]);have b:=pZ (l:=l) (p:=p) (x:=x);exact⟨Nat.le_trans b.1 c.1,fun _=>h.1⟩
  rw[cA h];exact⟨Qr,fun h=>h⟩
theorem su{l:List Tkn}{p:Nat}{x:Int}:p<=(dT l p x).1/\((dT l p x).2.1=0->x=0):=by
 have c:=em (l:=l) (p:=p) (x:=x);have a:=dH (l:=l) (p:=(wF l p x).1) (x:=(wF l p x).2.1) (t:=[123]);have d:=pf (l:=l) (l.length+1) (eF l (wF l p x).1 (wF l p x).2.1 [123]).1 (eF l (wF l p x).1 (wF l p x).2.1 [123]).2.1 [];have b:=dH (l:=l) (p:=(cR l (l.length+1) (eF l (wF l p x).1 (wF l p x).2.1 [123]).1 (eF l (wF l p x).1 (wF l p x).2.1 [123]).2.1 []).1) (x:=(cR l (l.length+1) (eF l (wF l p x).1 (wF l p x).2.1 [123]).1 (eF l (wF l p x).1 (wF l p x).2.1 [123]).2.1 []).2.1) (t:=[125]);refine⟨Nat.le_trans c.1 (Nat.le_trans a.1 (Nat.le_trans d.1 b.1)),fun k=>?_⟩;exact(c.2.1 (a.2.1 (d.2 (b.2.1 k).1)).1).1
theorem jR{l:List Tkn}{p:Nat}{x:Int}{bs:List aq}{a:Bool}:p<=(cD l p x bs a).1/\((cD l p x bs a).2.1=0->x=0):=by
 unfold cD;simp only;have d:=em (l:=l) (p:=p) (x:=x);generalize wF l p x=W at d⊢;have c:=cS (l:=l) (p:=W.1) (x:=W.2.1) (bs:=bs) (only:=-1);generalize fullF l W.1 W.2.1 bs (-1)=FA at c⊢;have b:=cS (l:=l) (p:=FA.1) (x:=FA.2.1) (bs:=bs) (only:=-1);generalize fullF l FA.1 FA.2.1 bs (-1)=FB at b⊢
 have key:∀F:Nat × Int × Int × Int,FB.1<=F.1->(F.2.1=0->FB.2.1=0)->p<=(eF l F.1 F.2.1 [59]).1/\((eF l F.1 F.2.1 [59]).2.1=0->x=0):=by
  intro F i g;have h:=dH (l:=l) (p:=F.1) (x:=F.2.1) (t:=[59]);exact⟨by omega,fun k=>(d.2.1 (c.2.1 (b.2.1 (g (h.2.1 k).1)).1).1).1⟩
 cases a
 ·exact key (FB.1,FB.2.1,0,0) Qr id
 have f:=cS (l:=l) (p:=FB.1) (x:=FB.2.1) (bs:=bs) (only:=FB.2.2.1);exact key _ f.1 fun k=>(f.2.1 k).1
theorem nl{l:List Tkn}{p:Nat}{x:Int}{bs:List aq}:p<=(dB l p x bs).1/\((dB l p x bs).2.1=0->x=0):=by
 have b:=em (l:=l) (p:=p) (x:=x);have a:=eL (l:=l) (p:=(wF l p x).1) (x:=(wF l p x).2.1) (bs:=bs);have c:=dH (l:=l) (p:=(namedF l (wF l p x).1 (wF l p x).2.1 bs).1) (x:=(namedF l (wF l p x).1 (wF l p x).2.1 bs).2.1) (t:=[59]);exact⟨Nat.le_trans b.1 (Nat.le_trans a.1 c.1),fun k=>(b.2.1 (a.2.1 (c.2.1 k).1).1).1⟩
theorem An{l:List Tkn}{p:Nat}{x:Int}{L:am}:p<=(dk l p x L).1/\((dk l p x L).2.1=0->p<(dk l p x L).1):=by
 have h:=fu (l:=l) (p:=p) (x:=x) (may:=gN l p x);unfold dk;simp only;generalize takeF l p x (gN l p x)=T at h⊢;have key:∀(q:Nat) (y:Int),T.1<=q->(y=0->T.2.1=0)->p<=q/\(y=0->p<q):=fun q y b a=>⟨by omega,fun k=>by have:=(h.2 (a k)).2;omega⟩
 split
 ·exact key _ _ su.1 su.2
 split
 ·exact key _ _ jR.1 jR.2
 split
 ·exact key _ _ jR.1 jR.2
 split
 ·exact key _ _ nl.1 nl.2
 exact key _ _ Qr id
theorem tE{l:List Tkn}{p:Nat}{x:Int}{L:am}:(dk l p x L).2.2.name=L.name:=by
 unfold dk;simp only;split
 ·rfl
 split
 ·rfl
 split
 ·rfl
 split<;>rfl
structure LpS (w1:World) (gs gr:Nat) (A:Option Addr) (n c:Nat) (nm:List UInt8) (wr:World) (p:Nat) (x:Int) (L:am) (A1:Option Addr) (n1 c1:Nat) (A2:Option Addr) (n2 c2:Nat) (A3:Option Addr) (n3 c3:Nat):Prop where
  s:Blk wr gs 94 #[.slice A n c,.int .i64 (p:Nat),.int .i64 x,ae nm,.slice A1 n1 c1,.slice A2 n2 c2,.slice A3 n3 c3]
  r:Blk wr gr 36 #[.string ⟨#[]⟩,.slice none 0 0,.slice none 0 0,.slice none 0 0]
  f:RfL gs wr A1 n1 c1 A2 n2 c2 A3 n3 c3 L
  cnt:n1+n2+n3<=p+1/\(x=0->n1+n2+n3<=p)
  p:p<=n
  q:Below gs w1 wr
  nm:L.name=nm
theorem tF(w:World)(s:List UInt8)(x:Int)(l:List Tkn)(hs:bi s x l)(R:Int × am)(m:uQ l x=R):Calls Tryz.prog 16 #[ae s] w (D0 w R.1 R.2):=by
 obtain⟨E,hE⟩:=Z9 (eF l 0 x bW);obtain⟨W,hW⟩:=Z9 (wF l E.1 E.2.1);obtain⟨Y,M⟩:=Z9 (eF l W.1 W.2.1 [59]);obtain⟨I,hI⟩:=Z9 (itemsF l (l.length+1) Y.1 Y.2.1 ⟨W.2.2,[],[],[]⟩);unfold uQ at m;simp only[hE,hW,M,hI]at m;have z:=hs.len;have aS:=Qh (tB hs);have r:E.1<=l.length:=by rw[<-hE];exact dH.2.2 (Nat.zero_le _)
 have t:W.1<=l.length:=by rw[<-hW];exact em.2.2 r
 have o:Y.1<=l.length:=by rw[<-M];exact dH.2.2 t
 have aT:=Qh (show NmL W.2.2 by rw[<-hW];exact oZ aS.out _ _);have HS:=Qh hs;have HR:=Qh m;have HE:=Qh (show takeF l 0 x (aR l 0 x [108,105,110,107,97,103,101])=E from hE);have HW:=Qh (show takeF l E.1 E.2.1 (bZ l E.1 E.2.1 0)=W from hW);have an:=Qh (show takeF l W.1 W.2.1 (aR l W.1 W.2.1 [59])=Y from M);have ac:=Qh hI;clear hs m hE hW M hI;go_in;go_wp2_with fail;have x0:=Blk.new w 36 #[.string ⟨#[]⟩,.slice none 0 0,.slice none 0 0,.slice none 0 0];have q0:=(aa w).alloc Qr (.cells #[.string ⟨#[]⟩,.slice none 0 0,.slice none 0 0,.slice none 0 0] 36);generalize w.alloc (.cells #[.string ⟨#[]⟩,.slice none 0 0,.slice none 0 0,.slice none 0 0] 36)=w0 at x0 q0⊢;(refine(wH w0 s x l HS.out).mono ?_);rintro e C⟨A,n,c,rfl,hT,ao⟩;have q1:=q0.trans (ao.mono q0.size);have x1:=x0.below ao x0.lt;have D:=hT.1;have HK:=Qh hT;clear ao q0 x0 hT;go_upto_region 3 with fail;refine fv ?_;intro w2 J;have k2:Below C.heap.size C w2:=by rw[J];exact(aa C).alloc Qr _
 have s2:Blk w2 C.heap.size 94 #[.slice A n c,.int .i64 (0:Nat),.int .i64 x,.string ⟨#[]⟩,.slice none 0 0,.slice none 0 0,.slice none 0 0]:=by rw[J];exact Blk.new C _ _
 have r2:Blk w2 w.heap.size 36 #[.string ⟨#[]⟩,.slice none 0 0,.slice none 0 0,.slice none 0 0]:=by rw[J];exact x1.alloc _
 clear J;obtain⟨a,aZ⟩:∃g,C.heap.size=g:=⟨_,rfl⟩;have bu:w.heap.size<a:=by have:=x1.lt;omega
 clear x1;rw[aZ]at k2 s2⊢;have HK:Hid (∀wr,Below a C wr->TkS wr A n c l):=Qh fun wr hb=>HK.out.belw (by rw[aZ];exact hb)
 obtain⟨E0,E1,E9⟩:=E;obtain⟨W0,W1,j⟩:=W;obtain⟨F0,F1,F9⟩:=Y;simp only at HE HW an ac aT r t o;rw[D]at z r t o;obtain⟨c0,c1,c2,c3,c4,c5,c6⟩:=s2.c7;go_wp2_with fail;(refine(dA w2 A n c l ?_ z 0 (Nat.zero_le _) x [] none 0 0 none 0 0 none 0 0 [108,105,110,107,97,103,101] (E0,E1,E9) HE.out).mono ?_)
 ·exact HK.out _ k2
 rintro e w3⟨rfl,N⟩;have k3:=k2.trans (N.mono (by have:=s2.lt;omega));have s3:=s2.below N s2.lt;have r3:=r2.below N r2.lt;clear N c0 c1 c2 c3 c4 c5 c6 s2 r2 k2;obtain⟨c0,c1,c2,c3,c4,c5,c6⟩:=s3.c7;obtain⟨f0,f1,f2,f3,f4,f5,f6⟩:=s3.f7;go_upto_region 4 with fail;refine fv ?_;intro w4 H;have k4:Below a C w4:=by rw[H];exact dM k3 (Nat.le_refl a) (.slice A n c) (.int .i64 (E0:Nat)) (.int .i64 E1) (ae []) (.slice none 0 0) (.slice none 0 0) (.slice none 0 0)
 have s4:Blk w4 a 94 #[.slice A n c,.int .i64 (E0:Nat),.int .i64 E1,ae [],.slice none 0 0,.slice none 0 0,.slice none 0 0]:=by rw[H];exact st7 s3 (.slice A n c) (.int .i64 (E0:Nat)) (.int .i64 E1) (ae []) (.slice none 0 0) (.slice none 0 0) (.slice none 0 0)
 have r4:Blk w4 w.heap.size 36 #[.string ⟨#[]⟩,.slice none 0 0,.slice none 0 0,.slice none 0 0]:=by rw[H];exact d8 r3 (g':=a) (by omega) (.slice A n c) (.int .i64 (E0:Nat)) (.int .i64 E1) (ae []) (.slice none 0 0) (.slice none 0 0) (.slice none 0 0)
 clear H c0 c1 c2 c3 c4 c5 c6 f0 f1 f2 f3 f4 f5 f6 s3 r3 k3;obtain⟨c0,c1,c2,c3,c4,c5,c6⟩:=s4.c7;go_wp2_with fail;(refine(iA _ A n c l ?_ z E0 r E1 [] none 0 0 none 0 0 none 0 0 (W0,W1,j) HW.out).mono ?_)
 ·exact HK.out _ k4
 rintro e w5⟨rfl,P⟩;have k5:=k4.trans (P.mono (by have:=s4.lt;omega));have s5:=s4.below P s4.lt;have r5:=r4.below P r4.lt;clear P c0 c1 c2 c3 c4 c5 c6 s4 r4 k4;obtain⟨c0,c1,c2,c3,c4,c5,c6⟩:=s5.c7;obtain⟨f0,f1,f2,f3,f4,f5,f6⟩:=s5.f7;go_upto_region 5 with fail;refine fv ?_;intro w6 G;have k6:Below a C w6:=by rw[G];exact(dM k5 (Nat.le_refl a) (.slice A n c) (.int .i64 (W0:Nat)) (.int .i64 W1) (ae []) (.slice none 0 0) (.slice none 0 0) (.slice none 0 0)).setCell (p:=⟨a,3,none⟩) Qr (ae j)
 have s6:Blk w6 a 94 #[.slice A n c,.int .i64 (W0:Nat),.int .i64 W1,ae j,.slice none 0 0,.slice none 0 0,.slice none 0 0]:=by rw[G];exact(st7 s5 (.slice A n c) (.int .i64 (W0:Nat)) (.int .i64 W1) (ae []) (.slice none 0 0) (.slice none 0 0) (.slice none 0 0)).set_ 3 (ae j)
 have r6:Blk w6 w.heap.size 36 #[.string ⟨#[]⟩,.slice none 0 0,.slice none 0 0,.slice none 0 0]:=by rw[G];exact(d8 r5 (g':=a) (by omega) (.slice A n c) (.int .i64 (W0:Nat)) (.int .i64 W1) (ae []) (.slice none 0 0) (.slice none 0 0) (.slice none 0 0)).far (p:=⟨a,3,none⟩) (by show w.heap.size≠a;omega) (ae j)
 clear G c0 c1 c2 c3 c4 c5 c6 f0 f1 f2 f3 f4 f5 f6 s5 r5 k5;obtain⟨c0,c1,c2,c3,c4,c5,c6⟩:=s6.c7;go_wp2_with fail;(refine(dA _ A n c l ?_ z W0 t W1 j none 0 0 none 0 0 none 0 0 [59] (F0,F1,F9) an.out).mono ?_)
 ·exact HK.out _ k6
 rintro e w7⟨rfl,U⟩;have k7:=k6.trans (U.mono (by have:=s6.lt;omega));have s7:=s6.below U s6.lt;have r7:=r6.below U r6.lt;clear U c0 c1 c2 c3 c4 c5 c6 s6 r6 k6;obtain⟨c0,c1,c2,c3,c4,c5,c6⟩:=s7.c7;obtain⟨f0,f1,f2,f3,f4,f5,f6⟩:=s7.f7;go_upto_region 6 with fail;refine fv ?_;intro w8 O;have k8:Below a C w8:=by rw[O];exact dM k7 (Nat.le_refl a) (.slice A n c) (.int .i64 (F0:Nat)) (.int .i64 F1) (ae j) (.slice none 0 0) (.slice none 0 0) (.slice none 0 0)
 have s8:Blk w8 a 94 #[.slice A n c,.int .i64 (F0:Nat),.int .i64 F1,ae j,.slice none 0 0,.slice none 0 0,.slice none 0 0]:=by rw[O];exact st7 s7 (.slice A n c) (.int .i64 (F0:Nat)) (.int .i64 F1) (ae j) (.slice none 0 0) (.slice none 0 0) (.slice none 0 0)
 have r8:Blk w8 w.heap.size 36 #[.string ⟨#[]⟩,.slice none 0 0,.slice none 0 0,.slice none 0 0]:=by rw[O];exact d8 r7 (g':=a) (by omega) (.slice A n c) (.int .i64 (F0:Nat)) (.int .i64 F1) (ae j) (.slice none 0 0) (.slice none 0 0) (.slice none 0 0)
 clear O c0 c1 c2 c3 c4 c5 c6 f0 f1 f2 f3 f4 f5 f6 s7 r7 k7;go_loopw [] (fun wr=>∃f p x L X n1 c1 A2 n2 c2 A3 n3 c3,LpS C a w.heap.size A n c j wr p x L X n1 c1 A2 n2 c2 A3 n3 c3/\Hid (itemsF l f p x L=I)/\(x=0->n<f+p)) (fun wr=>mS a n wr)
 case atStart=>exact⟨l.length+1,F0,F1,⟨j,[],[],[]⟩,none,0,0,none,0,0,none,0,0,⟨s8,r8,⟨bc.nil,bc.nil,bc.nil,fun b hb=>by cases hb⟩,⟨by omega,fun _=>by omega⟩,o,k8,rfl⟩,ac,fun _=>by omega⟩
 case round =>
  clear s8 r8 k8 ac HE HW an r t o;rename World=>wr;obtain⟨f,p,x,L,X,n1,c1,A2,n2,c2,A3,n3,c3,HP,HI,hf⟩:=hrel;obtain⟨s9,r9,f9,aC,hp,q9,K⟩:=HP;have HF:=Qh f9;have S:=Qh s9;have q:=Qh r9;have al:=Qh K;have bn:=s9.lt;obtain⟨y0,y1,y2,y3,y4,y5,y6⟩:=s9.c7;obtain⟨g0,g1,g2,g3,g4,g5,g6⟩:=s9.f7;clear s9 r9 f9 K;by_cases Z:x=0
  ·subst Z
   by_cases aF:p<n
   ·have u1:((p:Int)<(n:Int))=True:=by simp;omega
    obtain⟨Q,hQ⟩:=Z9 (dk l p 0 L)
    have a0:itemsF l (f-1) Q.1 Q.2.1 Q.2.2=I:=by
     rw[<-hQ,<-pd (by omega) ⟨rfl,by rw[D];exact aF⟩];exact HI.out
    have bd:=Qh a0;have B:=An (l:=l) (p:=p) (x:=0) (L:=L);have ad:=sn (l:=l) (p:=p) (x:=0) (L:=L) (by rw[D];exact hp);have bb:Q.2.2.name=j:=by rw[<-hQ,tE];exact al.out
    rw[hQ]at B ad;rw[D]at ad;have HQ:=Qh hQ;clear hQ a0 HI;go_wp2_with fail;(refine(Ct _ a (by omega) A n c l ?_ z aS.out p hp 0 j X n1 c1 A2 n2 c2 A3 n3 c3 L HF.out (by omega) Q HQ.out).mono ?_)
    ·exact HK.out _ q9
    rintro e bg⟨B1,m1,d1,B2,m2,d2,B3,m3,d3,rfl,a2,bo,d,a1⟩;have i:=kW S.out a1 (by decide);have u:=q.out.below d (by omega);clear y0 y1 y2 y3 y4 y5 y6 g0 g1 g2 g3 g4 g5 g6;obtain⟨y0,y1,y2,y3,y4,y5,y6⟩:=i.c7;obtain⟨g0,g1,g2,g3,g4,g5,g6⟩:=i.f7;go_wp2_with fail;have V:=st7 i (.slice A n c) (.int .i64 (Q.1:Nat)) (.int .i64 Q.2.1) (.string ⟨j.toArray⟩) (.slice B1 m1 d1) (.slice B2 m2 d2) (.slice B3 m3 d3);go_roundw
    case rel =>
     have bs:=aC.2 (by trivial);have bv:=hf (by trivial);have br:=B.1;refine⟨f-1,Q.1,Q.2.1,Q.2.2,B1,m1,d1,B2,m2,d2,B3,m3,d3,⟨V,d8 u (g':=a) (by omega) (.slice A n c) (.int .i64 (Q.1:Nat)) (.int .i64 Q.2.1) (.string ⟨j.toArray⟩) (.slice B1 m1 d1) (.slice B2 m2 d2) (.slice B3 m3 d3),a2.tch (fU (T:=bI 94) i (by simp[bI]) rfl (.slice A n c) (.int .i64 (Q.1:Nat)) (.int .i64 Q.2.1) (.string ⟨j.toArray⟩) (.slice B1 m1 d1) (.slice B2 m2 d2) (.slice B3 m3 d3)) (by decide) (by decide) (by decide) (by decide),⟨by omega,fun h=>by have:=B.2 h;omega⟩,ad,dM (q9.trans d) (Nat.le_refl a) (.slice A n c) (.int .i64 (Q.1:Nat)) (.int .i64 Q.2.1) (.string ⟨j.toArray⟩) (.slice B1 m1 d1) (.slice B2 m2 d2) (.slice B3 m3 d3),bb⟩,bd,fun h=>by have:=B.2 h;omega⟩
    case measure =>
     have e1:=uP (n:=n) V;have e2:=uP (n:=n) S.out;refine Nat.lt_of_lt_of_eq (Nat.lt_of_le_of_lt (Nat.le_of_eq e1) ?_) e2.symm;rw[kZ rfl];by_cases hz:Q.2.1=0
     ·have h9:=B.2 hz
      rw[kZ hz];omega
     rw[kl hz];omega
   have u1:((p:Int)<(n:Int))=False:=by simp;omega
   have ab:I=(p,0,L):=by rw[<-HI.out];exact fw (fun k=>by rw[D]at k;omega)
   subst ab;have m:=HR.out;simp only[GY]at m;have a4:=HF.out.lkY (by rw[al.out];exact aT.out);have a7:=Qh a4;obtain⟨y,hy⟩:=Z9 (bN L);rw[hy]at m;have HY:=Qh hy;have a5:=Qh m;obtain⟨Ln,Lb,Lj,Ld⟩:=L;have K:Ln=j:=al.out;subst K;clear HI HR a4 hy m aF;go_wp2_with fail;(refine(pV _ X n1 c1 A2 n2 c2 A3 n3 c3 ⟨Ln,Lb,Lj,Ld⟩ 500 a7.out.out (by decide) (by decide) y HY.out).mono ?_);rintro e bg⟨rfl,d⟩;have i:=S.out.below d S.out.lt;have u:=q.out.below d q.out.lt;have a6:=q9.trans (d.mono (by omega));have l10:=a7.out.tch (T:=fun _=>false) (Tch.below d) rfl rfl rfl rfl;have a3:=Qh l10;clear y0 y1 y2 y3 y4 y5 y6 g0 g1 g2 g3 g4 g5 g6 d l10;obtain⟨y0,y1,y2,y3,y4,y5,y6⟩:=i.c7;obtain⟨g0,g1,g2,g3,g4,g5,g6⟩:=i.f7;obtain⟨c0,bk,bl,a8⟩:=u.c4;obtain⟨f0,f1,f2,f3⟩:=u.f4;have ba:=i.lt;by_cases F:y=0
   ·subst F
    have m:=a5.out;rw[kl (by simp)]at m;subst m;go_wp2_with fail;refine zr1 (.tuple #[.agg #[ae Ln,.slice X n1 c1,.slice A2 n2 c2,.slice A3 n3 c3],.int .i64 0]) ?_;have te:=Tch.set i (T:=bI 94) (by simp[bI]) rfl 2 (.int .i64 0);have a9:=u.far (p:=⟨a,2,none⟩) (by show w.heap.size≠a;omega) (.int .i64 0);have tr:=zJ a9 ⟨rfl,rfl,rfl,rfl⟩ (.string ⟨Ln.toArray⟩) (.slice X n1 c1) (.slice A2 n2 c2) (.slice A3 n3 c3);exact⟨_,_,_,_,_,_,_,_,_,rfl,(a3.out.tch te (by decide) (by decide) (by decide) (by decide)).tch tr (by decide) (by decide) (by decide) (by decide),gM ((q1.trans (a6.mono (by omega))).setCell (p:=⟨a,2,none⟩) (by show w.heap.size<=a;omega) (.int .i64 0)) Qr (.string ⟨Ln.toArray⟩) (.slice X n1 c1) (.slice A2 n2 c2) (.slice A3 n3 c3)⟩
   have t1:(y==0)=false:=it.2 F;have t2:(y=0)=False:=oK F;have t3:(y != 0)=true:=by unfold bne;rw[t1];rfl
   have m:=a5.out;rw[kZ F]at m;subst m;clear F;go_wp2_with fail;go_region
   all_goals
    go_wp2_with fail;refine zr1 (.tuple #[.agg #[.string ⟨#[]⟩,.slice none 0 0,.slice none 0 0,.slice none 0 0],.int .i64 y]) ?_;have be:=gM ((q1.trans (a6.mono (by omega))).setCell (p:=⟨a,2,none⟩) (by show w.heap.size<=a;omega) (.int .i64 y)) Qr (.string ⟨#[]⟩) (.slice none 0 0) (.slice none 0 0) (.slice none 0 0);exact⟨none,0,0,none,0,0,none,0,0,rfl,LkY.zero _ _,by first|exact be.drew|exact be⟩
  have t1:(x==0)=false:=it.2 Z;have t2:(x=0)=False:=oK Z;have t3:(x != 0)=true:=by unfold bne;rw[t1];rfl
  have ab:I=(p,x,L):=by rw[<-HI.out];exact fw (fun k=>Z k.1)
  subst ab;have m:=HR.out;simp only at m;rw[kl Z,kZ Z]at m;subst m;obtain⟨c0,bk,bl,a8⟩:=q.out.c4;obtain⟨f0,f1,f2,f3⟩:=q.out.f4;clear Z HR HI;go_wp2_with fail;go_region
  all_goals
   go_wp2_with fail;refine zr1 (.tuple #[.agg #[.string ⟨#[]⟩,.slice none 0 0,.slice none 0 0,.slice none 0 0],.int .i64 x]) ?_;have be:=gM (q1.trans (q9.mono (by omega))) Qr (.string ⟨#[]⟩) (.slice none 0 0) (.slice none 0 0) (.slice none 0 0);exact⟨none,0,0,none,0,0,none,0,0,rfl,LkY.zero _ _,by first|exact be.drew|exact be⟩
end Go.Proofs.YtfilnhompchciaaGreatDoor
