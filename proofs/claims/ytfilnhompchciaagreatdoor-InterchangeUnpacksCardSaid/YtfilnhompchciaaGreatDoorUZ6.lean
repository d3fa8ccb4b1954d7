/- Part UZ6: lemmas and walks that the claim rests on. No claim is made here. -/
import Derived.Test.YtfilnhompchciaaGreatDoorUZ5
set_option linter.unusedVariables false
set_option linter.unusedSimpArgs false
set_option maxHeartbeats 8000000
set_option maxRecDepth 100000
/- Walks: parse.Linkage. -/
namespace Go.Proofs.YtfilnhompchciaaGreatDoor
open Go Go.RowKit Bn
attribute [local go_sem ↓] Go.wp_at_zero Go.wp_at_succ
def LkY(k:Nat)(w:World)(A:Option Addr)(n c:Nat)(B:Option Addr)(p d:Nat)(C:Option Addr)(q e:Nat)(L:am):Prop :=
  ∀(T:TypeId->Bool) (w2:World),Tch T w w2->T 62=false->T 79=false->T 81=false->T 67=false->LkS k w2 A n c B p d C q e L
theorem LkY.out{k:Nat}{w:World}{A B C:Option Addr}{n c p d q e:Nat}{L:am}(h:LkY k w A n c B p d C q e L):LkS k w A n c B p d C q e L:=h (fun _=>false) w (Tch.refl w) rfl rfl rfl rfl
theorem LkY.tch{T:TypeId->Bool}{k:Nat}{w b:World}{A B C:Option Addr}{n c p d q e:Nat}{L:am}(h:LkY k w A n c B p d C q e L)(t:Tch T w b)(s:T 62=false)(j:T 79=false)(l:T 81=false)(r:T 67=false):LkY k b A n c B p d C q e L:=by
 intro m u g i o v f;refine h (fun t=>T t||m t) u ((t.mono fun _ a=>by simp[a]).trans (g.mono fun _ a=>by simp[a])) ?_ ?_ ?_ ?_<;>simp[s,j,l,r,i,o,v,f]
def tx(w:World)(v:Value)(L:am)(e:Ending)(w':World):Prop :=
  ∃A n c A' n' c' A'' n'' c'',e=.returned (.tuple #[.agg #[ae L.name,.slice A n c,.slice A' n' c',.slice A'' n'' c''],v])/\LkY 130 w' A n c A' n' c' A'' n'' c'' L/\Below w.heap.size w w'
theorem Cf{l:List Tkn}{t:Tkn}(h:t∈l):t.text.length<=(l.map fun t=>t.text.length).sum:=by
 induction l with
 |nil=>cases h
 |cons a l ih =>
  rw[Hp,List.sum_cons];rcases Gh.1 h with rfl|h
  ·omega
  have:=ih h;omega
theorem oV{s:List UInt8}{l:List Tkn}(h:bi s 0 l):∀t∈l,NmL t.text:=by
 intro t a;rcases h with⟨_,h,_⟩|⟨h,b,_⟩|⟨_,_,_,_,rfl⟩
 ·cases h
 ·have d:=(ng b).2
  have c:=Cf a;show t.text.length<_;omega
 cases a
theorem Cg(w:World)(k:Nat):LkS k w none 0 0 none 0 0 none 0 0 L0:=⟨by show ([]:List UInt8).length<_;decide,⟨rfl,Qr,fun h=>absurd h (by omega)⟩,⟨rfl,Qr,fun h=>absurd h (by omega)⟩,⟨rfl,Qr,fun h=>absurd h (by omega)⟩⟩
theorem LkY.zero(k:Nat)(w:World):LkY k w none 0 0 none 0 0 none 0 0 L0:=fun _ a _ _ _ _ _=>Cg a k
theorem zI{w:World}{A:Option Addr}{n c:Nat}{s:List UInt8}{l:List Tkn}(f:bi s 0 l)(i:TkS w A n c l)(d:Mx w)(L:am)(k:L.name=[]/\L.bodies=[]/\L.joints=[]/\L.drivers=[]):RdL w.heap.size (w.alloc (.cells #[.slice A n c,.string ⟨#[]⟩,.slice none 0 0,.slice none 0 0,.slice none 0 0,.nilIface] 87)) w.heap.size ⟨l,L,0⟩ none 0 0 none 0 0 none 0 0:=by
 obtain⟨a,g,j,h⟩:=k;have hb:Below w.heap.size w (w.alloc (.cells #[.slice A n c,.string ⟨#[]⟩,.slice none 0 0,.slice none 0 0,.slice none 0 0,.nilIface] 87)):=(kz _ _).alloc Qr _;refine⟨⟨⟨A,n,c,?_,(TkA.of_tks i).belB hb⟩,(MxA.of_mx d).belB hb,Qr,f.len,oV f,by rw[a];exact⟨rfl,rfl,rfl,rfl⟩⟩,by rw[g];exact bc.nil,by rw[j];exact bc.nil,by rw[h];exact bc.nil,by rw[a];show ([]:List UInt8).length<_;decide,?_,by rw[g];intro b hb;cases hb⟩
 ·rw[a];exact Blk.new _ _ _
 have:=f.len;show 0+0+0+l.length<=_;omega
theorem RdL.lk{B:Nat}{w:World}{j:Nat}{s:PS}{A i b:Option Addr}{n c f g d a:Nat}(h:RdL B w j s A n c i f g b d a):LkS 130 w A n c i f g b d a s.L:=⟨h.nm,h.bd.bds,h.jt.jts,h.dr.drs⟩
theorem RdL.call{B:Nat}{w l:World}{i:Nat}{s g:PS}{A o d:Option Addr}{n c j m a b:Nat}(h:RdL B w i s A n c o j m d a b)(p:RdP B l i (ae s.L.name) (.slice A n c) (.slice o j m) (.slice d a b) g)(k:w.grownBy l (some i))(f:g.L=s.L)(q:g.toks.length<=s.toks.length):RdL B l i g A n c o j m d a b:=by
 have t:=h.rd.tchR k;exact⟨by rw[f];exact p,by rw[f];exact h.bd.tch t (by decide) (fun _ _ x=>x.tch t (by decide)),by rw[f];exact h.jt.tch t (by decide) (fun _ _ x=>x),by rw[f];exact h.dr.tch t (by decide) (fun _ _ x=>x),by rw[f];exact h.nm,by have:=h.cnt;omega,by rw[f];exact h.pts⟩
theorem RdL.below{B:Nat}{w g:World}{f:Nat}{s:PS}{A l b:Option Addr}{n c i j d a:Nat}(h:RdL B w f s A n c l i j b d a)(k:w.grownBy g (some f)):Below B w g:=ix k (by have:=h.rd.lt;have:=h.rd.hB;omega) h.rd.hB
theorem RdL.name{B:Nat}{w:World}{f:Nat}{s:PS}{A j d:Option Addr}{n c g i a b:Nat}(h:RdL B w f s A n c j g i d a b)(nm:List UInt8)(k:NmL nm):RdL B (w.setCell ⟨f,1,none⟩ (ae nm)) f { s with L:={ s.L with name:=nm } } A n c j g i d a b:=by
 have t:=h.rd.tchR (rg_set (rg_refl f w) 1 (ae nm));exact⟨h.rd.put1 _ rfl rfl rfl,h.bd.tch t (by decide) (fun _ _ x=>x.tch t (by decide)),h.jt.tch t (by decide) (fun _ _ x=>x),h.dr.tch t (by decide) (fun _ _ x=>x),k,h.cnt,h.pts⟩
theorem RdL.belw{B:Nat}{w f:World}{j:Nat}{s:PS}{A l d:Option Addr}{n c g i a b:Nat}(h:RdL B w j s A n c l g i d a b)(k:Below w.heap.size w f):RdL B f j s A n c l g i d a b:=by
 have t:Tch (fun _=>false) w f:=Tch.below k;exact⟨h.rd.belw k,h.bd.tch t rfl (fun _ _ x=>x.tch t rfl),h.jt.tch t rfl (fun _ _ x=>x),h.dr.tch t rfl (fun _ _ x=>x),h.nm,h.cnt,h.pts⟩
theorem RdL.lkY{B:Nat}{w g:World}{p:Nat}{s:PS}{A j d:Option Addr}{n c f i a b:Nat}(h:RdL B w p s A n c j f i d a b)(t:Tch (bI 36) w g):LkY 130 g A n c j f i d a b s.L:=by
 intro T C l z m o v;have u:Tch (fun x=>bI 36 x||T x) w C:=(t.mono fun _ k=>by simp[k]).trans (l.mono fun _ k=>by simp[k]);have q:(bI 36 62||T 62)=false:=by rw[z];decide
 have D:(bI 36 79||T 79)=false:=by rw[m];decide
 have r:(bI 36 81||T 81)=false:=by rw[o];decide
 have y:(bI 36 67||T 67)=false:=by rw[v];decide
 exact⟨h.nm,(h.bd.tch u q (fun _ _ x=>x.tch u y)).bds,(h.jt.tch u D (fun _ _ x=>x)).jts,(h.dr.tch u r (fun _ _ x=>x)).drs⟩
theorem zJ{w:World}{g:Nat}{t:TypeId}{b d c f:Value}(z:Blk w g t #[b,d,c,f])(l:noW b=true/\noW d=true/\noW c=true/\noW f=true)(j k h i:Value):Tch (bI t) w ((((w.setCell ⟨g,0,none⟩ j).setCell ⟨g,1,none⟩ k).setCell ⟨g,2,none⟩ h).setCell ⟨g,3,none⟩ i) :=
 Tch.of_ne (by simp[World.setCell]) z (by simp[bI]) (by simp[l]) fun g' _ a=>by
  rw[so _ _ _ _ a,so _ _ _ _ a,so _ _ _ _ a,so _ _ _ _ a]
theorem gM{B g:Nat}{a w:World}(h:Below B a w)(hB:B<=g)(d f c b:Value):Below B a ((((w.setCell ⟨g,0,none⟩ d).setCell ⟨g,1,none⟩ f).setCell ⟨g,2,none⟩ c).setCell ⟨g,3,none⟩ b) :=
 (((h.setCell (p:=⟨g,0,none⟩) hB d).setCell (p:=⟨g,1,none⟩) hB f).setCell (p:=⟨g,2,none⟩) hB c).setCell (p:=⟨g,3,none⟩) hB b
theorem sd(w:World)(s:List UInt8)(x:Int)(l:List Tkn)(d:bi s x l)(b:x≠0):Calls Tryz.prog 15 #[ae s] w (tx w (cd x) L0):=by
 have h:=Qh d;have j:=Qh b;rw[eVp b];clear d b;go_in;go_wp2_with fail;refine(oT _ s x l h.out).mono ?_;rintro e f⟨A,n,c,rfl,_,a⟩;rw[eVp j.out];have z1:Blk f w.heap.size 36 #[.string ⟨#[]⟩,.slice none 0 0,.slice none 0 0,.slice none 0 0]:=(aj _ _ _ (by simp)).below a (by simp);have g:=z1.c4;have i:=z1.f4;have q1:=a.q1;clear a z1;go_wp2_with fail;refine zr1 (.tuple #[.agg #[.string ⟨#[]⟩,.slice none 0 0,.slice none 0 0,.slice none 0 0],.iface 49 (.int .i64 x)]) ?_;exact⟨_,_,_,_,_,_,_,_,_,rfl,LkY.zero _ _,(((q1.setCell (p:=⟨w.heap.size,0,none⟩) Qr _).setCell (p:=⟨w.heap.size,1,none⟩) Qr _).setCell (p:=⟨w.heap.size,2,none⟩) Qr _).setCell (p:=⟨w.heap.size,3,none⟩) Qr _⟩
theorem jg(w:World)(s:List UInt8)(l:List Tkn)(aC:Mx w)(hs:bi s 0 l)(x:Int)(L:am)(h:((dC l).x≠0/\x=(dC l).x/\L=L0)\/((dC l).x=0/\bN (dC l).L≠0/\x=bN (dC l).L/\L=L0)\/((dC l).x=0/\bN (dC l).L=0/\x=0/\L=(dC l).L)):Calls Tryz.prog 15 #[ae s] w (tx w (cd x) L):=by
 have HS:=Qh hs;have HM:=Qh aC;obtain⟨R,hR⟩:=Z9 (dC l);rw[hR]at h;have HR:=Qh hR;have HH:=Qh h;clear hs aC hR h;go_in;go_wp2_with fail;refine(oT _ s 0 l HS.out).mono ?_;rintro e w1⟨A,n,c,rfl,ht,O⟩;rw[dn];have z1:Blk w1 w.heap.size 36 #[.string ⟨#[]⟩,.slice none 0 0,.slice none 0 0,.slice none 0 0]:=(aj _ _ _ (by simp)).below O (by simp);have q1:=O.q1;have o:=z1.lt;have H1:=Qh (zI HS.out ht (HM.out.belw q1) L0 ⟨rfl,rfl,rfl,rfl⟩);have Z1:=Qh (z1.alloc (.cells #[.slice A n c,.string ⟨#[]⟩,.slice none 0 0,.slice none 0 0,.slice none 0 0,.nilIface] 87));have Q1:=Qh (q1.alloc q1.size (.cells #[.slice A n c,.string ⟨#[]⟩,.slice none 0 0,.slice none 0 0,.slice none 0 0,.nilIface] 87));clear O z1 q1 ht;go_wp2_with fail;refine(oU w1.heap.size _ w1.heap.size _ _ _ _ ⟨l,L0,0⟩ H1.out.rd 0 0 rfl [108,105,110,107,97,103,101]).mono ?_;rintro e w2⟨rfl,h2,M⟩;have E:=Qh (H1.out.call h2 M (aH _ 0 _).sameL (aH _ 0 _).1);have B2:=H1.out.below M;have Z2:=Qh (Z1.out.below B2 o);have Q2:=Qh (Q1.out.trans (B2.mono (by omega)));have a8:=h2.lt;clear h2 M B2 Z1 Q1 H1;generalize bo:w1.heap.size=gr at o E a8⊢;have aS:(⟨l,L0,0⟩:PS).expect 0 [108,105,110,107,97,103,101]=(⟨l,L0,0⟩:PS).expect 0 bW:=rfl;rw[aS]at E;clear aS;have t:=HR.out;unfold dC at t;simp only at t;have r:=aH (⟨l,L0,0⟩:PS) 0 bW;generalize (⟨l,L0,0⟩:PS).expect 0 bW=s1 at E t r;have J:=Qh t;have F:=Qh r;clear t r HR;go_wp2_with fail;refine(eU gr _ gr _ _ _ _ s1 E.out.rd).mono ?_;rintro e w3⟨rfl,P,H⟩;have al:=iw E.out.rd.txt;have H3:=Qh (E.out.call P H (aM _).sameL (aM _).1);have B3:=E.out.below H;have Z3:=Qh (Z2.out.below B3 o);have Q3:=Qh (Q2.out.trans (B3.mono (by omega)));have C:=Qh (H3.out.name s1.word.1 al);have bk:=P.lt;obtain⟨ba,_,_,_,a9,_⟩:=P.cells;clear P H B3 al;go_wp2_with fail;clear ba a9;refine(fF gr _ gr _ _ _ _ _ C.out.rd [59]).mono ?_;rintro e w4⟨rfl,h4,K⟩;have H4:=Qh (C.out.call h4 K (aH _ 2 _).sameL (aH _ 2 _).1);have B4:=C.out.below K;have ac:=Z3.out.far (p:=⟨gr,1,none⟩) (by show w.heap.size≠gr;omega) (ae s1.word.1);have Z4:=Qh (ac.below B4 o);have Q4:=Qh ((Q3.out.setCell (p:=⟨gr,1,none⟩) (by show w.heap.size<=gr;omega) (ae s1.word.1)).trans (B4.mono (by omega)))
 have Y:s1.word.2.toks.length<l.length+1:=by
  have h1:=F.out.1;have h2:=(aM s1).1;have P:s1.toks.length<=l.length:=h1;omega
 have u:=(aH (⟨s1.word.2.toks,⟨s1.word.1,s1.word.2.L.bodies,s1.word.2.L.joints,s1.word.2.L.drivers⟩,s1.word.2.x⟩:PS) 2 [59]).1;clear h4 K B4 C H3 E Z2 Q2 Z3 Q3 ac F;generalize (⟨s1.word.2.toks,⟨s1.word.1,s1.word.2.L.bodies,s1.word.2.L.joints,s1.word.2.L.drivers⟩,s1.word.2.x⟩:PS).expect 2 [59]=s4 at H4 J u
 have y:s4.toks.length<l.length+1:=by
  have P:s4.toks.length<=s1.word.2.toks.length:=u;omega
 clear u Y;go_wp2_with fail;go_loopw [] (fun wr=>∃f q A n c U Q T m k j,RdL gr wr gr q A n c U Q T m k j/\(q.x=0->q.toks.length<f)/\Hid (PS.items f q=R)/\Below w.heap.size w wr/\Blk wr w.heap.size 36 #[.string ⟨#[]⟩,.slice none 0 0,.slice none 0 0,.slice none 0 0]) (fun wr=>mOf gr wr)
 case atStart=>exact⟨l.length+1,s4,_,_,_,_,_,_,_,_,_,H4.out,fun _=>y,J,Q4.out,Z4.out⟩
 case round =>
  clear H4 J Q4 Z4 y;obtain⟨f,q,A,n,c,U,Q,T,m,k,j,aT,hf,ab,hq,hz⟩:=hrel;rename World=>wr;have b:=Qh aT;have HQ:=Qh hq;have HZ:=Qh hz;have HF:=Qh hf;clear aT hq hz hf;by_cases z:q.x=0/\q.toks≠[]
  ·have g:=Qh z
   clear z;go_wp2_with fail;refine(uH gr _ gr _ _ _ _ q b.out.rd true (by simp only[g.out,and_self,decide_true,ne_eq,not_false_eq_true])).mono ?_;rintro e w5⟨rfl,I,i⟩;have X:=Qh (b.out.call I i rfl Qr);have B5:=b.out.below i;clear I i;go_wp2_with fail;refine(Ce gr _ gr q A n c U Q T m k j X.out).mono ?_;rintro e w6⟨rfl,⟨A5,n5,c5,A6,n6,c6,A7,n7,c7,h6⟩,a⟩;have V:=Qh h6;have B6:=B5.trans a;clear h6 a;go_wp2_with fail;have N:=zB q;have bl:=HF.out g.out.1;have an:=tq (f:=f) (by omega) g.out;rw[ab.out]at an;go_roundw
   case rel=>exact⟨f-1,q.item,_,_,_,_,_,_,_,_,_,V.out,fun d=>by have:=N.2 d;omega,Qh an.symm,HQ.out.trans (B6.mono (by omega)),HZ.out.below B6 o⟩
   case measure =>
    rw[V.out.rd.meas,b.out.rd.meas,kZ g.out.1];have h8:=N.1;by_cases d:q.item.x=0
    ·have h9:=N.2 d
     rw[kZ d];omega
    rw[kl d];omega
  have D:=wD (f:=f) z;rw[ab.out]at D;subst D;have g:=Qh z;clear z;go_wp2_with fail;refine(uH gr _ gr _ _ _ _ R b.out.rd false (yB g.out)).mono ?_;rintro e w5⟨rfl,I,i⟩;have B5:=b.out.below i;have X:=Qh (b.out.call I i rfl Qr);have S:=Qh (HQ.out.trans (B5.mono (by omega)));have z5:=HZ.out.below B5 o;have Z5:=Qh z5;obtain⟨D5,m5,d5,aZ,_⟩:=I.blk;obtain⟨_,g1,g2,g3,g4,g5⟩:=aZ.c6;have bn:=I.lt;obtain⟨Z,aF,W,a0⟩:=z5.c4;obtain⟨ao,a1,a2,ad⟩:=z5.f4;have bg:¬gr=w.heap.size:=by omega
  clear I i B5 z5 aZ b HQ HZ g HF;rcases HH.out with⟨d,rfl,rfl⟩|⟨d,hc,rfl,rfl⟩|⟨d,hc,rfl,rfl⟩
  ·rw[eVp d]at g5
   have HX:=Qh d;clear d;go_wp2_with fail;go_region
   all_goals
    go_wp2_with fail;refine zr1 (.tuple #[.agg #[.string ⟨#[]⟩,.slice none 0 0,.slice none 0 0,.slice none 0 0],.iface 49 (.int .i64 R.x)]) ?_;rw[eVp HX.out];exact⟨_,_,_,_,_,_,_,_,_,rfl,LkY.zero _ _,by first|exact gM S.out Qr _ _ _ _|exact gM S.out.drew Qr _ _ _ _⟩
  ·rw[d,dn]at g5
   clear d;have B:=Qh hc;clear hc;go_wp2_with fail;refine(lV _ A n c U Q T m k j R.L 130 X.out.lk (by decide) (by decide) _ rfl).mono ?_;rintro e w6⟨rfl,a⟩;rw[eVp B.out];have G:=Z5.out.below a (by omega);obtain⟨a6,bd,a7,a3⟩:=G.c4;obtain⟨a4,bb,a5,be⟩:=G.f4;have Q6:=Qh (S.out.trans (a.mono S.out.size));clear a G Z aF W a0 ao a1 a2 ad g1 g2 g3 g4 g5;go_wp2_with fail;refine zr1 (.tuple #[.agg #[.string ⟨#[]⟩,.slice none 0 0,.slice none 0 0,.slice none 0 0],.iface 49 (.int .i64 (bN R.L))]) ?_;rw[eVp B.out];exact⟨_,_,_,_,_,_,_,_,_,rfl,LkY.zero _ _,gM Q6.out Qr _ _ _ _⟩
  rw[d,dn]at g5;clear d;have B:=Qh hc;clear hc;go_wp2_with fail;refine(lV _ A n c U Q T m k j R.L 130 X.out.lk (by decide) (by decide) 0 B.out).mono ?_;rintro e w6⟨rfl,a⟩;rw[dn];have G:=Z5.out.below a (by omega);obtain⟨a6,bd,a7,a3⟩:=G.c4;obtain⟨a4,bb,a5,be⟩:=G.f4;have V:=Qh (X.out.belw a);have Z6:=Qh G;obtain⟨k1,k2,k3,k4,_⟩:=V.out.rd.cells;have Q6:=Qh (S.out.trans (a.mono S.out.size));clear a G Z aF W a0 ao a1 a2 ad g1 g2 g3 g4 g5;go_wp2_with fail;refine zr1 (.tuple #[.agg #[ae R.L.name,.slice A n c,.slice U Q T,.slice m k j],.nilIface]) ?_;exact⟨_,_,_,_,_,_,_,_,_,rfl,V.out.lkY (zJ Z6.out ⟨rfl,rfl,rfl,rfl⟩ _ _ _ _),gM Q6.out Qr _ _ _ _⟩
theorem se(w:World)(s:List UInt8)(x:Int)(L:am)(b:Mx w)(h:cE s x L):Calls Tryz.prog 15 #[ae s] w (tx w (cd x) L):=by
 rcases h with⟨l,a,d,rfl⟩|⟨l,a,c,d,rfl⟩|⟨l,a,c,f,d,rfl⟩|⟨l,a,c,f,rfl,rfl⟩
 ·exact sd w s x l a d
 ·exact jg w s l b a x L0 (.inl ⟨by rw[c];exact d,c.symm,rfl⟩)
 ·exact jg w s l b a x L0 (.inr (.inl ⟨c,by rw[f];exact d,f.symm,rfl⟩))
 exact jg w s l b a 0 _ (.inr (.inr ⟨c,f,rfl,rfl⟩))
theorem d7.nm{b:aq}(h:d7 b):b.name.length<=1000:=by have:=h.1;omega
theorem d7.mks{b:aq}(h:d7 b):∀m∈b.pts,m.name.length<=1000:=fun m a=>by have:=(h.2.2 m a).1;omega
theorem d7.np{b:aq}(h:d7 b):b.pts.length<=8:=h.2.1
theorem Sees.al{a w:World}(h:Below a.heap.size a w)(o:Obj):Sees a.heap.size a (w.alloc o):=Sees.of Qr (h.alloc h.size o)
theorem Blk.strs{w:World}{g t:Nat}{l:List (List UInt8)}(h:Blk w g t (ie l).toArray)(k:Nat)(x:List UInt8)(a:l[k]?=some x):w.cell? ⟨g,k,none⟩=some (ae x):=by
 rw[h.cell k,List.getElem?_toArray];unfold ie;rw[GZ,a];rfl
theorem Blk.owns{w:World}{base g t n:Nat}{l:List (List UInt8)}(h:Blk w g t (ie l).toArray)(hb:base<=g)(a:l.length=n)(b:n<=1000):w.ownsRow base t 1 (.slice (some ⟨g,0,none⟩) n n) n (ie l):=by
 subst a;exact⟨by simp[ie],.inr ⟨g,_,_,rfl,hb,h,Qr,by unfold maxLen;omega,by simp[ie],by rw[ms (by simp[ie])]⟩⟩
theorem wK{w:World}{base t n g cap:Nat}{l:List (List UInt8)}(h:w.ownsRow base t 1 (.slice (some ⟨g,0,none⟩) n cap) n (ie l)):n<=cap/\∀(k:Nat) x,l[k]?=some x->w.cell? ⟨g,k,none⟩=some (ae x):=by
 rcases h.2 with⟨a,_⟩|⟨g',d,c,a,_,j,f,_,_,i⟩
 ·cases a
 injection a with a _ h1';injection a with a;injection a with a;subst a h1';refine⟨f,fun k x m=>?_⟩;rw[cell_of_row w g k c _ (0,0) j];have b:(ie l)[k]?=some (ae x):=by unfold ie;rw[GZ,m];rfl
 rw[<-i,Gk]at b;split at b
 ·simpa using b
 cases b
abbrev SD(g g1 g2 o2:Nat)(a0 a1 a2 a3:Value)(w:World):Prop:=w.cell? ⟨g,0,none⟩=some a0/\w.cell? ⟨g,1,none⟩=some a1/\w.cell? ⟨g1,1,none⟩=some a2/\w.cell? ⟨g2,o2,none⟩=some a3
theorem SlS.bodyShort{w:World}{A:Option Addr}{n c:Nat}{l:List aq}(h:SlS (fD 500) 2 w A n c l)(k:∀b∈l,d7 b):∀b∈l,∀m∈b.pts,jB m:=by
 intro b hb;obtain⟨i,j,e⟩:=Hb hb;obtain⟨g,o,a,_,_,_,d,f⟩:=h.at_ (i:=i) (by rw[<-h.1];exact j);rw[sx j]at d;injection d with d;rw[<-d,e]at f;obtain⟨t,r,s,_,_,p,_⟩:=f;exact p.short fun m q=>by have:=((k b hb).2.2 m q).1;omega
theorem SlS.lineLen{w:World}{A:Option Addr}{n c:Nat}{l:List aq}(h:SlS (fD 500) 2 w A n c l)(a:∀b∈l,d7 b):∀b∈l,(bt b).length<=180000:=fun b hb=>pK (a b hb).1 (a b hb).2.1 (h.bodyShort a b hb)
theorem zK(w:World)(A:Option Addr)(n c:Nat)(B:Option Addr)(p d:Nat)(C:Option Addr)(q e:Nat)(L:am)(h:LkS 500 w A n c B p d C q e L)(i:bN L≠0):Calls Tryz.prog 29 #[.agg #[ae L.name,.slice A n c,.slice B p d,.slice C q e]] w (fun j k=>j=.returned (.tuple #[ae [],cd (bN L)])/\Below w.heap.size w k):=by
 obtain⟨x,g⟩:=Z9 (bN L);rw[g]at i⊢;have m:=Qh g;have H:=Qh h;have a:cd x=.iface 49 (.int .i64 x):=kl i;rw[a];have l:=Qh a;clear h g a;go_in;go_wp2_with fail;have f:Below w.heap.size w (w.alloc (.cells #[ae L.name,.slice A n c,.slice B p d,.slice C q e] 36)):=(aa w).alloc Qr _;refine(lV _ A n c B p d C q e L 500 (H.out.belw f) (by decide) (by decide) x m.out).mono ?_;rintro j o⟨rfl,b⟩;rw[l.out];have q1:=f.trans (b.mono f.size);clear b;go_wp2_with fail;go_ret2;exact⟨rfl,q1⟩
theorem Ch(w:World)(A:Option Addr)(n c:Nat)(B:Option Addr)(p d:Nat)(C:Option Addr)(q e:Nat)(L:am)(h:LkS 500 w A n c B p d C q e L)(cj:Tab w)(hc:bN L=0):Calls Tryz.prog 29 #[.agg #[ae L.name,.slice A n c,.slice B p d,.slice C q e]] w (fun V w'=>V=.returned (.tuple #[ae (bL L),cd (aI L)])/\Below w.heap.size w w'):=by
 have hk:=mQ hc;have bk:=h.bodies.1;have bo:=h.joints.1;have b1:=h.drivers.1;have fN:=hk.nb;have go:=hk.nj;have gd:=hk.nd;have gy:=hk.b0;have hN:=h.bodies.2.1;have h7:=h.joints.2.1;have h3:=h.drivers.2.1;have hF:L.name.length<=24:=hk.name;have h0:=ah L.name;rw[bk]at fN gy;rw[bo]at go;rw[b1]at gd;have ds:=dJ bt 180000 L.bodies (h.bodies.lineLen hk.body);have dq:=dJ (az L.bodies) 200 L.joints fun j hj=>gH hk.body (hk.joint j hj).1
 have cs:=dJ (aO L.bodies) 60 L.drivers fun d hd=>iY hk.body (hk.driver d hd).1
 rw[bk]at ds;rw[bo]at dq;rw[b1]at cs;obtain⟨h1,b6⟩:∃t,[108,105,110,107,97,103,101,32]++L.name=t:=⟨_,rfl⟩;have hr:=aL ([108,105,110,107,97,103,101,32]) (L.name);rw[b6]at hr;have hu:h1.length=8+L.name.length:=by rw[<-b6,kc];try simp
 have hO:(9223372036854775807<8+L.name.length)=False:=oK (by omega);have hL:=ah h1;obtain⟨h2,bn⟩:∃t,h1++[59,10]=t:=⟨_,rfl⟩;have he:=aL (h1) ([59,10]);rw[bn]at he;have fc:h2.length=h1.length+2:=by rw[<-bn,kc];try simp
 have hU:(9223372036854775807<h1.length+2)=False:=oK (by omega);have hY:=ah h2;have h5:h2.length<=34:=by omega
 obtain⟨S1,bv⟩:∃S,h2++L.bodies.flatMap bt=S:=⟨_,rfl⟩;obtain⟨S2,b5⟩:∃S,S1++L.joints.flatMap (az L.bodies)=S:=⟨_,rfl⟩;obtain⟨S3,bY⟩:∃S,S2++L.drivers.flatMap (aO L.bodies)=S:=⟨_,rfl⟩;have cb:S1.length<=34+180000*n:=by rw[<-bv,kc];omega
 have ck:S2.length<=34+180000*n+200*p:=by rw[<-b5,kc];omega
 have cc:S3.length<=34+180000*n+200*p+60*q:=by rw[<-bY,kc];omega
 have ez:bV L=S3:=by
  rw[<-bY,<-b5,<-bv,<-bn,<-b6];unfold bV mR;simp
 have H:=Qh h;have HK:=Qh hk;have HC:=Qh hc;have ba:=Qh cj;have e7:=Qh bv;have gt:=Qh b5;have gz:=Qh bY;have ec:=Qh ez;have ha:=Qh ds;have f9:=Qh dq;have g0:=Qh cs;have eg:=Qh bk;have gv:=Qh bo;have gT:=Qh b1;have gD:=Qh cb;have fZ:=Qh ck;have hP:=Qh cc;clear h hk hc cj bv b5 bY ez ds dq cs bk bo b1 b6 bn hu fc cb ck cc;go_in;go_wp2_with fail;have q0:Below w.heap.size w (w.alloc (.cells #[ae L.name,.slice A n c,.slice B p d,.slice C q e] 36)):=(aa w).alloc Qr _;have x0:Blk (w.alloc (.cells #[ae L.name,.slice A n c,.slice B p d,.slice C q e] 36)) w.heap.size 36 #[ae L.name,.slice A n c,.slice B p d,.slice C q e]:=aj _ _ _ rfl;refine(lV _ A n c B p d C q e L 500 (H.out.belw q0) (by decide) (by decide) 0 HC.out).mono ?_;rintro V s⟨rfl,dO⟩;rw[show cd 0=.nilIface from kZ rfl];have q1:=q0.trans (dO.mono q0.size);have x1:=x0.below dO x0.lt;have r:w.heap.size<s.heap.size:=x1.lt;have f4:=x1.cell 0;clear dO q0 x0;go_wp2_with fail;clear f4;have B1:Bu s.heap.size s.heap.size (s.alloc (.cells #[.pointer none,.slice none 0 0] 70)) []:=Bu.new;have qa:Below s.heap.size s (s.alloc (.cells #[.pointer none,.slice none 0 0] 70)):=(aa s).alloc Qr _;have W:=x1.below qa x1.lt;refine(dF _ _ _ _ h2 B1 (by simp only[Gm];omega)).mono ?_;rintro V w2⟨rfl,B2,q2,_⟩;rw[Gf]at B2;have q2:=qa.trans q2;have x2:=x1.below q2 x1.lt;have co:=q1.trans (q2.mono q1.size);have a2:=Qh B2;have fl:=x2.cell 1;clear qa W B1 B2 q1 x1;go_wp2_with fail;clear fl;go_loopw [26] (fun iv wr=>∃i:Nat,iv=.int .i64 (i:Nat)/\i<=n/\Hid (Bu s.heap.size s.heap.size wr (h2++(L.bodies.take i).flatMap bt))/\Below s.heap.size w2 wr) (fun iv _=>n-(intOf iv).toNat)
 case atStart=>exact⟨0,rfl,Nat.zero_le _,by simpa using a2,kz _ _⟩
 case round =>
  clear a2;obtain⟨i,rfl,hi,G,hb⟩:=hrel;rename World=>wa;have W:=x2.below hb r;have f:=co.trans (hb.mono (Nat.le_of_lt r));rcases Nat.lt_or_ge i n with fr|hm
  ·have fn:((i:Int)<(n:Int))=True:=by simp;omega
   obtain⟨g,o,b,e1,hg,_,z,g6⟩:=(H.out.bodies.bd f).at_ fr;subst e1;have aS:=HK.out.body b (pk z);have hn:=(H.out.bodies.bd f).bodyShort HK.out.body b (pk z);obtain⟨A',n',c',d0,d1,hM,_⟩:=g6;have u:=dy bt z;have m:=cP bt L.bodies (i+1);rw[u,kc]at m;obtain⟨T,hT⟩:=Z9 (gZ b);obtain⟨T1,bs⟩:∃t,T++[10]=t:=⟨_,rfl⟩;have ac:bt b=T1:=by rw[<-bs,<-hT];rfl
   rw[ac]at u m;have ga:=aL T [10];rw[bs]at ga;have c3:T1.length=T.length+1:=by rw[<-bs,kc];rfl
   have h9:=ha.out;have hI:(9223372036854775807<T.length+1)=False:=oK (by omega);have hS:=ah T;have O:(h2++(L.bodies.take i).flatMap bt).length+T1.length<=140737488355328:=by rw[kc];omega
   have HW:=Qh O;have Z:Hid (h2++(L.bodies.take (i+1)).flatMap bt=h2++(L.bodies.take i).flatMap bt++T1):=Qh (by rw[u,ys]);have HT:=Qh hT;have HM:=Qh hM;have ek:=Qh aS;have cu:=aS.2.1;rw[hM.1]at cu;clear z aS hn hM u m hT bs ac c3 h9 O;have eh:g<wa.heap.size:=hg;go_wp2_with fail;have xp:Blk (wa.alloc (.cells #[ae b.name,.slice A' n' c'] 62)) wa.heap.size 62 #[ae b.name,.slice A' n' c']:=aj _ _ _ rfl;have M:Below wa.heap.size wa (wa.alloc (.cells #[ae b.name,.slice A' n' c'] 62)):=(aa wa).alloc Qr _;have I:=Qh (G.out.belw M);have bl:=Qh ((ba.out.belw f).belw M);have ey:=Qh (HM.out.mk_ M);have a7:s.heap.size<wa.heap.size:=G.out.lt;clear G HM d0 d1;generalize (wa.alloc (.cells #[ae b.name,.slice A' n' c'] 62))=wb at xp M I bl ey⊢;refine(DG _ A' n' c' b ey.out bl.out (by omega) ek.out.nm ek.out.mks T HT.out).mono ?_;rintro V wc⟨rfl,qc⟩;have gm:=ag M qc;go_wp2_with fail;refine(dF _ _ _ _ T1 (I.out.belw qc) HW.out).mono ?_;rintro V wd⟨rfl,Bd,qd,_⟩;have gg:Hid (Bu s.heap.size s.heap.size wd (h2++(L.bodies.take (i+1)).flatMap bt)):=Qh (by rw[Z.out];exact Bd);have bd:=(hb.trans (gm.mono (Nat.le_of_lt a7))).trans qd;clear Bd Z;go_wp2_with fail;go_roundw
   case rel=>exact⟨i+1,by go_num,by omega,gg,bd⟩
   case measure=>simp[intOf];omega
  have fn:((i:Int)<(n:Int))=False:=by simp;omega
  have Q:L.bodies.take i=L.bodies:=ms (by rw[eg.out];exact hm);rw[Q,e7.out]at G;have e2:=G;have g8:=W.cell 2;clear Q G;go_wp2_with fail;clear g8;go_loopw [38] (fun iv wr=>∃U:Nat,iv=.int .i64 (U:Nat)/\U<=p/\Hid (Bu s.heap.size s.heap.size wr (S1++(L.joints.take U).flatMap (az L.bodies)))/\Below s.heap.size w2 wr) (fun iv _=>p-(intOf iv).toNat)
  case atStart=>exact⟨0,rfl,Nat.zero_le _,by simpa using e2,hb⟩
  case round =>
   clear e2 W f hb;obtain⟨U,rfl,hZ,G,hb⟩:=hrel;rename World=>wj;have W:=x2.below hb r;have f:=co.trans (hb.mono (Nat.le_of_lt r));rcases Nat.lt_or_ge U p with e4|ev
   ·have hw:((U:Int)<(p:Int))=True:=by simp;omega
    obtain⟨g,o,j,e1,hg,_,z,fT⟩:=(H.out.joints.jt f).at_ e4;subst e1;have aS:=HK.out.joint j (pk z);obtain⟨gq,ja,jb,jp,jo,x,y,m1,m2,ea,eb,ep,eo,hx,hy,ca,b3,el⟩:=aS;obtain⟨d0,d1,d2,d3,d4,d5,d6,_⟩:=fT;obtain⟨F1,dd⟩:∃F,x.name++46::m1.name=F:=⟨_,rfl⟩;obtain⟨F2,c5⟩:∃F,y.name++46::m2.name=F:=⟨_,rfl⟩;have cv:=HK.out.body x (pk hx);have D:=HK.out.body y (pk hy);have a5:=Qh (And.intro hx (And.intro ca (And.intro cv.nm (And.intro (cv.mks m1 (pk ca)) dd))));have a9:=Qh (And.intro hy (And.intro b3 (And.intro D.nm (And.intro (D.mks m2 (pk b3)) c5))));have e5:ic L.bodies j.a j.point=F1:=by rw[ea,ep,jE hx ca,dd]
    have ej:ic L.bodies j.b j.on=F2:=by rw[eb,eo,jE hy b3,c5]
    have u:=dy (az L.bodies) z;have m:=cP (az L.bodies) L.joints (U+1);rw[u,kc]at m;have ed:=gH HK.out.body gq;rw[ea]at d2;rw[ep]at d3;rw[eb]at d4;rw[eo]at d5;have hV:=ah j.name;have eh:g<wj.heap.size:=hg;have h9:=f9.out;have h8:=gD.out;have O:(S1++(L.joints.take U).flatMap (az L.bodies)).length+(az L.bodies j).length<=140737488355328:=by rw[kc];omega
    have HW:=Qh O;have Z:Hid (S1++(L.joints.take (U+1)).flatMap (az L.bodies)=S1++(L.joints.take U).flatMap (az L.bodies)++az L.bodies j):=Qh (by rw[u,ys]);have aF:=Qh (And.intro e5 (And.intro ej ed));have hq:=Qh el;have cm:=Qh (And.intro hy D);have fI:=Qh eb;clear dd c5 hx hy ca b3 cv D e5 ej u m ed ea ep eb eo z h9 h8 O el;go_wp2_with fail;have xp:Blk (wj.alloc (.cells #[ae j.name,.int .i64 j.kind,.int .i64 (ja:Nat),.int .i64 (jp:Nat),.int .i64 (jb:Nat),.int .i64 (jo:Nat),.int .i64 j.to_] 79)) wj.heap.size 79 #[ae j.name,.int .i64 j.kind,.int .i64 (ja:Nat),.int .i64 (jp:Nat),.int .i64 (jb:Nat),.int .i64 (jo:Nat),.int .i64 j.to_]:=aj _ _ _ rfl;have M:Below wj.heap.size wj (wj.alloc (.cells #[ae j.name,.int .i64 j.kind,.int .i64 (ja:Nat),.int .i64 (jp:Nat),.int .i64 (jb:Nat),.int .i64 (jo:Nat),.int .i64 j.to_] 79)):=(aa wj).alloc Qr _;have I:=Qh (G.out.belw M);have bl:=Qh ((ba.out.belw f).belw M);have ab:=Qh ((H.out.bodies.bd f).bd M);have a7:s.heap.size<wj.heap.size:=G.out.lt;have xb:=W.below M W.lt;have aC:=hb.trans (M.mono (Nat.le_of_lt a7));clear G d0 d1 d2 d3 d4 d5 d6 W;generalize (wj.alloc (.cells #[ae j.name,.int .i64 j.kind,.int .i64 (ja:Nat),.int .i64 (jp:Nat),.int .i64 (jb:Nat),.int .i64 (jo:Nat),.int .i64 j.to_] 79))=wb at xp M I bl ab xb aC⊢;have gp:wj.heap.size<wb.heap.size:=xp.lt;have e0:w.heap.size<wb.heap.size:=xb.lt;obtain⟨b2,ao,e9,gE,cx,f3,c6⟩:=xp.c7;obtain⟨bg,N,a8,a6⟩:=xb.c4
    go_region_held3 (fun w'=>Sees wb.heap.size wb w') (first|with_reducible exact Sees.of Qr (by assumption)|with_reducible exact Sees.of Qr (aa _).drew|with_reducible exact Sees.al (by assumption) _|exact Sees.of Qr (af (aa _) 1)|exact Sees.of Qr (af (by assumption) _))
     (first
      |(go_at_call 61;(with_reducible refine(tc _ _ _ _ _ _ _ _ _ _ _ L.bodies 500 ?_ ja jp x m1 a5.out.1 a5.out.2.1 a5.out.2.2.1 a5.out.2.2.2.1 F1 a5.out.2.2.2.2).mono ?_);(exact ab.out.bd (by first|exact a0|exact aa _|exact(aa wb).drew|exact af (aa wb) _));rintro V ew⟨rfl,ad⟩;have a4:Below wb.heap.size wb ew:=(by first|exact ag a0 ad|exact ag (aa wb) ad|exact ag (af (aa wb) _) ad))
      |(go_at_call 61;(with_reducible refine(tc _ _ _ _ _ _ _ _ _ _ _ L.bodies 500 ?_ jb jo y m2 a9.out.1 a9.out.2.1 a9.out.2.2.1 a9.out.2.2.2.1 F2 a9.out.2.2.2.2).mono ?_);(exact ab.out.bd (by first|exact a4|exact aa _|exact(aa wb).drew|exact af (aa wb) _));rintro V eW⟨rfl,an⟩;have a0:Below wb.heap.size wb eW:=(by first|exact ag a4 an|exact ag (aa wb) an|exact ag (af (aa wb) _) an)))
    all_goals
     rename_i cL;clear cL ad an
     first
      |clear a4 ew
      |clear a0 eW
     rename World=>wl;rename Below wb.heap.size wb wl=>ql;have xs:Blk (wl.alloc (.cells #[.string ⟨#[112,105,110]⟩,ae j.name,ae F1,ae F2] 9)) wl.heap.size 9 (ie [[112,105,110],j.name,F1,F2]).toArray:=aj _ _ _ rfl;have qs:Below wb.heap.size wb (wl.alloc (.cells #[.string ⟨#[112,105,110]⟩,ae j.name,ae F1,ae F2] 9)):=ql.alloc ql.size _;have cr:wb.heap.size<=wl.heap.size:=ql.size;clear b2 ao e9 gE cx f3 c6 bg N a8 a6 ql;generalize (wl.alloc (.cells #[.string ⟨#[112,105,110]⟩,ae j.name,ae F1,ae F2] 9))=ws at xs qs⊢;have hf:wl.heap.size<ws.heap.size:=xs.lt;have bx:=xp.below qs xp.lt;have f0:=xb.below qs xb.lt;have fa:=aC.trans (qs.mono (by omega));have ao:=bx.cell 1;rcases hq.out with⟨eQ,_⟩|⟨c1,jt,m3,et,b8⟩
     ·have f2:(j.kind==1)=false:=by rw[eQ];rfl
      have bb:cM L.bodies j=[[112,105,110],j.name,F1,F2]:=by
       unfold cM;rw[kl (by omega),aF.out.1,aF.out.2.1]
      obtain⟨J,hJ⟩:=Z9 (iG [[112,105,110],j.name,F1,F2]);obtain⟨T,hT⟩:=Z9 (J++[59,10]);have K:az L.bodies j=T:=by unfold az;rw[bb,hJ,hT]
      have aT:=aL J [59,10];rw[hT]at aT;have c3:T.length=J.length+2:=by rw[<-hT,kc];rfl
      have Y:=aF.out.2.2;rw[K]at Y;have kT:(9223372036854775807<J.length+2)=False:=oK (by omega);have hs:=ah J;have X:=HW.out;rw[K]at X;have cy:=Qh X;have c8:=Qh K;have HJ:=Qh hJ;clear eQ bb hT K X;go_wp2_with fail;refine(rV ws wl.heap.size 4 4 _ rfl xs.strs hf (by decide) (by decide) (by rw[HJ.out];omega)).mono ?_;rintro V wt⟨rfl,qt⟩;rw[HJ.out];go_wp2_with fail;refine(dF _ _ _ _ T ((I.out.belw qs).belw qt) cy.out).mono ?_;rintro V wu⟨rfl,Bw,qu,_⟩;have aZ:Hid (Bu s.heap.size s.heap.size wu (S1++(L.joints.take (U+1)).flatMap (az L.bodies))):=Qh (by rw[Z.out,c8.out];exact Bw);have bu:=(fa.trans (qt.mono (by omega))).trans qu;clear Bw;go_wp2_with fail;go_roundw
      case rel=>exact⟨U+1,by go_num,by omega,aZ,bu⟩
      case measure=>simp[intOf];omega
     have f2:(j.kind==1)=true:=by rw[c1];rfl
     obtain⟨F3,cz⟩:∃F,y.name++46::m3.name=F:=⟨_,rfl⟩;have D:=cm.out.2;have be:=Qh (And.intro cm.out.1 (And.intro b8 (And.intro D.nm (And.intro (D.mks m3 (pk b8)) cz))))
     have bb:cM L.bodies j=[[115,108,105,100,101],j.name,F1,F2,F3]:=by
      unfold cM;have gs:=jE cm.out.1 b8;rw[kZ c1,aF.out.1,aF.out.2.1,fI.out,et,gs,cz]
     have e6:((jt:Nat):Int)=j.to_:=et.symm;obtain⟨J,hJ⟩:=Z9 (iG [[115,108,105,100,101],j.name,F1,F2,F3]);obtain⟨T,hT⟩:=Z9 (J++[59,10]);have K:az L.bodies j=T:=by unfold az;rw[bb,hJ,hT]
     have aT:=aL J [59,10];rw[hT]at aT;have c3:T.length=J.length+2:=by rw[<-hT,kc];rfl
     have Y:=aF.out.2.2;rw[K]at Y;have kT:(9223372036854775807<J.length+2)=False:=oK (by omega);have hs:=ah J;have X:=HW.out;rw[K]at X;have cy:=Qh X;have c8:=Qh K;have HJ:=Qh hJ;rw[et]at bx xp;obtain⟨i0,eq,eD,e3,en⟩:=Gb re;have HI:=Qh (And.intro eq (And.intro eD (And.intro e3 en)));clear c1 eq eD e3 en et e6 b8 cz D bb hT K X;have ht:=xs.cell 0;have g5:=xs.frozen 0;have f6:=xs.cell 1;have cx:=bx.cell 4;have c6:=bx.cell 6;obtain⟨bg,N,a8,a6⟩:=f0.c4;have hB:¬w.heap.size=wl.heap.size:=by omega
     have hC:¬wj.heap.size=wl.heap.size:=by omega
     have cp:Blk (ws.setCell ⟨wl.heap.size,0,none⟩ (ae [115,108,105,100,101])) wl.heap.size 9 (ie [[115,108,105,100,101],j.name,F1,F2]).toArray:=xs.set_ 0 _;have cn:Below wb.heap.size wb (ws.setCell ⟨wl.heap.size,0,none⟩ (ae [115,108,105,100,101])):=qs.setCell (p:=⟨wl.heap.size,0,none⟩) cr _;clear xs;go_wp2_with fail;clear bg N a8 a6 cx c6 ao ht f6 g5;generalize (ws.setCell ⟨wl.heap.size,0,none⟩ (ae [115,108,105,100,101]))=wv at cp cn⊢;refine(tc _ _ _ _ _ _ _ _ _ _ _ L.bodies 500 (ab.out.bd cn) jb jt y m3 be.out.1 be.out.2.1 be.out.2.2.1 be.out.2.2.2.1 F3 be.out.2.2.2.2).mono ?_;rintro V wt⟨rfl,qt⟩;have hl:=cp.below qt cp.lt;have q6:=ag cn qt;have HO:=Qh ((hl.owns (n:=4) cr rfl (by decide)).alloc (.cells #[ae F3] 9));go_wp2_with (at_builtin;refine Gc _ rfl _ _ _ rfl wb.heap.size 9 i0 (.string ⟨#[]⟩) 1 16 Tryz.underlying113 HI.out.1 HI.out.2.1 HI.out.2.2.1 HI.out.2.2.2 rfl (by omega) (.slice (some ⟨wl.heap.size,0,none⟩) 4 4) 4 (ie [[115,108,105,100,101],j.name,F1,F2]) rfl HO.out ⟨wt.heap.size,0,none⟩ 1 1 [_] rfl rfl (x9 (Ao wt _)) (by simp[Value.oneCell']) (by omega) (by unfold maxLen;omega) (by omega) (by have:=q6.size;simp;omega) (wt.heap.size+1) (by simp) ?_;intro gx cap w9 a1 a3 hp ac);have ee:=wK (l:=[[115,108,105,100,101],j.name,F1,F2,F3]) a1;have eA:=Qh ee;have b9:Below wb.heap.size wb w9:=(q6.alloc q6.size _).grown a3 (by have:=q6.size;simp;omega) (fun k hk=>by cases hk;exact cr);clear ee a1 a3 hp;refine(rV w9 gx cap 5 _ rfl eA.out.2 ac (by decide) eA.out.1 (by rw[HJ.out];omega)).mono ?_;rintro V wy⟨rfl,qy⟩;rw[HJ.out];have q9:=ag b9 qy;go_wp2_with fail;refine(dF _ _ _ _ T (I.out.belw q9) cy.out).mono ?_;rintro V wu⟨rfl,Bw,qu,_⟩;have aZ:Hid (Bu s.heap.size s.heap.size wu (S1++(L.joints.take (U+1)).flatMap (az L.bodies))):=Qh (by rw[Z.out,c8.out];exact Bw);have bu:=(aC.trans (q9.mono (by omega))).trans qu;clear Bw;go_wp2_with fail;go_roundw
     case rel=>exact⟨U+1,by go_num,by omega,aZ,bu⟩
     case measure=>simp[intOf];omega
   have hw:((U:Int)<(p:Int))=False:=by simp;omega
   have Q:L.joints.take U=L.joints:=ms (by rw[gv.out];exact ev);rw[Q,gt.out]at G;have a2:=G;have g9:=W.cell 3;clear Q G;go_wp2_with fail;clear g9;go_loopw [79] (fun iv wr=>∃i3:Nat,iv=.int .i64 (i3:Nat)/\i3<=q/\Hid (Bu s.heap.size s.heap.size wr (S2++(L.drivers.take i3).flatMap (aO L.bodies)))/\Below s.heap.size w2 wr) (fun iv _=>q-(intOf iv).toNat)
   case atStart=>exact⟨0,rfl,Nat.zero_le _,by simpa using a2,hb⟩
   case round =>
    clear a2 W f hb;obtain⟨i3,rfl,hA,G,hb⟩:=hrel;rename World=>wk;have W:=x2.below hb r;have f:=co.trans (hb.mono (Nat.le_of_lt r));rcases Nat.lt_or_ge i3 q with es|ex
    ·have gu:((i3:Int)<(q:Int))=True:=by simp;omega
     obtain⟨g,o,dv,e1,hg,_,z,fm⟩:=(H.out.drivers.dr f).at_ es;subst e1;obtain⟨hD,di,y,ei,hy⟩:=HK.out.driver dv (pk z);have ge:di<n:=by rw[<-eg.out];exact(ts.1 hy).1
     obtain⟨gb,ob,y',e1,gj,_,bw,f5⟩:=H.out.bodies.at_ ge;rw[hy]at bw;injection bw with bw;subst bw e1;obtain⟨A',n',c',k0,k1,hM,_⟩:=f5;have D:=HK.out.body y (pk hy);have hQ:=D.nm;obtain⟨d0,d1,_⟩:=fm;rw[ei]at d1;have h4:=ah dv.name;have hG:=ah y.name;obtain⟨g1,br⟩:∃t,[100,114,105,118,101,114,32]++dv.name=t:=⟨_,rfl⟩;have f7:=aL ([100,114,105,118,101,114,32]) (dv.name);rw[br]at f7;have gO:g1.length=7+dv.name.length:=by rw[<-br,kc];try simp
     have hE:(9223372036854775807<7+dv.name.length)=False:=oK (by omega);have hW:=ah g1;obtain⟨g2,b7⟩:∃t,g1++[32]=t:=⟨_,rfl⟩;have ft:=aL (g1) ([32]);rw[b7]at ft;have ho:g2.length=g1.length+1:=by rw[<-b7,kc];try simp
     have ib:(9223372036854775807<g1.length+1)=False:=oK (by omega);have hR:=ah g2;obtain⟨g3,bF⟩:∃t,g2++y.name=t:=⟨_,rfl⟩;have gA:=aL (g2) (y.name);rw[bF]at gA;have ff:g3.length=g2.length+y.name.length:=by rw[<-bF,kc];try simp
     have hX:(9223372036854775807<g2.length+y.name.length)=False:=oK (by omega);have hK:=ah g3;obtain⟨g4,b4⟩:∃t,g3++[59,10]=t:=⟨_,rfl⟩;have f8:=aL (g3) ([59,10]);rw[b4]at f8;have fb:g4.length=g3.length+2:=by rw[<-b4,kc];try simp
     have h6:(9223372036854775807<g3.length+2)=False:=oK (by omega);have id:=ah g4
     have c9:aO L.bodies dv=g4:=by
      rw[<-b4,<-bF,<-b7,<-br];unfold aO;rw[ei,ut hy]
     have u:=dy (aO L.bodies) z;have m:=cP (aO L.bodies) L.drivers (i3+1);rw[u,kc,c9]at m;rw[c9]at u;have h9:=g0.out;have h8:=fZ.out;have O:(S2++(L.drivers.take i3).flatMap (aO L.bodies)).length+g4.length<=140737488355328:=by rw[kc];omega
     have HW:=Qh O;have Z:Hid (S2++(L.drivers.take (i3+1)).flatMap (aO L.bodies)=S2++(L.drivers.take i3).flatMap (aO L.bodies)++g4):=Qh (by rw[u,ys]);have k0:=aw k0 f;have eh:g<wk.heap.size:=hg;clear hM k1 D hy ei c9 u m h9 h8 O z gO ho ff fb br b7 bF b4;go_wp2_with fail;have xp:Blk (wk.alloc (.cells #[ae dv.name,.int .i64 (di:Nat)] 81)) wk.heap.size 81 #[ae dv.name,.int .i64 (di:Nat)]:=aj _ _ _ rfl;have M:Below wk.heap.size wk (wk.alloc (.cells #[ae dv.name,.int .i64 (di:Nat)] 81)):=(aa wk).alloc Qr _;have I:=Qh (G.out.belw M);have a7:s.heap.size<wk.heap.size:=G.out.lt;have xb:=W.below M W.lt;have aC:=hb.trans (M.mono (Nat.le_of_lt a7));have k0:=aw k0 M;clear G d0 d1 W;generalize (wk.alloc (.cells #[ae dv.name,.int .i64 (di:Nat)] 81))=wb at xp M I xb aC k0⊢;have gp:wk.heap.size<wb.heap.size:=xp.lt;have e0:w.heap.size<wb.heap.size:=xb.lt;obtain⟨b2,ao⟩:=xp.c2;have N:=xb.cell 1;have f1:((di:Int)<(n:Int)):=by omega
     have eT:SD wk.heap.size w.heap.size gb (ob+di*2) (ae dv.name) (.int .i64 (di:Nat)) (.slice (some ⟨gb,ob,none⟩) n c) (ae y.name) wb:=⟨b2,ao,N,k0⟩
     go_region_held3 (SD wk.heap.size w.heap.size gb (ob+di*2) (ae dv.name) (.int .i64 (di:Nat)) (.slice (some ⟨gb,ob,none⟩) n c) (ae y.name)) (first|assumption|exact eT)
      (first
       |(go_at_call 27;(with_reducible refine(dF _ _ _ _ g4 (I.out.belw (by first|exact(aa wb).drew|exact af (aa wb) _)) HW.out).mono ?_);rintro V wu⟨rfl,Bw,qu,ou⟩;have xu:=ou wk.heap.size 81 _ (by omega) (by decide) xp;have qu:Below s.heap.size wb wu:=(by first|exact(kz _ wb).drew.trans qu|exact(af (kz _ wb) _).trans qu);have fG:SD wk.heap.size w.heap.size gb (ob+di*2) (ae dv.name) (.int .i64 (di:Nat)) (.slice (some ⟨gb,ob,none⟩) n c) (ae y.name) wu:=⟨xu.cell 0,xu.cell 1,(xb.below qu r).cell 1,(qu.cell (p:=⟨gb,ob+di*2,none⟩) (Nat.lt_trans gj r)).trans k0⟩))
     have aZ:Hid (Bu s.heap.size s.heap.size wu (S2++(L.drivers.take (i3+1)).flatMap (aO L.bodies))):=Qh (by rw[Z.out];exact Bw);have bu:=aC.trans qu;clear Bw b2 ao N k0 eT fG;go_wp2_with fail;go_roundw
     case rel=>exact⟨i3+1,by go_num,by omega,aZ,bu⟩
     case measure=>simp[intOf];omega
    have gu:((i3:Int)<(q:Int))=False:=by simp;omega
    have Q:L.drivers.take i3=L.drivers:=ms (by rw[gT.out];exact ex);rw[Q,gz.out]at G;clear Q;go_wp2_with fail;refine(zk _ _ _ S3 G.out).mono ?_;rintro V w9⟨rfl,rfl⟩;by_cases c0:65536<S3.length
    ·have g7:((65536:Int)<(S3.length:Int))=True:=xr (by omega)
     have E:aI L=4:=by unfold aI;rw[kl (by rw[HC.out];decide),kZ (Or.inr (by rw[ec.out];exact c0))]
     have P:bL L=[]:=by unfold bL;rw[kl (by rw[E];decide)]
     have R:=Qh (And.intro E P);clear E P;go_wp2_with fail;go_ret2;exact⟨by rw[R.out.1,R.out.2];rfl,f⟩
    have g7:((65536:Int)<(S3.length:Int))=False:=oK (by omega);have hz:=Qh c0;obtain⟨v,hv⟩:=Z9 (j6 L.bodies);have HV:=Qh hv;obtain⟨bg,N,a8,a6⟩:=W.c4;clear c0 hv;go_wp2_with fail;refine(DH _ A n c B p d C q e L.name L.bodies (H.out.bodies.bd f) (ba.out.belw f) (by omega) (fun b hb=>by have:=(HK.out.body b hb).np;omega) v HV.out).mono ?_;rintro V wz⟨rfl,qz⟩;have bz:=f.trans (qz.mono f.size);clear bg N a8 a6;cases v
    ·have E:aI L=0:=by
      unfold aI;rw[kl (by rw[HC.out];decide),kl (by rw[ec.out,HV.out];intro hh;rcases hh with hh|hh;exact absurd hh (by decide);exact hz.out hh)]
     have P:bL L=S3:=by unfold bL;rw[kZ E,ec.out]
     have R:=Qh (And.intro E P);have gr:=Qh (G.out.belw qz);clear E P;go_wp2_with fail;refine(tb _ _ _ _ gr.out).mono ?_;rintro V wy⟨rfl,qy⟩;have e8:=bz.trans (qy.mono (Nat.le_of_lt r));go_wp2_with fail;go_ret2;exact⟨by rw[R.out.1,R.out.2];rfl,e8⟩
    have E:aI L=4:=by unfold aI;rw[kl (by rw[HC.out];decide),kZ (Iu HV.out)]
    have P:bL L=[]:=by unfold bL;rw[kl (by rw[E];decide)]
    have R:=Qh (And.intro E P);clear E P;go_wp2_with fail;go_ret2;exact⟨by rw[R.out.1,R.out.2];rfl,bz⟩
theorem nQ(w:World)(i:Int)(n:Nat)(v:Bool)(b:inI i n=v):Calls Tryz.prog 94 #[.int .i64 i,.int .i64 (n:Nat)] w (av w (.bool v)):=(d0Z w i n v b (.inr rfl)).mono fun _ _ ⟨a,c⟩=>⟨a,c ▸ aa _⟩
theorem zL(w:World)(A:Option Addr)(n c:Nat)(b:aq)(k:Nat)(h:SlS (hH k) 7 w A n c b.pts)(hk:k<=300000000)(x:Int)(hx:(if 8<b.pts.length then 4 else bM bE [] b.pts)=x):Calls Tryz.prog 93 #[.agg #[ae b.name,.slice A n c]] w (av w (.int .i64 x)):=by
 have g:=h.1;by_cases h8:8<n
 ·have f8:((8:Int)<(n:Int))=True:=xr (by omega)
  have h4:x=4:=by rw[<-hx,kZ (by rw[g];exact h8)]
  clear g;go_in;go_wp2;go_ret;exact⟨by rw[h4];rfl,(aa w).alloc Qr _⟩
 have f8:((8:Int)<(n:Int))=False:=oK (by omega);have be:n<=8:=by omega
 rw[kl (by rw[g];exact h8)]at hx;have bn:=h.2.1;have HX:=Qh (dt hx);have a4:=Qh g;clear hx g h8;go_in;go_wp2_with fail;go_loopw [3] (fun iv wr=>∃i:Nat,iv=.int .i64 (i:Nat)/\i<=n/\Hid (bM bE (b.pts.take i) (b.pts.drop i)=x)/\Blk wr w.heap.size 62 #[ae b.name,.slice A n c]/\Below w.heap.size w wr) (fun iv _=>n-(intOf iv).toNat)
 case atStart=>exact⟨0,rfl,Nat.zero_le _,HX,aj _ _ _ (by simp),(aa w).alloc Qr _⟩
 case round =>
  clear HX;obtain⟨p,rfl,hp,HP,xB,j⟩:=hrel;rename World=>w3;obtain⟨S,K⟩:=xB.c2;have bg:w.heap.size<w3.heap.size:=xB.lt;rcases Nat.lt_or_ge p n with a5|ba
  ·have a8:((p:Int)<(n:Int))=True:=by simp;omega
   have U:=Qh (h.mk_ j);obtain⟨g',o',m,e,bk,_,Q,a6⟩:=U.out.at_ a5;subst e;have M:=dS HP.out Q;obtain⟨d0,⟨b1,A1,n1,c1,D1,m1,e1,d1,d2,d3,T⟩,⟨b2,A2,n2,c2,D2,m2,e2,d4,d5,d6,I⟩,N⟩:=a6;have d2:w3.cell? ⟨g',o'+p*7+2,none⟩=some (.slice A1 n1 c1):=d2;have d3:w3.cell? ⟨g',o'+p*7+3,none⟩=some (.slice D1 m1 e1):=d3;have d5:w3.cell? ⟨g',o'+p*7+5,none⟩=some (.slice A2 n2 c2):=d5;have d6:w3.cell? ⟨g',o'+p*7+6,none⟩=some (.slice D2 m2 e2):=d6;have Z:=Qh M;have an:=Qh T;have bb:=Qh I;have ad:=Qh N;have bs:((p:Int)<(n:Int)):=by omega
   obtain⟨v,hv⟩:=Z9 (bU m.name);have Y:=Qh hv;clear M T I N Q hv h HP;go_wp2_with fail;refine(mL _ m.name ad.out v Y.out).mono ?_;rintro e w4⟨rfl,E⟩;have W:=E.q1;have x4:Blk w4 w3.heap.size 67 #[ae m.name,.bool b1,.slice A1 n1 c1,.slice D1 m1 e1,.bool b2,.slice A2 n2 c2,.slice D2 m2 e2]:=(aj _ _ _ (by simp)).below E (by simp);have V:=xB.below W xB.lt;have B:=j.trans (W.mono j.size);clear E d0 d1 d2 d3 d4 d5 d6 S K
   have R:∀z:Int,z≠0->bE (b.pts.take p) m=z->x=z:=fun z hz hm=>by
    rcases Z.out with⟨u,_⟩|⟨_,u⟩
    ·exact absurd (hm.symm.trans u) hz
    exact u.symm.trans hm
   have o:=Qh R;clear R;cases v
   ·have h5:x=5:=o.out 5 (by decide) (kZ Y.out)
    go_wp2;go_ret;exact⟨by rw[h5];rfl,B⟩
   go_wp2_with fail;go_loopw [5] (fun jv wr=>∃r:Nat,jv=.int .i64 (r:Nat)/\r<=p/\Hid (twN ((b.pts.take r).map aB.name) m.name=false)/\Below w4.heap.size w4 wr) (fun jv _=>p-(intOf jv).toNat)
   case atStart=>exact⟨0,rfl,Nat.zero_le _,Qh rfl,aa w4⟩
   case round =>
    obtain⟨r,rfl,hr,HT,d⟩:=hrel;rename World=>w5;have F:=x4.below d x4.lt;have q:=V.below d V.lt;have t:=B.trans (d.mono B.size);have aZ:=F.cell 0;rcases Nat.lt_or_ge r p with a0|br
    ·have ao:((r:Int)<(p:Int))=True:=by simp;omega
     have ab:r<n:=by omega
     obtain⟨a,ha,hA⟩:=((U.out.mk_ W).mk_ d).rowAt ab;obtain⟨d0,_,_,_⟩:=hA;obtain⟨S,K⟩:=q.c2;have bd:((r:Int)<(n:Int)):=by omega
     have bo:=aK m.name;by_cases f:a.name=m.name
     ·have h6:x=6:=o.out 6 (by decide) (by
       unfold bE
       rw[Y.out,kl (by decide),kZ (eS ha a0 f)])
      rw[f]at d0;have a7:(m.name==m.name)=true:=by simp
      clear f ha;go_wp2_with fail;go_quiet (fail);go_wp2;go_ret;exact⟨by rw[h6];rfl,af t _⟩
     have bl:=aK a.name;have aS:=Qh (fp ha HT.out f);have a7:(a.name==m.name)=false:=it.2 f;clear f ha HT;go_wp2_with fail;go_quiet (fail);go_wp2_with fail;go_roundw
     case rel=>exact⟨r+1,by go_num,by omega,aS,af d _⟩
     case measure=>simp[intOf];omega
    have ao:((r:Int)<(p:Int))=False:=by simp;omega
    obtain rfl:r=p:=by omega
    have a9:=F.cell 1;have ac:=F.cell 2;have aT:=F.cell 3;obtain⟨v1,L⟩:∃v,m.x.ok=v:=⟨_,rfl⟩;obtain⟨v2,O⟩:∃v,m.y.ok=v:=⟨_,rfl⟩;have D:=Qh L;have C:=Qh O;clear L O;go_wp2_with fail;refine(jx _ b1 A1 n1 c1 D1 m1 e1 m.x k v1 ((an.out.belw W).belw d) hk D.out).mono ?_;rintro e w6⟨rfl,l⟩;have x6:=F.below l F.lt;have H:=q.below l q.lt;have s:=t.trans (l.mono t.size);clear aZ a9 ac aT
    have J:v1=false\/v2=false->bE (b.pts.take r) m=3:=fun hh=>by
     unfold bE;rw[Y.out,kl (by decide),HT.out,kl (by decide),D.out,C.out];rcases hh with e|e
     ·rw[e,kZ rfl]
     rw[e];cases v1
     ·rfl
     rfl
    have P:=Qh J;clear J;cases v1
    ·have h3:x=3:=o.out 3 (by decide) (P.out (.inl rfl))
     go_wp2;go_ret;exact⟨by rw[h3];rfl,s⟩
    have a3:=x6.cell 4;have a2:=x6.cell 5;have a1:=x6.cell 6;go_wp2_with fail;refine(jx _ b2 A2 n2 c2 D2 m2 e2 m.y k v2 (((bb.out.belw W).belw d).belw l) hk C.out).mono ?_;rintro e w7⟨rfl,X⟩;have G:=s.trans (X.mono s.size);have al:=H.below X H.lt;clear a3 a2 a1;cases v2
    ·have h3:x=3:=o.out 3 (by decide) (P.out (.inr rfl))
     go_wp2;go_ret;exact⟨by rw[h3];rfl,G⟩
    have h0:bE (b.pts.take r) m=0:=by
     unfold bE;rw[Y.out,kl (by decide),HT.out,kl (by decide),D.out,C.out];rfl
    have aC:Hid (bM bE (b.pts.take (r+1)) (b.pts.drop (r+1))=x):=Qh (by
     rcases Z.out with⟨_,u⟩|⟨u,_⟩
     ·exact u
     exact absurd h0 u)
    clear h0;go_wp2_with fail;go_roundw
    case rel=>exact⟨r+1,by go_num,by omega,aC,al,G⟩
    case measure=>simp[intOf];omega
  have a8:((p:Int)<(n:Int))=False:=by simp;omega
  have aF:x=0:=fo HP.out (by rw[a4.out];exact ba);go_wp2;go_ret;exact⟨by rw[aF];rfl,j⟩
theorem zM(w:World)(A:Option Addr)(n c:Nat)(B:Option Addr)(p d:Nat)(C:Option Addr)(q e:Nat)(L:am)(k:Nat)(h:LkS k w A n c B p d C q e L)(hk:k<=10000000)(hn:n<=8)(x:Int)(hx:bM aY [] L.bodies=x):Calls Tryz.prog 53 #[.agg #[ae L.name,.slice A n c,.slice B p d,.slice C q e]] w (av w (.int .i64 x)):=by
 have H:=Qh (dt hx);have aS:=h.bodies.2.1;have R:=Qh h.bodies.1;clear hx;go_in;go_wp2_with fail;go_loopw [3] (fun Y wr=>∃i:Nat,Y=.int .i64 (i:Nat)/\i<=n/\Hid (bM aY (L.bodies.take i) (L.bodies.drop i)=x)/\Blk wr w.heap.size 36 #[ae L.name,.slice A n c,.slice B p d,.slice C q e]/\Below w.heap.size w wr) (fun Y _=>n-(intOf Y).toNat)
 case atStart=>exact⟨0,rfl,Nat.zero_le _,H,aj _ _ _ (by simp),(aa w).alloc Qr _⟩
 case round =>
  clear H;obtain⟨i,rfl,hi,H,xL,hb⟩:=hrel;rename World=>wa;have G:=xL.cell 1;rcases Nat.lt_or_ge i n with al|ac
  ·have ad:((i:Int)<(n:Int))=True:=by simp;omega
   have hR:=(h.belw hb).bodies;obtain⟨g,o,b,W,hg,_,J,hB⟩:=hR.at_ al;subst W;have s:=dS H.out J;obtain⟨A',n',c',c0,c1,hM,K⟩:=hB;have HR:=Qh hR;have HM:=Qh hM;have HS:=Qh s;have HN:=Qh K;have aZ:((i:Int)<(n:Int)):=by omega
   obtain⟨v,hv⟩:=Z9 (bU b.name);have Q:=Qh hv;clear h hR hM s K J hv H;go_wp2_with fail;refine(mL _ b.name HN.out v Q.out).mono ?_;rintro e' w1⟨rfl,r⟩;have N:=xL.below r xL.lt;have t:=hb.trans (r.mono hb.size)
   have M:∀z:Int,z≠0->aY (L.bodies.take i) b=z->x=z:=fun z hz hm=>by
    rcases HS.out with⟨u,_⟩|⟨_,u⟩
    ·exact absurd (hm.symm.trans u) hz
    exact u.symm.trans hm
   have F:=Qh M;clear M G;cases v
   ·have h5:x=5:=F.out 5 (by decide) (kZ Q.out)
    go_wp2;go_ret;exact⟨by rw[h5];rfl,t⟩
   go_wp2_with fail;go_loopw [4] (fun U wr=>∃j:Nat,U=.int .i64 (j:Nat)/\j<=i/\Hid (twN ((L.bodies.take j).map aq.name) b.name=false)/\Below w1.heap.size w1 wr) (fun U _=>i-(intOf U).toNat)
   case atStart=>exact⟨0,rfl,Nat.zero_le _,Qh rfl,aa w1⟩
   case round =>
    obtain⟨j,rfl,hj,HT,l⟩:=hrel;rename World=>w2;have E:=N.below l N.lt;have D:=t.trans (l.mono t.size);have G:=E.cell 1;have c0:=aw (aw c0 r) l;rcases Nat.lt_or_ge j i with T|a1
    ·have an:((j:Int)<(i:Int))=True:=by simp;omega
     have V:j<n:=by omega
     have aF:((j:Int)<(n:Int)):=by omega
     obtain⟨a,P,hA⟩:=((HR.out.bd r).bd l).rowAt V;obtain⟨A2,n2,c2,d0,_,_,_⟩:=hA;have aT:=aK b.name;by_cases m:a.name=b.name
     ·have h6:x=6:=F.out 6 (by decide) (by
       unfold aY
       rw[Q.out,kl (by decide),kZ (eS P T m)])
      rw[m]at d0;have S:(b.name==b.name)=true:=by simp
      clear m P;go_wp2_with fail;go_quiet (fail);go_wp2;go_ret;exact⟨by rw[h6];rfl,af D _⟩
     have a0:=aK a.name;have Z:=Qh (fp P HT.out m);have S:(a.name==b.name)=false:=it.2 m;clear m P HT;go_wp2_with fail;go_quiet (fail);go_wp2_with fail;go_roundw
     case rel=>exact⟨j+1,by go_num,by omega,Z,af l _⟩
     case measure=>simp[intOf];omega
    have an:((j:Int)<(i:Int))=False:=by simp;omega
    obtain rfl:j=i:=by omega
    have c1:=aw (aw c1 r) l;obtain⟨y,hy⟩:=Z9 ((if 8<b.pts.length then (4:Int) else bM bE [] b.pts))
    have HE:Hid (aY (L.bodies.take j) b=y):=Qh (by
     unfold aY;rw[Q.out,kl (by decide),HT.out,kl (by decide)]
     exact hy)
    have HY:=Qh hy;clear hy;go_wp2_with fail;refine(zL _ A' n' c' b k ((HM.out.mk_ r).mk_ l) (by omega) y HY.out).mono ?_;rintro e' w3⟨rfl,O⟩;have I:=D.trans (O.mono D.size);have ab:=E.below O E.lt;clear G;by_cases f:y=0
    ·have ao:Hid (bM aY (L.bodies.take (j+1)) (L.bodies.drop (j+1))=x):=Qh (by
      rcases HS.out with⟨_,u⟩|⟨u,_⟩
      ·exact u
      exact absurd (HE.out.trans f) u)
     have e0:(y==0)=true:=xm.2 f;have W:(y != 0)=false:=by rw[f];rfl
     clear f;go_wp2_with fail;go_roundw
     case rel=>exact⟨j+1,by go_num,by omega,ao,ab,I⟩
     case measure=>simp[intOf];omega
    have aC:x=y:=F.out y f HE.out;have e0:(y==0)=false:=it.2 f;have W:(y != 0)=true:=F6.2 f;clear f;go_wp2;go_ret;exact⟨by rw[aC];rfl,I⟩
  have ad:((i:Int)<(n:Int))=False:=by simp;omega
  have X:x=0:=fo H.out (by rw[R.out];exact ac);go_wp2;go_ret;exact⟨by rw[X];rfl,hb⟩
theorem zR(w:World)(A:Option Addr)(n c:Nat)(B:Option Addr)(p d:Nat)(C:Option Addr)(q e:Nat)(L:am)(k:Nat)(h:LkS k w A n c B p d C q e L)(hk:k<=10000000)(hn:n<=8)(hq:q<=2)(i:Nat)(hi:i<q)(b:bD)(R:L.drivers[i]?=some b)(x:Int)(hx:aG n (L.drivers.take i) b=x):Calls Tryz.prog 55 #[.agg #[ae L.name,.slice A n c,.slice B p d,.slice C q e],.int .i64 (i:Nat)] w (av w (.int .i64 x)):=by
 have a5:=h.drivers.2.1;have aZ:=h.bodies.1;obtain⟨g,o,l,e1,hg,_,W,hB⟩:=h.drivers.at_ hi;subst e1;obtain rfl:l=b:=F5 (W.symm.trans R);obtain⟨c0,c1,S⟩:=hB;have P:=Qh hx;have H:=Qh h;have HN:=Qh S;have a6:((i:Int)<(q:Int)):=by omega
 obtain⟨v,hv⟩:=Z9 (bU l.name);have M:=Qh hv;have a2:¬g=w.heap.size:=by omega
 clear hx h S hv W aZ R;go_in;go_wp2_with fail;refine(mL _ l.name HN.out v M.out).mono ?_;rintro e' U⟨rfl,F⟩;have q1:=F.q2;have xL:Blk U w.heap.size 36 #[ae L.name,.slice A n c,.slice B p d,.slice (some ⟨g,o,none⟩) q e]:=((aj _ _ _ (by simp)).alloc _).below F (by simp<;>omega);have x1:Blk U (w.heap.size+1) 81 #[ae l.name,.int .i64 l.body]:=(aj _ _ _ (by simp)).below F (by simp);clear F;cases v
 ·have h5:x=5:=P.out.symm.trans (kZ M.out)
  go_wp2;go_ret;exact⟨by rw[h5];rfl,q1⟩
 go_wp2_with fail;go_loopw [6] (fun J wr=>∃j:Nat,J=.int .i64 (j:Nat)/\j<=i/\Hid (twN ((L.drivers.take j).map bD.name) l.name=false)/\Below U.heap.size U wr) (fun J _=>i-(intOf J).toNat)
 case atStart=>exact⟨0,rfl,Nat.zero_le _,Qh rfl,aa U⟩
 case round =>
  obtain⟨j,rfl,hj,O,D⟩:=hrel;rename World=>w2;have y:=xL.below D xL.lt;have X:=x1.below D x1.lt;have u:=q1.trans (D.mono q1.size);rcases Nat.lt_or_ge j i with ac|a8
  ·have ao:((j:Int)<(i:Int))=True:=by simp;omega
   have ad:j<q:=by omega
   have a0:((j:Int)<(q:Int)):=by omega
   obtain⟨a,z,d0,_,_⟩:=(H.out.drivers.dr u).rowAt ad;have ab:=y.cell 3;have z0:=X.cell 0;have a3:=aK l.name;by_cases f:a.name=l.name
   ·have h6:x=6:=by
     rw[<-P.out];unfold aG;rw[M.out,kl (by decide),kZ (eS z ac f)]
    rw[f]at d0;have I:(l.name==l.name)=true:=by simp
    clear f z;go_wp2_with fail;go_quiet (fail);go_wp2;go_ret;exact⟨by rw[h6];rfl,af u _⟩
   have a7:=aK a.name;have an:=Qh (fp z O.out f);have I:(a.name==l.name)=false:=it.2 f;clear f z O;go_wp2_with fail;go_quiet (fail);go_wp2_with fail;go_roundw
   case rel=>exact⟨j+1,by go_num,by omega,an,af D _⟩
   case measure=>simp[intOf];omega
  have ao:((j:Int)<(i:Int))=False:=by simp;omega
  obtain rfl:j=i:=by omega
  have aT:=y.cell 1;have z1:=X.cell 1;obtain⟨v1,V⟩:∃v,inI l.body n=v:=⟨_,rfl⟩;have s:=Qh V;clear V;go_wp2_with fail;refine(nQ _ l.body n v1 s.out).mono ?_;rintro e' w3⟨rfl,N⟩;have t:=u.trans (N.mono u.size);have T:=y.below N y.lt;have Z:=X.below N X.lt;clear aT z1;cases v1
  ·have h9:x=9:=by
    rw[<-P.out];unfold aG;rw[M.out,kl (by decide),O.out,kl (by decide),kZ s.out]
   go_wp2;go_ret;exact⟨by rw[h9];rfl,t⟩
  have z1:=Z.cell 1;by_cases m:l.body=0
  ·have e0:(l.body==0)=true:=xm.2 m
   have h7:x=7:=by
    rw[<-P.out];unfold aG;rw[M.out,kl (by decide),O.out,kl (by decide),s.out,kl (by decide),kZ m]
   clear m;go_wp2;go_ret;exact⟨by rw[h7];rfl,t⟩
  have e0:(l.body==0)=false:=it.2 m;have Q:=Qh m;clear m;go_wp2_with fail;clear z1;go_loopw [7] (fun J wr=>∃r:Nat,J=.int .i64 (r:Nat)/\r<=j/\Hid (((L.drivers.take r).any fun p=>p.body==l.body)=false)/\Below w3.heap.size w3 wr) (fun J _=>j-(intOf J).toNat)
  case atStart=>exact⟨0,rfl,Nat.zero_le _,Qh rfl,aa w3⟩
  case round =>
   obtain⟨r,rfl,hr,HR,E⟩:=hrel;rename World=>w4;have x4:=Z.below E Z.lt;have aF:=T.below E T.lt;have G:=t.trans (E.mono t.size);rcases Nat.lt_or_ge r j with aS|a4
   ·have al:((r:Int)<(j:Int))=True:=by simp;omega
    have Y:r<q:=by omega
    have a1:((r:Int)<(q:Int)):=by omega
    obtain⟨a,z,d0,d1,_⟩:=(H.out.drivers.dr G).rowAt Y;have K:L.drivers.take (r+1)=L.drivers.take r++[a]:=by rw[FV,z];rfl
    have ab:=aF.cell 3;have z1:=x4.cell 1;by_cases f:a.body=l.body
    ·have h6:x=6:=by
      rw[<-P.out];unfold aG;rw[M.out,kl (by decide),O.out,kl (by decide),s.out,kl (by decide),kl Q.out,kZ];rw[Ha];exact⟨a,pk (i:=r) (by rw[Gk,kZ aS];exact z),by simpa using f⟩
     have I:(a.body==l.body)=true:=xm.2 f;clear f z K;go_wp2_with fail;go_quiet (fail);go_wp2;go_ret;exact⟨by rw[h6];rfl,af G _⟩
    ·have aC:Hid (((L.drivers.take (r+1)).any fun p=>p.body==l.body)=false):=Qh (by
      rw[K,Hu,HR.out]
      simpa using f)
     have I:(a.body==l.body)=false:=it.2 f;clear f z K HR;go_wp2_with fail;go_quiet (fail);go_wp2_with fail;go_roundw
     case rel=>exact⟨r+1,by go_num,by omega,aC,af E _⟩
     case measure=>simp[intOf];omega
   have al:((r:Int)<(j:Int))=False:=by simp;omega
   obtain rfl:r=j:=by omega
   have h0:x=0:=by
    rw[<-P.out];unfold aG;rw[M.out,kl (by decide),O.out,kl (by decide),s.out,kl (by decide),kl Q.out,HR.out];rfl
   go_wp2;go_ret;exact⟨by rw[h0];rfl,G⟩
theorem lx{i:Int}{n:Nat}(h:inI i n=true):∃m:Nat,i=(m:Int)/\m<n:=by
 unfold inI at h;simp only[uv,FZ]at h;exact⟨i.toNat,by omega,by omega⟩
theorem DR(w:World)(k:Nat)(C:k<=10000000)(c:0<k)(nm n:List UInt8)(A:Bool)(t:Option Addr)(D c1:Nat)(B:Option Addr)(K y:Nat)(l:RD)(h1:QD w A t D c1 B K y l k)(Q:Bool)(T:Option Addr)(E c2:Nat)(H:Option Addr)(M I:Nat)(p:RD)(h2:QD w Q T E c2 H M I p k)(r:Bool)(x:Option Addr)(G c3:Nat)(N:Option Addr)(F S:Nat)(i:RD)(h3:QD w r x G c3 N F S i k)(R:Bool)(P:Option Addr)(n4 c4:Nat)(u:Option Addr)(z L:Nat)(m:RD)(h4:QD w R P n4 c4 u z L m k)(v:Bool)(hv:(decide (l.q=i.q)&&decide (p.q=m.q))=v):Calls Tryz.prog 95 #[.agg #[ae nm,.bool A,.slice t D c1,.slice B K y,.bool Q,.slice T E c2,.slice H M I],.agg #[ae n,.bool r,.slice x G c3,.slice N F S,.bool R,.slice P n4 c4,.slice u z L]] w (av w (.bool v)):=by
 obtain⟨J,b⟩:∃s,lL l.q i.q=s:=⟨_,rfl⟩;obtain⟨O,a⟩:∃s,lL p.q m.q=s:=⟨_,rfl⟩;have f:=Qh b;have g:=Qh a;have HV:=Qh hv;have H1:=Qh h1;have H2:=Qh h2;have H3:=Qh h3;have H4:=Qh h4;clear b a hv h1 h2 h3 h4;go_in;go_wp2_with fail;refine(uk _ A t D c1 B K y l.q k ?_ r x G c3 N F S i.q k ?_ J f.out c C c C).mono ?_;(exact(H1.out.qz).belw (((aa w).alloc Qr _).alloc (by simp) _));(exact(H3.out.qz).belw (((aa w).alloc Qr _).alloc (by simp) _));rintro e' w1⟨rfl,d⟩;have q1:=d.q2;have xa:Blk w1 w.heap.size 67 #[ae nm,.bool A,.slice t D c1,.slice B K y,.bool Q,.slice T E c2,.slice H M I]:=((aj _ _ _ (by simp)).alloc _).below d (by simp<;>omega);have xb:Blk w1 (w.heap.size+1) 67 #[ae n,.bool r,.slice x G c3,.slice N F S,.bool R,.slice P n4 c4,.slice u z L]:=(aj _ _ _ (by simp)).below d (by simp);clear d;by_cases b:J=0
 ·have es:(J==0)=true:=xm.2 b
  have o:l.q=i.q:=cH.1 (f.out.trans b);have V:=Qh o;have ac:=xa.cell 4;have U:=xa.cell 5;have ab:=xa.cell 6;have al:=xb.cell 4;have ad:=xb.cell 5;have Y:=xb.cell 6;clear b o;go_wp2_with fail;refine(uk _ Q T E c2 H M I p.q k ?_ R P n4 c4 u z L m.q k ?_ O g.out c C c C).mono ?_;(exact(H2.out.qz).belw q1);(exact(H4.out.qz).belw q1);rintro e' w2⟨rfl,Z⟩;have q2:=q1.trans (Z.mono q1.size);clear ac U ab al ad Y;by_cases a:O=0
  ·have W:(O==0)=true:=xm.2 a
   have j:p.q=m.q:=cH.1 (g.out.trans a);have X:v=true:=HV.out.symm.trans (by rw[zO V.out,zO j];rfl);clear a j;go_wp2;go_ret;exact⟨by rw[X];rfl,q2⟩
  have W:(O==0)=false:=it.2 a;have h:v=false:=HV.out.symm.trans (by rw[yB (fun e=>a (g.out.symm.trans (cH.2 e)))];simp);clear a;go_wp2;go_ret;exact⟨by rw[h];rfl,q2⟩
 have es:(J==0)=false:=it.2 b;have h:v=false:=HV.out.symm.trans (by rw[yB (fun e=>b (f.out.symm.trans (cH.2 e)))];rfl);clear b;go_wp2;go_ret;exact⟨by rw[h];rfl,q1⟩
theorem Ci(w:World)(A:Option Addr)(n c:Nat)(B:Option Addr)(p d:Nat)(C:Option Addr)(q e:Nat)(L:am)(k:Nat)(h:LkS k w A n c B p d C q e L)(hk:k<=10000000)(eb:0<k)(hn:n<=8)(hp:p<=16)(i:Nat)(hi:i<p)(j:bj)(cz:L.joints[i]?=some j)(x:Int)(hx:aW L (L.joints.take i) j=x):Calls Tryz.prog 54 #[.agg #[ae L.name,.slice A n c,.slice B p d,.slice C q e],.int .i64 (i:Nat)] w (av w (.int .i64 x)):=by
 have ex:=h.joints.2.1;obtain⟨g,o,f,e1,hg,_,cs,hB⟩:=h.joints.at_ hi;subst e1;obtain rfl:f=j:=F5 (cs.symm.trans cz);obtain⟨c0,c1,c2,c3,c4,c5,c6,b8⟩:=hB;have HX:=Qh hx;have H:=Qh h;have HL:=Qh h.bodies.1;have HN:=Qh b8;have ev:((i:Int)<(p:Int)):=by omega
 obtain⟨v,hv⟩:=Z9 (bU f.name);have HV:=Qh hv;have ey:¬g=w.heap.size:=by omega
 clear hx h b8 hv cs cz;go_in;go_wp2_with fail;refine(mL _ f.name HN.out v HV.out).mono ?_;rintro e' w1⟨rfl,bk⟩;have q1:=bk.q2;have xL:Blk w1 w.heap.size 36 #[ae L.name,.slice A n c,.slice (some ⟨g,o,none⟩) p d,.slice C q e]:=((aj _ _ _ (by simp)).alloc _).below bk (by simp<;>omega);have x1:Blk w1 (w.heap.size+1) 79 #[ae f.name,.int .i64 f.kind,.int .i64 f.a,.int .i64 f.point,.int .i64 f.b,.int .i64 f.on,.int .i64 f.to_]:=(aj _ _ _ (by simp)).below bk (by simp);clear bk c0 c1 c2 c3 c4 c5 c6;cases v
 ·have h5:x=5:=HX.out.symm.trans (kZ HV.out)
  go_wp2;go_ret;exact⟨by rw[h5];rfl,q1⟩
 go_wp2_with fail;go_loopw [6] (fun jv wr=>∃r:Nat,jv=.int .i64 (r:Nat)/\r<=i/\Hid (twN ((L.joints.take r).map bj.name) f.name=false)/\Below w1.heap.size w1 wr) (fun jv _=>i-(intOf jv).toNat)
 case atStart=>exact⟨0,rfl,Nat.zero_le _,Qh rfl,aa w1⟩
 case round =>
  obtain⟨r,rfl,hr,HT,ba⟩:=hrel;rename World=>w2;have T:=xL.below ba xL.lt;have x2:=x1.below ba x1.lt;have S:=q1.trans (ba.mono q1.size);rcases Nat.lt_or_ge r i with eh|ez
  ·have di:((r:Int)<(i:Int))=True:=by simp;omega
   have c9:r<p:=by omega
   have eo:((r:Int)<(p:Int)):=by omega
   obtain⟨a,ha,d0,_⟩:=(H.out.joints.jt S).rowAt c9;have es:=T.cell 2;have z0:=x2.cell 0;have et:=aK f.name;by_cases aC:a.name=f.name
   ·have h6:x=6:=by
     rw[<-HX.out];unfold aW;rw[HV.out,kl (by decide),kZ (eS ha eh aC)]
    rw[aC]at d0;have ds:(f.name==f.name)=true:=by simp
    clear aC ha;go_wp2_with fail;go_quiet (fail);go_wp2;go_ret;exact⟨by rw[h6];rfl,af S _⟩
   have ew:=aK a.name;have dq:=Qh (fp ha HT.out aC);have ds:(a.name==f.name)=false:=it.2 aC;clear aC ha HT;go_wp2_with fail;go_quiet (fail);go_wp2_with fail;go_roundw
   case rel=>exact⟨r+1,by go_num,by omega,dq,af ba _⟩
   case measure=>simp[intOf];omega
  have di:((r:Int)<(i:Int))=False:=by simp;omega
  obtain rfl:r=i:=by omega
  have cy:bC L f=x:=by
   rw[<-HX.out];unfold aW;rw[HV.out,kl (by decide),HT.out,kl (by decide)]
  have HE:=Qh cy;clear cy;by_cases G:f.kind≠0/\f.kind≠1
  ·have e0:(f.kind==0)=false:=it.2 G.1
   have e1:(f.kind==1)=false:=it.2 G.2;have e2:(f.kind != 0)=true:=F6.2 G.1;have e3:(f.kind != 1)=true:=F6.2 G.2;have h7:x=7:=by rw[<-HE.out];exact kZ G
   have z1:=x2.cell 1;clear G;go_wp2;go_ret;exact⟨by rw[h7];rfl,S⟩
  have u:=Qh G;by_cases N:f.kind=0
  ·have e0:(f.kind==0)=true:=xm.2 N
   have e2:(f.kind != 0)=false:=by rw[N];rfl
   have a7:=Qh N;clear N G;have z1:=x2.cell 1;have z2:=x2.cell 2;have z:=T.cell 1;obtain⟨v1,a4⟩:∃v,inI f.a n=v:=⟨_,rfl⟩;obtain⟨v2,a0⟩:∃v,inI f.b n=v:=⟨_,rfl⟩;have l:=Qh a4;have s:=Qh a0;clear a4 a0;go_wp2_with fail;refine(nQ _ f.a n v1 l.out).mono ?_;rintro e' w3⟨rfl,E⟩;have Q:=S.trans (E.mono S.size);have W:=T.below E T.lt;have x3:=x2.below E x2.lt;clear z1 z2 z E;cases v1
   ·have h9:x=9:=by rw[<-HE.out];unfold bC;rw[kl u.out,HL.out,kZ l.out]
    go_wp2;go_ret;exact⟨by rw[h9];rfl,Q⟩
   have z4:=x3.cell 4;have z:=W.cell 1;go_wp2_with fail;refine(nQ _ f.b n v2 s.out).mono ?_;rintro e' w4⟨rfl,F⟩;have t:=Q.trans (F.mono Q.size);have b5:=W.below F W.lt;have x4:=x3.below F x3.lt;clear z4 z F;cases v2
   ·have h9:x=9:=by rw[<-HE.out];unfold bC;rw[kl u.out,HL.out,kl (by rw[l.out];decide),kZ s.out]
    go_wp2;go_ret;exact⟨by rw[h9];rfl,t⟩
   obtain⟨an,Y,bY⟩:=lx l.out;obtain⟨bn,X,bs⟩:=lx s.out;have HA:=Qh Y;have ad:=Qh X;have z:=b5.cell 1;have z2:=x4.cell 2;have z4:=x4.cell 4;rw[Y]at z2;rw[X]at z4;clear Y X;by_cases al:an=bn
   ·have bw:x=13:=by
     rw[<-HE.out];unfold bC;rw[kl u.out,HL.out,kl (by rw[l.out];decide),kl (by rw[s.out];decide),kZ (by rw[HA.out,ad.out,al])]
    subst al;go_wp2;go_ret;exact⟨by rw[bw];rfl,t⟩
   have dO:((an:Int)==(bn:Int))=false:=it.2 (by omega);obtain⟨g2,o2,bb,b7,ej,dv,a3,bv⟩:=(H.out.bodies.bd t).at_ bs;subst b7;obtain⟨ab,M,b6⟩:=(H.out.bodies.bd t).rowAt bY;obtain⟨Ab,nb,cb,k0,k1,Z,_⟩:=bv;obtain⟨Aa,na,ca,l0,l1,aS,_⟩:=b6;have a9:cY L f.a=ab.pts:=by unfold cY;rw[HA.out];show (match L.bodies[an]? with|some b=>b.pts|none=>[])=_;rw[M]
   have aF:cY L f.b=bb.pts:=by unfold cY;rw[ad.out];show (match L.bodies[bn]? with|some b=>b.pts|none=>[])=_;rw[a3]
   have V:=Qh aS.1;have aT:=Qh Z.1;have cn:((bn:Nat):Int)<((n:Nat):Int):=by omega
   have cm:((an:Nat):Int)<((n:Nat):Int):=by omega
   obtain⟨v3,a6⟩:∃v,inI f.point na=v:=⟨_,rfl⟩;obtain⟨v4,a5⟩:∃v,inI f.on nb=v:=⟨_,rfl⟩;have D:=Qh a6;have O:=Qh a5;have bl:=Qh Z;have ao:=Qh a9;have a1:=Qh aF;have R:=Qh (show ¬f.a=f.b by rw[HA.out,ad.out];omega);have z3:=x4.cell 3;clear a6 a5 Z aS a9 aF a3 M al;go_wp2_with fail;go_quiet (fail);go_wp2_with fail;refine(nQ _ f.point na v3 D.out).mono ?_;rintro e' w5⟨rfl,a2⟩;have I:Below w4.heap.size w4 w5:=ag (af (aa w4) _) a2;have ac:=t.trans (I.mono t.size);have x5:=x4.below I x4.lt;clear z2 z3 z4 z k0 k1 l0 l1 a2;cases v3
   ·have h9:x=9:=by
     rw[<-HE.out];unfold bC;rw[kl u.out,HL.out,kl (by rw[l.out];decide),kl (by rw[s.out];decide),kl R.out,ao.out,V.out,kZ D.out]
    go_wp2;go_ret;exact⟨by rw[h9];rfl,ac⟩
   have z5:=x5.cell 5;go_wp2_with fail;refine(nQ _ f.on nb v4 O.out).mono ?_;rintro e' w6⟨rfl,J⟩;have bu:=I.trans (J.mono I.size);have U:=ac.trans (J.mono ac.size);have x6:=x5.below J x5.lt;clear z5 J;cases v4
   ·have h9:x=9:=by
     rw[<-HE.out];unfold bC;rw[kl u.out,HL.out,kl (by rw[l.out];decide),kl (by rw[s.out];decide),kl R.out,ao.out,V.out,kl (by rw[D.out];decide),a1.out,aT.out,kZ O.out]
    go_wp2;go_ret;exact⟨by rw[h9];rfl,U⟩
   have aZ:x=(if f.kind=0 then (if f.to_=0 then 0 else 2) else if inI f.to_ nb=false then 9 else if fC bb.pts f.on f.to_=true then 8 else 0):=by
    rw[<-HE.out];unfold bC;rw[kl u.out,HL.out,kl (by rw[l.out];decide),kl (by rw[s.out];decide),kl R.out,ao.out,V.out,kl (by rw[D.out];decide),a1.out,aT.out,kl (by rw[O.out];decide)]
   have a8:=Qh aZ;clear aZ;have z1:=x6.cell 1;have z6:=x6.cell 6;by_cases K:f.to_=0
   ·have hx:x=0:=by rw[a8.out,kZ a7.out,kZ K]
    have t0:(f.to_==0)=true:=xm.2 K;have t1:(f.to_ != 0)=false:=by rw[K];rfl
    clear K;go_wp2;go_ret;exact⟨by rw[hx];rfl,U⟩
   have hx:x=2:=by rw[a8.out,kZ a7.out,kl K]
   have t0:(f.to_==0)=false:=it.2 K;have t1:(f.to_ != 0)=true:=F6.2 K;clear K;go_wp2;go_ret;exact⟨by rw[hx];rfl,U⟩
  have e0:(f.kind==0)=false:=it.2 N;have e2:(f.kind != 0)=true:=F6.2 N;have b0:f.kind=1:=by omega
  have e1:(f.kind==1)=true:=xm.2 b0;have e3:(f.kind != 1)=false:=by rw[b0];rfl
  have a7:=Qh N;clear N G b0;have z1:=x2.cell 1;have z2:=x2.cell 2;have z:=T.cell 1;obtain⟨v1,a4⟩:∃v,inI f.a n=v:=⟨_,rfl⟩;obtain⟨v2,a0⟩:∃v,inI f.b n=v:=⟨_,rfl⟩;have l:=Qh a4;have s:=Qh a0;clear a4 a0;go_wp2_with fail;refine(nQ _ f.a n v1 l.out).mono ?_;rintro e' w3⟨rfl,E⟩;have Q:=S.trans (E.mono S.size);have W:=T.below E T.lt;have x3:=x2.below E x2.lt;clear z1 z2 z E;cases v1
  ·have h9:x=9:=by rw[<-HE.out];unfold bC;rw[kl u.out,HL.out,kZ l.out]
   go_wp2;go_ret;exact⟨by rw[h9];rfl,Q⟩
  have z4:=x3.cell 4;have z:=W.cell 1;go_wp2_with fail;refine(nQ _ f.b n v2 s.out).mono ?_;rintro e' w4⟨rfl,F⟩;have t:=Q.trans (F.mono Q.size);have b5:=W.below F W.lt;have x4:=x3.below F x3.lt;clear z4 z F;cases v2
  ·have h9:x=9:=by rw[<-HE.out];unfold bC;rw[kl u.out,HL.out,kl (by rw[l.out];decide),kZ s.out]
   go_wp2;go_ret;exact⟨by rw[h9];rfl,t⟩
  obtain⟨an,Y,bY⟩:=lx l.out;obtain⟨bn,X,bs⟩:=lx s.out;have HA:=Qh Y;have ad:=Qh X;have z:=b5.cell 1;have z2:=x4.cell 2;have z4:=x4.cell 4;rw[Y]at z2;rw[X]at z4;clear Y X;by_cases al:an=bn
  ·have bw:x=13:=by
    rw[<-HE.out];unfold bC;rw[kl u.out,HL.out,kl (by rw[l.out];decide),kl (by rw[s.out];decide),kZ (by rw[HA.out,ad.out,al])]
   subst al;go_wp2;go_ret;exact⟨by rw[bw];rfl,t⟩
  have dO:((an:Int)==(bn:Int))=false:=it.2 (by omega);obtain⟨g2,o2,bb,b7,ej,dv,a3,bv⟩:=(H.out.bodies.bd t).at_ bs;subst b7;obtain⟨ab,M,b6⟩:=(H.out.bodies.bd t).rowAt bY;obtain⟨Ab,nb,cb,k0,k1,Z,_⟩:=bv;obtain⟨Aa,na,ca,l0,l1,aS,_⟩:=b6;have a9:cY L f.a=ab.pts:=by unfold cY;rw[HA.out];show (match L.bodies[an]? with|some b=>b.pts|none=>[])=_;rw[M]
  have aF:cY L f.b=bb.pts:=by unfold cY;rw[ad.out];show (match L.bodies[bn]? with|some b=>b.pts|none=>[])=_;rw[a3]
  have V:=Qh aS.1;have aT:=Qh Z.1;have cn:((bn:Nat):Int)<((n:Nat):Int):=by omega
  have cm:((an:Nat):Int)<((n:Nat):Int):=by omega
  obtain⟨v3,a6⟩:∃v,inI f.point na=v:=⟨_,rfl⟩;obtain⟨v4,a5⟩:∃v,inI f.on nb=v:=⟨_,rfl⟩;have D:=Qh a6;have O:=Qh a5;have bl:=Qh Z;have ao:=Qh a9;have a1:=Qh aF;have R:=Qh (show ¬f.a=f.b by rw[HA.out,ad.out];omega);have z3:=x4.cell 3;clear a6 a5 Z aS a9 aF a3 M al;go_wp2_with fail;go_quiet (fail);go_wp2_with fail;refine(nQ _ f.point na v3 D.out).mono ?_;rintro e' w5⟨rfl,a2⟩;have I:Below w4.heap.size w4 w5:=ag (af (aa w4) _) a2;have ac:=t.trans (I.mono t.size);have x5:=x4.below I x4.lt;clear z2 z3 z4 z k0 k1 l0 l1 a2;cases v3
  ·have h9:x=9:=by
    rw[<-HE.out];unfold bC;rw[kl u.out,HL.out,kl (by rw[l.out];decide),kl (by rw[s.out];decide),kl R.out,ao.out,V.out,kZ D.out]
   go_wp2;go_ret;exact⟨by rw[h9];rfl,ac⟩
  have z5:=x5.cell 5;go_wp2_with fail;refine(nQ _ f.on nb v4 O.out).mono ?_;rintro e' w6⟨rfl,J⟩;have bu:=I.trans (J.mono I.size);have U:=ac.trans (J.mono ac.size);have x6:=x5.below J x5.lt;clear z5 J;cases v4
  ·have h9:x=9:=by
    rw[<-HE.out];unfold bC;rw[kl u.out,HL.out,kl (by rw[l.out];decide),kl (by rw[s.out];decide),kl R.out,ao.out,V.out,kl (by rw[D.out];decide),a1.out,aT.out,kZ O.out]
   go_wp2;go_ret;exact⟨by rw[h9];rfl,U⟩
  have aZ:x=(if f.kind=0 then (if f.to_=0 then 0 else 2) else if inI f.to_ nb=false then 9 else if fC bb.pts f.on f.to_=true then 8 else 0):=by
   rw[<-HE.out];unfold bC;rw[kl u.out,HL.out,kl (by rw[l.out];decide),kl (by rw[s.out];decide),kl R.out,ao.out,V.out,kl (by rw[D.out];decide),a1.out,aT.out,kl (by rw[O.out];decide)]
  have a8:=Qh aZ;clear aZ;have z1:=x6.cell 1;have z6:=x6.cell 6;obtain⟨v5,cx⟩:∃v,inI f.to_ nb=v:=⟨_,rfl⟩;have be:=Qh cx;clear cx;go_wp2_with fail;refine(nQ _ f.to_ nb v5 be.out).mono ?_;rintro e' P⟨rfl,bg⟩;have c7:=bu.trans (bg.mono bu.size);have bx:=U.trans (bg.mono U.size);have x7:=x6.below bg x6.lt;clear z1 z6 bg;cases v5
  ·have hx:x=9:=by rw[a8.out,kl a7.out,kZ be.out]
   go_wp2;go_ret;exact⟨by rw[hx];rfl,bx⟩
  obtain⟨on,bo,cc⟩:=lx O.out;obtain⟨tn,br,cv⟩:=lx be.out;have z5:P.cell? ⟨w.heap.size+1,5,none⟩=some (.int .i64 (on:Nat)):=by have:=x7.cell 5;rw[bo]at this;exact this
  have z6:P.cell? ⟨w.heap.size+1,6,none⟩=some (.int .i64 (tn:Nat)):=by have:=x7.cell 6;rw[br]at this;exact this
  have ep:w.heap.size+1<P.heap.size:=x7.lt;obtain⟨g3,o3,m,ee,eq,el,hm,hM⟩:=(bl.out.mk_ c7).at_ cc;subst ee;obtain⟨m',b9,dd⟩:=(bl.out.mk_ c7).rowAt cv;obtain⟨d0,⟨b1,A1,n1,c1,D1,m1,f1,d1,d2,d3,c8⟩,⟨b2,A2,n2,c2,D2,m2,f2,d4,d5,d6,cu⟩,_⟩:=hM;obtain⟨y0,⟨b3,A3,n3,c3,D3,m3,f3,y1,y2,y3,cL⟩,⟨b4,A4,n4,c4,D4,m4,f4,y4,y5,y6,cr⟩,_⟩:=dd;have d2:P.cell? ⟨g3,o3+on*7+2,none⟩=some (.slice A1 n1 c1):=d2;have d3:P.cell? ⟨g3,o3+on*7+3,none⟩=some (.slice D1 m1 f1):=d3;have d5:P.cell? ⟨g3,o3+on*7+5,none⟩=some (.slice A2 n2 c2):=d5;have d6:P.cell? ⟨g3,o3+on*7+6,none⟩=some (.slice D2 m2 f2):=d6;have y2:P.cell? ⟨g3,o3+tn*7+2,none⟩=some (.slice A3 n3 c3):=y2;have y3:P.cell? ⟨g3,o3+tn*7+3,none⟩=some (.slice D3 m3 f3):=y3;have y5:P.cell? ⟨g3,o3+tn*7+5,none⟩=some (.slice A4 n4 c4):=y5;have y6:P.cell? ⟨g3,o3+tn*7+6,none⟩=some (.slice D4 m4 f4):=y6
  have cp:fC bb.pts f.on f.to_=(decide (m.x.q=m'.x.q)&&decide (m.y.q=m'.y.q)):=by
   unfold fC;rw[bo,br];show (match bb.pts[on]?,bb.pts[tn]? with|some p,some q=>decide (p.x.q=q.x.q)&&decide (p.y.q=q.y.q)|_,_=>false)=_;rw[hm,b9]
  have ea:=Qh cp;have eg:=Qh c8;have ec:=Qh cu;have ei:=Qh cL;have ed:=Qh cr;have en:((on:Nat):Int)<((nb:Nat):Int):=by omega
  have ek:((tn:Nat):Int)<((nb:Nat):Int):=by omega
  obtain⟨vs,bF⟩:∃v,(decide (m.x.q=m'.x.q)&&decide (m.y.q=m'.y.q))=v:=⟨_,rfl⟩;have dr:=Qh bF;have co:x=if vs=true then 8 else 0:=by rw[a8.out,kl a7.out,kl (by rw[be.out];decide),ea.out,bF]
  have cj:=Qh co;clear cp c8 cu cL cr hm b9 bo br bF co;go_wp2_with fail
  go_region_held3 (fun w'=>Sees P.heap.size P w') (first|with_reducible exact Sees.of Qr (by assumption)|with_reducible exact Sees.of Qr (aa _).drew|exact Sees.of Qr (af (aa _) 1)|exact Sees.of Qr (af (by assumption) _))
   (first
    |(go_at_call 95;(with_reducible refine(DR _ k hk eb m.name m'.name b1 A1 n1 c1 D1 m1 f1 m.x ?_ b2 A2 n2 c2 D2 m2 f2 m.y ?_ b3 A3 n3 c3 D3 m3 f3 m'.x ?_ b4 A4 n4 c4 D4 m4 f4 m'.y ?_ vs dr.out).mono ?_);(exact eg.out);(exact ec.out);(exact ei.out);(exact ed.out);rintro e' w8⟨rfl,bz⟩;replace bz:=ag (af (aa _) 1) bz;have q8:Below P.heap.size P w8:=ag (aa P) bz))
  have ck:=bx.trans (q8.mono bx.size);cases vs
  ·have hx:x=0:=cj.out
   go_wp2;go_ret;exact⟨by first|rfl|(rw[hx];rfl),ck⟩
  have hx:x=8:=cj.out;go_wp2;go_ret;exact⟨by first|rfl|(rw[hx];rfl),ck⟩
theorem pV(w:World)(A:Option Addr)(n c:Nat)(B:Option Addr)(p d:Nat)(C:Option Addr)(q e:Nat)(L:am)(k:Nat)(h:LkS k w A n c B p d C q e L)(hk:k<=10000000)(bk:0<k)(x:Int)(hx:bN L=x):
 Calls Tryz.prog 19 #[.agg #[ae L.name,.slice A n c,.slice B p d,.slice C q e]] w (av w (.int .i64 x)):=by
 have al:=h.bodies.1;obtain⟨v,hv⟩:=Z9 (bU L.name);have HV:=Qh hv;have HX:=Qh hx;have HL:=Qh al;have S:=Qh h.joints.1;have W:=Qh h.drivers.1;have H:=Qh h;clear hv hx al h;go_in;go_wp2_with fail;refine(mL _ L.name H.out.name v HV.out).mono ?_;rintro e' w1⟨rfl,ad⟩;have q1:=ad.q1;have x1:Blk w1 w.heap.size 36 #[ae L.name,.slice A n c,.slice B p d,.slice C q e]:=(aj _ _ _ (by simp)).below ad (by simp);clear ad;cases v
 ·have h5:x=5:=by rw[<-HX.out];unfold bN;rw[kZ HV.out]
  go_wp2;go_ret;exact⟨by rw[h5];rfl,q1⟩
 have G:x=if n=0 then 10 else if 8<n then 4 else if bM aY [] L.bodies≠0 then bM aY [] L.bodies
  else if 16<p then 4 else if bM (aW L) [] L.joints≠0 then bM (aW L) [] L.joints
  else if 2<q then 4 else bM (aG n) [] L.drivers:=by
  rw[<-HX.out];unfold bN;rw[kl (by rw[HV.out];decide),HL.out,S.out,W.out]
 obtain⟨P,I⟩:∃y,bM aY [] L.bodies=y:=⟨_,rfl⟩;obtain⟨y2,Q⟩:∃y,bM (aW L) [] L.joints=y:=⟨_,rfl⟩;obtain⟨y3,ab⟩:∃y,bM (aG n) [] L.drivers=y:=⟨_,rfl⟩;rw[I,Q,ab]at G;have Z:=Qh G;have ba:=Qh I;have a1:=Qh (dt Q);have ao:=Qh (dt ab);clear G I Q ab;have l:=x1.cell 1;by_cases h0:n=0
 ·have e0:((n:Int)==0)=true:=xm.2 (by omega)
  have a3:((n:Int)=0)=True:=xr (by omega);have a6:x=10:=by rw[Z.out,kZ h0]
  clear h0;go_wp2;go_ret;exact⟨by rw[a6];rfl,q1⟩
 have e0:((n:Int)==0)=false:=it.2 (by omega);have a3:((n:Int)=0)=False:=oK (by omega);by_cases h8:8<n
 ·have e8:((8:Int)<(n:Int))=True:=xr (by omega)
  have h4:x=4:=by rw[Z.out,kl h0,kZ h8]
  go_wp2;go_ret;exact⟨by rw[h4];rfl,q1⟩
 have e8:((8:Int)<(n:Int))=False:=oK (by omega);have ac:=Z.out;rw[kl h0,kl h8]at ac;have aS:=Qh ac;have X:n<=8:=by omega
 have m:=x1.cell 0;have f:=x1.cell 2;have o:=x1.cell 3;clear ac h0 h8;go_wp2_with fail;refine(zM _ A n c B p d C q e L k (H.out.belw q1) hk X P ba.out).mono ?_;rintro e' w2⟨rfl,aC⟩;have q2:=q1.trans (aC.mono q1.size);have x2:=x1.below aC x1.lt;clear m l f o;by_cases F:P=0
 case neg =>
  have a8:x=P:=by rw[aS.out,kZ F]
  have f0:(P==0)=false:=it.2 F;have f1:(P != 0)=true:=F6.2 F;clear F;go_wp2;go_ret;exact⟨by rw[a8];rfl,q2⟩
 have T:=aS.out;rw[kl (by simp[F])]at T;have a0:=Qh T;have f0:(P==0)=true:=xm.2 F;have f1:(P != 0)=false:=by rw[F];rfl
 have f:=x2.cell 2;clear T F;by_cases J:16<p
 ·have a7:((16:Int)<(p:Int))=True:=xr (by omega)
  have h4:x=4:=by rw[a0.out,kZ J]
  go_wp2;go_ret;exact⟨by rw[h4];rfl,q2⟩
 have a7:((16:Int)<(p:Int))=False:=oK (by omega);have an:p<=16:=by omega
 have V:=a0.out;rw[kl J]at V;have U:=Qh V;clear V J;go_wp2_with fail;clear f;go_loopw [4] (fun O wr=>∃i:Nat,O=.int .i64 (i:Nat)/\i<=p/\Hid (bM (aW L) (L.joints.take i) (L.joints.drop i)=y2)/\Below w2.heap.size w2 wr) (fun O _=>p-(intOf O).toNat)
 case atStart=>exact⟨0,rfl,Nat.zero_le _,a1,aa w2⟩
 case round =>
  clear a1;obtain⟨i,rfl,hi,HP,D⟩:=hrel;rename World=>w3;have x3:=x2.below D x2.lt;have q3:=q2.trans (D.mono q2.size);have m:=x3.cell 0;have l:=x3.cell 1;have f:=x3.cell 2;have o:=x3.cell 3;rcases Nat.lt_or_ge i p with r|bg
  ·have a5:((i:Int)<(p:Int))=True:=by simp;omega
   obtain⟨j,hj⟩:∃j,L.joints[i]?=some j:=⟨_,sx (by rw[S.out];exact r)⟩;have g:=dS HP.out hj;obtain⟨z,K⟩:=Z9 (aW L (L.joints.take i) j);rw[K]at g;have HZ:=Qh K;have t:=Qh g;have HJ:=Qh hj;clear hj g K HP;go_wp2_with fail;refine(Ci _ A n c B p d C q e L k (H.out.belw q3) hk bk X an i r j HJ.out z HZ.out).mono ?_;rintro e' w4⟨rfl,a2⟩;have q4:=q3.trans (a2.mono q3.size);clear m l f o;by_cases a:z=0
   ·have N:Hid (bM (aW L) (L.joints.take (i+1)) (L.joints.drop (i+1))=y2):=Qh (by
     rcases t.out with⟨_,u⟩|⟨u,_⟩
     ·exact u
     exact absurd a u)
    have g0:(z==0)=true:=xm.2 a;have g1:(z != 0)=false:=by rw[a];rfl
    clear a;go_wp2_with fail;go_roundw
    case rel=>exact⟨i+1,by go_num,by omega,N,D.trans (a2.mono D.size)⟩
    case measure=>simp[intOf];omega
   ·have Y:x=z:=by
     rcases t.out with⟨u,_⟩|⟨_,u⟩
     ·exact absurd u a
     rw[U.out,<-u,kZ a]
    have g0:(z==0)=false:=it.2 a;have g1:(z != 0)=true:=F6.2 a;clear a;go_wp2;go_ret;exact⟨by rw[Y];rfl,q4⟩
  have a5:((i:Int)<(p:Int))=False:=by simp;omega
  have aZ:y2=0:=fo HP.out (by rw[S.out];exact bg);have M:=U.out;rw[kl (by simp[aZ])]at M;have aF:=Qh M;clear M aZ U;by_cases h2:2<q
  ·have e2:((2:Int)<(q:Int))=True:=xr (by omega)
   have h4:x=4:=by rw[aF.out,kZ h2]
   go_wp2;go_ret;exact⟨by rw[h4];rfl,q3⟩
  have e2:((2:Int)<(q:Int))=False:=oK (by omega);have bb:q<=2:=by omega
  have bd:x=y3:=by rw[aF.out,kl h2]
  subst bd;clear h2;go_wp2_with fail;clear m l f o;go_loopw [6] (fun O wr=>∃i:Nat,O=.int .i64 (i:Nat)/\i<=q/\Hid (bM (aG n) (L.drivers.take i) (L.drivers.drop i)=x)/\Below w3.heap.size w3 wr) (fun O _=>q-(intOf O).toNat)
  case atStart=>exact⟨0,rfl,Nat.zero_le _,ao,aa w3⟩
  case round =>
   clear ao;obtain⟨s,rfl,hs,R,E⟩:=hrel;rename World=>w5;have x5:=x3.below E x3.lt;have q5:=q3.trans (E.mono q3.size);have m:=x5.cell 0;have l:=x5.cell 1;have f:=x5.cell 2;have o:=x5.cell 3;rcases Nat.lt_or_ge s q with r|a9
   ·have be:((s:Int)<(q:Int))=True:=by simp;omega
    obtain⟨b,hb⟩:∃b,L.drivers[s]?=some b:=⟨_,sx (by rw[W.out];exact r)⟩;have g:=dS R.out hb;obtain⟨z,K⟩:=Z9 (aG n (L.drivers.take s) b);rw[K]at g;have HZ:=Qh K;have t:=Qh g;have HB:=Qh hb;clear hb g K R;go_wp2_with fail;refine(zR _ A n c B p d C q e L k (H.out.belw q5) hk X bb s r b HB.out z HZ.out).mono ?_;rintro e' w6⟨rfl,aT⟩;have q6:=q5.trans (aT.mono q5.size);clear m l f o;by_cases a:z=0
    ·have N:Hid (bM (aG n) (L.drivers.take (s+1)) (L.drivers.drop (s+1))=x):=Qh (by
      rcases t.out with⟨_,u⟩|⟨u,_⟩
      ·exact u
      exact absurd a u)
     have g0:(z==0)=true:=xm.2 a;have g1:(z != 0)=false:=by rw[a];rfl
     clear a;go_wp2_with fail;go_roundw
     case rel=>exact⟨s+1,by go_num,by omega,N,E.trans (aT.mono E.size)⟩
     case measure=>simp[intOf];omega
    ·have Y:x=z:=by
      rcases t.out with⟨u,_⟩|⟨_,u⟩
      ·exact absurd u a
      exact u.symm
     have g0:(z==0)=false:=it.2 a;have g1:(z != 0)=true:=F6.2 a;clear a;go_wp2;go_ret;exact⟨by rw[Y];rfl,q6⟩
   have be:((s:Int)<(q:Int))=False:=by simp;omega
   have a4:x=0:=fo R.out (by rw[W.out];exact a9);go_wp2;go_ret;exact⟨by rw[a4];rfl,q5⟩
theorem DS(w:World)(A:Option Addr)(n c:Nat)(b:aq)(h:SlS (hH 500) 7 w A n c b.pts)(hn:n<=1000)(bF:b.name.length<=1000)(I:∀m∈b.pts,m.name.length<=1000)(T:List UInt8)(hT:gZ b=T):
 Calls Tryz.prog 66 #[.agg #[ae b.name,.slice A n c]] w (av w (ae T)):=by
 have HM:=Qh (h.short I);have HF:=Qh (jC (h.short I));have z:=h.1;have cm:=h.2.1;have b3:=ah b.name;obtain⟨R,v⟩:∃t,[98,111,100,121,32]++b.name=t:=⟨_,rfl⟩;have bk:=aL ([98,111,100,121,32]) (b.name);rw[v]at bk;have bo:R.length=5+b.name.length:=by rw[<-v,kc];try simp
 have cp:(9223372036854775807<5+b.name.length)=False:=oK (by omega);have ck:=ah R;obtain⟨F,f⟩:∃t,R++[32,123]=t:=⟨_,rfl⟩;have be:=aL (R) ([32,123]);rw[f]at be;have aC:F.length=R.length+2:=by rw[<-f,kc];try simp
 have cx:(9223372036854775807<R.length+2)=False:=oK (by omega);have bs:=ah F;have HE:Hid (T=F++b.pts.flatMap bm++[32,125]):=Qh (by rw[<-hT,<-f,<-v];rfl);have W:=Qh z;have H:=Qh h;have cb:F.length<=1007:=by omega
 clear h I hT z v f bo aC;go_in;go_wp2_with fail;go_loopw [3,4] (fun ov iv wr=>∃(i:Nat) (O:List UInt8),ov=ae O/\iv=.int .i64 (i:Nat)/\i<=n/\Hid (F++(b.pts.take i).flatMap bm=O)/\Blk wr w.heap.size 62 #[ae b.name,.slice A n c]/\Below w.heap.size w wr) (fun _ iv _=>n-(intOf iv).toNat)
 case atStart=>exact⟨0,F,rfl,rfl,Nat.zero_le _,Qh (by simp),aj _ _ _ (by simp),(aa w).alloc Qr _⟩
 case round =>
  obtain⟨i,O,rfl,rfl,hi,HO,P,hb⟩:=hrel;rename World=>wa;have cn:w.heap.size<wa.heap.size:=P.lt;obtain⟨al,ba⟩:=P.c2;have a7:=cP bm b.pts i;have b9:=ah O
  have co:O.length<=1007+22000*n:=by
   rw[<-HO.out,kc];have h9:=HF.out;rw[W.out]at h9;omega
  rcases Nat.lt_or_ge i n with a1|bg
  ·have a0:((i:Int)<(n:Int))=True:=by simp;omega
   obtain⟨g,o,m,e1,hg,_,B,hM⟩:=(H.out.mk_ hb).at_ a1;subst e1;have br:=HM.out m (pk B);obtain⟨bl,V,ac⟩:=br;have E:=dy bm B;obtain⟨d0,⟨b1,A1,n1,c1,D1,m1,e1,d1,d2,d3,ab⟩,⟨b2,A2,n2,c2,D2,m2,e2,d4,d5,d6,S⟩,b8⟩:=hM;have d2:wa.cell? ⟨g,o+i*7+2,none⟩=some (.slice A1 n1 c1):=d2;have d3:wa.cell? ⟨g,o+i*7+3,none⟩=some (.slice D1 m1 e1):=d3;have d5:wa.cell? ⟨g,o+i*7+5,none⟩=some (.slice A2 n2 c2):=d5;have d6:wa.cell? ⟨g,o+i*7+6,none⟩=some (.slice D2 m2 e2):=d6;have bw:=ah m.name;obtain⟨X,hX⟩:=Z9 (bH m.x.q);obtain⟨Y,hY⟩:=Z9 (bH m.y.q);have b7:=ah X;have bu:=ah Y;have b4:X.length<=10100:=by rw[<-hX];exact eG V Qr
   have b5:Y.length<=10100:=by rw[<-hY];exact eG ac Qr
   obtain⟨L,d⟩:∃t,[32]++m.name=t:=⟨_,rfl⟩;have a4:=aL ([32]) (m.name);rw[d]at a4;have a6:L.length=1+m.name.length:=by rw[<-d,kc];try simp
   have ca:(9223372036854775807<1+m.name.length)=False:=oK (by omega);have bY:=ah L;obtain⟨Q,j⟩:∃t,L++[32]=t:=⟨_,rfl⟩;have bb:=aL (L) ([32]);rw[j]at bb;have a2:Q.length=L.length+1:=by rw[<-j,kc];try simp
   have bz:(9223372036854775807<L.length+1)=False:=oK (by omega);have cu:=ah Q;obtain⟨M,p⟩:∃t,Q++X=t:=⟨_,rfl⟩;have bd:=aL (Q) (X);rw[p]at bd;have a3:M.length=Q.length+X.length:=by rw[<-p,kc];try simp
   have bv:(9223372036854775807<Q.length+X.length)=False:=oK (by omega);have cs:=ah M;obtain⟨K,r⟩:∃t,M++[32]=t:=⟨_,rfl⟩;have a8:=aL (M) ([32]);rw[r]at a8;have aS:K.length=M.length+1:=by rw[<-r,kc];try simp
   have bx:(9223372036854775807<M.length+1)=False:=oK (by omega);have cj:=ah K;obtain⟨N,l⟩:∃t,K++Y=t:=⟨_,rfl⟩;have an:=aL (K) (Y);rw[l]at an;have aZ:N.length=K.length+Y.length:=by rw[<-l,kc];try simp
   have cc:(9223372036854775807<K.length+Y.length)=False:=oK (by omega);have b0:=ah N;obtain⟨J,u⟩:∃t,N++[59]=t:=⟨_,rfl⟩;have ao:=aL (N) ([59]);rw[u]at ao;have aT:J.length=N.length+1:=by rw[<-u,kc];try simp
   have cr:(9223372036854775807<N.length+1)=False:=oK (by omega);have cv:=ah J
   have Z:bm m=J:=by
    rw[<-u,<-l,<-r,<-p,<-j,<-d,<-hX,<-hY];unfold bm;simp
   rw[Z]at E;obtain⟨O2,a⟩:∃t,O++J=t:=⟨_,rfl⟩;have C:=aL O J;rw[a]at C;have a5:(9223372036854775807<O.length+J.length)=False:=oK (by omega);have HX:=Qh hX;have HY:=Qh hY;have aF:=Qh ab;have bn:=Qh S;have U:Hid (F++(b.pts.take (i+1)).flatMap bm=O2):=Qh (by rw[E,<-ys,HO.out,a]);have b6:g<wa.heap.size:=hg;clear hX hY ab S Z a7 B bl V ac a E d j p r l u a6 a2 a3 aS aZ aT;go_wp2_with fail
   go_region_held3 (fun w'=>Sees wa.heap.size wa w') (first|with_reducible exact Sees.of Qr (by assumption)|with_reducible exact Sees.of Qr (aa _).drew|exact Sees.of Qr (af (aa _) 1)|exact Sees.of Qr (af (by assumption) _))
    (first
     |(go_at_call 106;(with_reducible refine(kL _ b1 A1 n1 c1 D1 m1 e1 m.x 500 ?_ (by decide) (by decide) X HX.out).mono ?_);(exact aF.out.belw (by first|exact s|exact aa _|exact(aa wa).drew|exact af (aa wa) _));rintro e' wx⟨rfl,G⟩;have k:Below wa.heap.size wa wx:=(by first|exact ag s G|exact ag (aa wa) G|exact ag (af (aa wa) _) G))
     |(go_at_call 106;(with_reducible refine(kL _ b2 A2 n2 c2 D2 m2 e2 m.y 500 ?_ (by decide) (by decide) Y HY.out).mono ?_);(exact bn.out.belw (by first|exact k|exact aa _|exact(aa wa).drew|exact af (aa wa) _));rintro e' wy⟨rfl,D⟩;have s:Below wa.heap.size wa wy:=(by first|exact ag k D|exact ag (aa wa) D|exact ag (af (aa wa) _) D)))
   all_goals
    clear al ba d0 d1 d2 d3 d4 d5 d6;go_wp2_with fail;go_roundw
    case rel =>
     first
      |exact⟨i+1,O2,rfl,by go_num,by omega,U,P.below s P.lt,hb.trans (s.mono hb.size)⟩
      |exact⟨i+1,O2,rfl,by go_num,by omega,U,P.below k P.lt,hb.trans (k.mono hb.size)⟩
    case measure=>simp[intOf];omega
  have a0:((i:Int)<(n:Int))=False:=by simp;omega
  have ad:b.pts.take i=b.pts:=ms (by rw[W.out];exact bg);rw[ad]at HO;obtain⟨O2,a⟩:∃t,O++[32,125]=t:=⟨_,rfl⟩;have C:=aL O [32,125];rw[a]at C;have a5:(9223372036854775807<O.length+2)=False:=oK (by omega);have a9:O2=T:=by rw[<-a,<-HO.out];exact HE.out.symm
  subst a9;clear a ad;go_wp2;go_ret;exact⟨rfl,hb⟩
theorem zV(w:World)(A:Option Addr)(n c:Nat)(B:Option Addr)(p d:Nat)(C:Option Addr)(q e:Nat)(L:am)(h:LkS 500 w A n c B p d C q e L)(g:bN L≠0):Calls Tryz.prog 33 #[.agg #[ae L.name,.slice A n c,.slice B p d,.slice C q e]] w (fun i j=>i=.returned (.tuple #[ae [],.int .i64 (bN L)])/\Below w.heap.size w j):=by
 obtain⟨x,f⟩:=Z9 (bN L);rw[f]at g⊢;have l:=Qh f;have H:=Qh h;have k:(x==0)=false:=by simpa using g
 clear h f;go_in;go_wp2_with fail;have b:Below w.heap.size w (w.alloc (.cells #[ae L.name,.slice A n c,.slice B p d,.slice C q e] 36)):=(aa w).alloc Qr _;refine(pV _ A n c B p d C q e L 500 (H.out.belw b) (by decide) (by decide) x l.out).mono ?_;rintro i m⟨rfl,a⟩;have q1:=b.trans (a.mono b.size);clear a;go_wp2_with fail;go_ret2;exact⟨rfl,q1⟩
theorem Cj(w:World)(A:Option Addr)(n c:Nat)(B:Option Addr)(p d:Nat)(C:Option Addr)(q e:Nat)(L:am)(h:LkS 500 w A n c B p d C q e L)(hc:bN L=0):Calls Tryz.prog 33 #[.agg #[ae L.name,.slice A n c,.slice B p d,.slice C q e]] w (fun e' w'=>e'=.returned (.tuple #[ae (bL L),.int .i64 (aI L)])/\Below w.heap.size w w'):=by
 have hk:=mQ hc;have bF:=h.bodies.1;have b2:=h.joints.1;have cc:=h.drivers.1;have fr:=hk.nb;have gg:=hk.nj;have ga:=hk.nd;have gu:=hk.b0;have hI:=h.bodies.2.1;have h7:=h.joints.2.1;have h3:=h.drivers.2.1;have hC:L.name.length<=24:=hk.name;have h0:=ah L.name;rw[bF]at fr gu;rw[b2]at gg;rw[cc]at ga;have ec:=dJ bt 180000 L.bodies (h.bodies.lineLen hk.body);have dq:=dJ (az L.bodies) 200 L.joints fun j hj=>gH hk.body (hk.joint j hj).1
 have cz:=dJ (aO L.bodies) 60 L.drivers fun d hd=>iY hk.body (hk.driver d hd).1
 rw[bF]at ec;rw[b2]at dq;rw[cc]at cz;obtain⟨h1,co⟩:∃t,[108,105,110,107,97,103,101,32]++L.name=t:=⟨_,rfl⟩;have g8:=aL ([108,105,110,107,97,103,101,32]) (L.name);rw[co]at g8;have ha:h1.length=8+L.name.length:=by rw[<-co,kc];try simp
 have hJ:(9223372036854775807<8+L.name.length)=False:=oK (by omega);have hG:=ah h1;obtain⟨h2,bY⟩:∃t,h1++[59,10]=t:=⟨_,rfl⟩;have g0:=aL (h1) ([59,10]);rw[bY]at g0;have e5:h2.length=h1.length+2:=by rw[<-bY,kc];try simp
 have hR:(9223372036854775807<h1.length+2)=False:=oK (by omega);have hW:=ah h2;have h5:h2.length<=34:=by omega
 obtain⟨S1,b6⟩:∃S,h2++L.bodies.flatMap bt=S:=⟨_,rfl⟩;obtain⟨S2,cn⟩:∃S,S1++L.joints.flatMap (az L.bodies)=S:=⟨_,rfl⟩;obtain⟨S3,cb⟩:∃S,S2++L.drivers.flatMap (aO L.bodies)=S:=⟨_,rfl⟩;have cr:S1.length<=34+180000*n:=by rw[<-b6,kc];omega
 have cv:S2.length<=34+180000*n+200*p:=by rw[<-cn,kc];omega
 have cs:S3.length<=34+180000*n+200*p+60*q:=by rw[<-cb,kc];omega
 have ez:bV L=S3:=by
  rw[<-cb,<-cn,<-b6,<-bY,<-co];unfold bV mR;simp
 have H:=Qh h;have HK:=Qh hk;have HC:=Qh hc;have e3:=Qh b6;have gr:=Qh cn;have gx:=Qh cb;have ee:=Qh ez;have eT:=Qh ec;have ex:=Qh dq;have eD:=Qh cz;have eg:=Qh bF;have gt:=Qh b2;have gD:=Qh cc;have gz:=Qh cr;have fI:=Qh cv;have hL:=Qh cs;clear h hk hc b6 cn cb ez ec dq cz bF b2 cc co bY ha e5 cr cv cs;go_in;go_wp2_with fail;have q0:Below w.heap.size w (w.alloc (.cells #[ae L.name,.slice A n c,.slice B p d,.slice C q e] 36)):=(aa w).alloc Qr _;have x0:Blk (w.alloc (.cells #[ae L.name,.slice A n c,.slice B p d,.slice C q e] 36)) w.heap.size 36 #[ae L.name,.slice A n c,.slice B p d,.slice C q e]:=aj _ _ _ rfl;refine(pV _ A n c B p d C q e L 500 (H.out.belw q0) (by decide) (by decide) 0 HC.out).mono ?_;rintro e' w1⟨rfl,ed⟩;have q1:=q0.trans (ed.mono q0.size);have x1:=x0.below ed x0.lt;have bl:w.heap.size<w1.heap.size:=x1.lt;have fN:=x1.cell 0;clear ed q0 x0;go_wp2_with fail;clear fN;go_loopw [5,6] (fun ov iv wr=>∃(i:Nat) (O:List UInt8),ov=ae O/\iv=.int .i64 (i:Nat)/\i<=n/\Hid (h2++(L.bodies.take i).flatMap bt=O)/\Below w1.heap.size w1 wr) (fun _ iv _=>n-(intOf iv).toNat)
 case atStart=>exact⟨0,h2,rfl,rfl,Nat.zero_le _,Qh (by simp),aa w1⟩
 case round =>
  obtain⟨i,O,rfl,rfl,hi,HO,hb⟩:=hrel;rename World=>wa;have xa:=x1.below hb bl;have u:=q1.trans (hb.mono q1.size);have ac:=xa.cell 1;have Y:=cP bt L.bodies i;have cj:=ah O
  have es:O.length<=34+180000*n:=by
   rw[<-HO.out,kc];have h9:=eT.out;omega
  rcases Nat.lt_or_ge i n with fc|g5
  ·have fb:((i:Int)<(n:Int))=True:=by simp;omega
   obtain⟨g,o,b,e1,hg,_,J,gE⟩:=(H.out.bodies.bd u).at_ fc;subst e1;have bb:=HK.out.body b (pk J);obtain⟨A',n',c',d0,d1,hM,_⟩:=gE;have s:=dy bt J;have m:=cP bt L.bodies (i+1);rw[s,kc]at m;obtain⟨T,hT⟩:=Z9 (gZ b);obtain⟨T1,b5⟩:∃t,T++[10]=t:=⟨_,rfl⟩;have cu:bt b=T1:=by rw[<-b5,<-hT];rfl
   rw[cu]at s m;have f9:=aL T [10];rw[b5]at f9;have f5:T1.length=T.length+1:=by rw[<-b5,kc];rfl
   have h9:=eT.out;have hE:(9223372036854775807<T.length+1)=False:=oK (by omega);have hQ:=ah T;have hq:=ah T1;obtain⟨O2,k⟩:∃t,O++T1=t:=⟨_,rfl⟩;have aC:=aL O T1;rw[k]at aC;have c1:(9223372036854775807<O.length+T1.length)=False:=oK (by omega);have G:Hid (h2++(L.bodies.take (i+1)).flatMap bt=O2):=Qh (by rw[s,<-ys,HO.out,k]);have HT:=Qh hT;have HM:=Qh hM;have en:=Qh bb;have c0:=bb.2.1;rw[hM.1]at c0;have ej:g<wa.heap.size:=hg;clear J bb hM s Y m hT b5 cu f5 h9 k;go_wp2_with fail;refine(DS _ A' n' c' b HM.out (by omega) en.out.nm en.out.mks T HT.out).mono ?_;rintro e' wc⟨rfl,qc⟩;clear ac d0 d1;go_wp2_with fail;go_roundw
   case rel=>exact⟨i+1,O2,rfl,by go_num,by omega,G,hb.trans (qc.mono hb.size)⟩
   case measure=>simp[intOf];omega
  have fb:((i:Int)<(n:Int))=False:=by simp;omega
  have ab:L.bodies.take i=L.bodies:=ms (by rw[eg.out];exact g5);rw[ab,e3.out]at HO;obtain rfl:=HO.out;have gT:=xa.cell 2;have ht:=gz.out;clear ab HO Y;go_wp2_with fail;clear gT ac;go_loopw [5,7] (fun ov iv wr=>∃(Q:Nat) (O:List UInt8),ov=ae O/\iv=.int .i64 (Q:Nat)/\Q<=p/\Hid (S1++(L.joints.take Q).flatMap (az L.bodies)=O)/\Below w1.heap.size w1 wr) (fun _ iv _=>p-(intOf iv).toNat)
  case atStart=>exact⟨0,S1,rfl,rfl,Nat.zero_le _,Qh (by simp),hb⟩
  case round =>
   clear hb xa u cj;obtain⟨Q,O,rfl,rfl,hX,HO,hb⟩:=hrel;rename World=>wj;have xa:=x1.below hb bl;have u:=q1.trans (hb.mono q1.size);obtain⟨ba,ac,bs,bk⟩:=xa.c4;have Y:=cP (az L.bodies) L.joints Q;have cj:=ah O
   have es:O.length<=34+180000*n+200*p:=by
    rw[<-HO.out,kc];have h9:=ex.out;omega
   rcases Nat.lt_or_ge Q p with e0|ew
   ·have he:((Q:Int)<(p:Int))=True:=by simp;omega
    obtain⟨g,o,j,e1,hg,_,J,fG⟩:=(H.out.joints.jt u).at_ e0;subst e1;have bb:=HK.out.joint j (pk J);obtain⟨hY,ja,jb,jp,jo,x,y,m1,m2,ea,eb,ep,eo,hx,hy,bx,bo,eq⟩:=bb;obtain⟨d0,d1,d2,d3,d4,d5,d6,_⟩:=fG;obtain⟨F1,ck⟩:∃F,x.name++46::m1.name=F:=⟨_,rfl⟩;obtain⟨F2,b8⟩:∃F,y.name++46::m2.name=F:=⟨_,rfl⟩;have be:=HK.out.body x (pk hx);have f:=HK.out.body y (pk hy);have hr:F1.length<=1000:=by rw[<-ck,kc,oP];have:=be.1;have:=(be.2.2 m1 (pk bx)).1;omega
    have hn:F2.length<=1000:=by rw[<-b8,kc,oP];have:=f.1;have:=(f.2.2 m2 (pk bo)).1;omega
    have K:=Qh (And.intro hx (And.intro bx (And.intro be.nm (And.intro (be.mks m1 (pk bx)) ck))));have M:=Qh (And.intro hy (And.intro bo (And.intro f.nm (And.intro (f.mks m2 (pk bo)) b8))));have e2:ic L.bodies j.a j.point=F1:=by rw[ea,ep,jE hx bx,ck]
    have el:ic L.bodies j.b j.on=F2:=by rw[eb,eo,jE hy bo,b8]
    have s:=dy (az L.bodies) J;have m:=cP (az L.bodies) L.joints (Q+1);rw[s,kc]at m;have hS:=ah j.name;have hu:=ah F1;have hw:=ah F2;have ej:g<wj.heap.size:=hg;have h9:=ex.out;have eh:(az L.bodies j).length<=200*p:=by omega
    have HW:=Qh eh;have eW:Hid (S1++(L.joints.take (Q+1)).flatMap (az L.bodies)=S1++(L.joints.take Q).flatMap (az L.bodies)++az L.bodies j):=Qh (by rw[s,ys]);have cx:=Qh (And.intro hy f);have fm:=Qh eb;have aS:=Qh (And.intro e2 el);have HA:=Qh (And.intro ea (And.intro ep (And.intro eb eo)));have HD:=Qh (And.intro d0 (And.intro d1 (And.intro d2 (And.intro d3 (And.intro d4 (And.intro d5 d6))))));have g7:=Qh eq;clear ck b8 hx hy bx bo be f e2 el s Y m J h9 eh eq d0 d1 d2 d3 d4 d5 d6;rcases g7.out with⟨eA,fT⟩|⟨c3,jt,m3,et,bw⟩
    ·have gq:(j.kind==0)=true:=by rw[eA];rfl
     have bu:cM L.bodies j=[[112,105,110],j.name,F1,F2]:=by
      unfold cM;rw[kl (by omega),aS.out.1,aS.out.2]
     obtain⟨d0,d1,d2,d3,d4,d5,d6⟩:=HD.out;rw[HA.out.1]at d2;rw[HA.out.2.1]at d3;rw[HA.out.2.2.1]at d4;rw[HA.out.2.2.2]at d5;clear eA ea ep eb eo fT;go_wp2_with fail;have xp:Blk (wj.alloc (.cells #[ae j.name,.int .i64 j.kind,.int .i64 (ja:Nat),.int .i64 (jp:Nat),.int .i64 (jb:Nat),.int .i64 (jo:Nat),.int .i64 j.to_] 79)) wj.heap.size 79 #[ae j.name,.int .i64 j.kind,.int .i64 (ja:Nat),.int .i64 (jp:Nat),.int .i64 (jb:Nat),.int .i64 (jo:Nat),.int .i64 j.to_]:=aj _ _ _ rfl;have qb:Below wj.heap.size wj (wj.alloc (.cells #[ae j.name,.int .i64 j.kind,.int .i64 (ja:Nat),.int .i64 (jp:Nat),.int .i64 (jb:Nat),.int .i64 (jo:Nat),.int .i64 j.to_] 79)):=(aa wj).alloc Qr _;have z:=Qh ((H.out.bodies.bd u).bd qb);have xb:=xa.below qb xa.lt;clear d0 d1 d2 d3 d4 d5 d6 ba ac bs bk;generalize (wj.alloc (.cells #[ae j.name,.int .i64 j.kind,.int .i64 (ja:Nat),.int .i64 (jp:Nat),.int .i64 (jb:Nat),.int .i64 (jo:Nat),.int .i64 j.to_] 79))=wb at xp qb z xb⊢;have gj:wj.heap.size<wb.heap.size:=xp.lt;have eQ:w.heap.size<wb.heap.size:=xb.lt;obtain⟨a6,a1,aZ,a8,a2,a3,a5⟩:=xp.c7;obtain⟨a9,a0,a7,a4⟩:=xb.c4;obtain⟨t1,V⟩:∃t,[112,105,110,32]++j.name=t:=⟨_,rfl⟩;have dO:=aL ([112,105,110,32]) (j.name);rw[V]at dO;have cL:t1.length=4+j.name.length:=by rw[<-V,kc];try simp
     have go:(9223372036854775807<4+j.name.length)=False:=oK (by omega);have e8:=ah t1;obtain⟨t2,N⟩:∃t,t1++[32]=t:=⟨_,rfl⟩;have at2:=aL (t1) ([32]);rw[N]at at2;have c8:t2.length=t1.length+1:=by rw[<-N,kc];try simp
     have fn:(9223372036854775807<t1.length+1)=False:=oK (by omega);have e9:=ah t2;obtain⟨t3,U⟩:∃t,t2++F1=t:=⟨_,rfl⟩;have at3:=aL (t2) (F1);rw[U]at at3;have c9:t3.length=t2.length+F1.length:=by rw[<-U,kc];try simp
     have f6:(9223372036854775807<t2.length+F1.length)=False:=oK (by omega);have ft:=ah t3;obtain⟨t4,W⟩:∃t,t3++[32]=t:=⟨_,rfl⟩;have at4:=aL (t3) ([32]);rw[W]at at4;have ds:t4.length=t3.length+1:=by rw[<-W,kc];try simp
     have gy:(9223372036854775807<t3.length+1)=False:=oK (by omega);have e7:=ah t4;obtain⟨t5,P⟩:∃t,t4++F2=t:=⟨_,rfl⟩;have c6:=aL (t4) (F2);rw[P]at c6;have cy:t5.length=t4.length+F2.length:=by rw[<-P,kc];try simp
     have f4:(9223372036854775807<t4.length+F2.length)=False:=oK (by omega);have f0:=ah t5;obtain⟨t6,R⟩:∃t,t5++[59,10]=t:=⟨_,rfl⟩;have c5:=aL (t5) ([59,10]);rw[R]at c5;have c2:t6.length=t5.length+2:=by rw[<-R,kc];try simp
     have fl:(9223372036854775807<t5.length+2)=False:=oK (by omega);have gm:=ah t6
     have aF:az L.bodies j=t6:=by
      unfold az;rw[bu,<-R,<-P,<-W,<-U,<-N,<-V];simp[iG]
     have bg:=HW.out;rw[aF]at bg;have an:=eW.out;rw[aF]at an;obtain⟨O2,k⟩:∃t,O++t6=t:=⟨_,rfl⟩;have aC:=aL O t6;rw[k]at aC;have c1:(9223372036854775807<O.length+t6.length)=False:=oK (by omega);have G:Hid (S1++(L.joints.take (Q+1)).flatMap (az L.bodies)=O2):=Qh (by rw[an,HO.out,k]);clear aF bg an bu k V N U W P R cL c8 c9 ds cy c2;go_wp2_with fail
     go_region_held3 (fun w'=>Sees wb.heap.size wb w') (first|with_reducible exact Sees.of Qr (by assumption)|with_reducible exact Sees.of Qr (aa _).drew|with_reducible exact Sees.al (by assumption) _|exact Sees.of Qr (af (aa _) 1)|exact Sees.of Qr (af (by assumption) _))
      (first
       |(go_at_call 67;(with_reducible refine(mM _ _ _ _ _ _ _ _ _ _ _ L.bodies 500 ?_ ja jp x m1 K.out.1 K.out.2.1 K.out.2.2.1 K.out.2.2.2.1 F1 K.out.2.2.2.2).mono ?_);(exact z.out.bd (by first|with_reducible exact l|with_reducible exact aa _|exact(aa wb).drew|exact af (aa wb) _));rintro e' bn⟨rfl,E⟩;have r:Below wb.heap.size wb bn:=(by first|with_reducible exact ag l E|exact ag (aa wb) E|exact ag (af (aa wb) _) E))
       |(go_at_call 67;(with_reducible refine(mM _ _ _ _ _ _ _ _ _ _ _ L.bodies 500 ?_ jb jo y m2 M.out.1 M.out.2.1 M.out.2.2.1 M.out.2.2.2.1 F2 M.out.2.2.2.2).mono ?_);(exact z.out.bd (by first|with_reducible exact r|with_reducible exact aa _|exact(aa wb).drew|exact af (aa wb) _));rintro e' br⟨rfl,D⟩;have l:Below wb.heap.size wb br:=(by first|with_reducible exact ag r D|exact ag (aa wb) D|exact ag (af (aa wb) _) D)))
     all_goals
      rename_i ao;clear ao
      first
       | (have q9:Below wj.heap.size wj bn:=ag qb r
          clear a6 a1 aZ a8 a2 a3 a5 a9 a0 a7 a4;go_wp2_with fail;go_roundw
          case rel=>exact⟨Q+1,O2,rfl,by go_num,by omega,G,hb.trans (q9.mono hb.size)⟩
          case measure=>simp[intOf];omega)
       | (have q9:Below wj.heap.size wj br:=ag qb l
          clear a6 a1 aZ a8 a2 a3 a5 a9 a0 a7 a4;go_wp2_with fail;go_roundw
          case rel=>exact⟨Q+1,O2,rfl,by go_num,by omega,G,hb.trans (q9.mono hb.size)⟩
          case measure=>simp[intOf];omega)
    have gq:(j.kind==0)=false:=by rw[c3];rfl
    obtain⟨F3,b3⟩:∃F,y.name++46::m3.name=F:=⟨_,rfl⟩;have f:=cx.out.2;have hp:F3.length<=1000:=by rw[<-b3,kc,oP];have:=f.1;have:=(f.2.2 m3 (pk bw)).1;omega
    have hl:=ah F3;have bv:=Qh (And.intro cx.out.1 (And.intro bw (And.intro f.nm (And.intro (f.mks m3 (pk bw)) b3))))
    have bu:cM L.bodies j=[[115,108,105,100,101],j.name,F1,F2,F3]:=by
     unfold cM;have gp:=jE cx.out.1 bw;rw[kZ c3,aS.out.1,aS.out.2,fm.out,et,gp,b3]
    obtain⟨d0,d1,d2,d3,d4,d5,d6⟩:=HD.out;rw[HA.out.1]at d2;rw[HA.out.2.1]at d3;rw[HA.out.2.2.1]at d4;rw[HA.out.2.2.2]at d5;rw[et]at d6;clear c3 ea ep eb eo b3 f bw et;go_wp2_with fail;have xp:Blk (wj.alloc (.cells #[ae j.name,.int .i64 j.kind,.int .i64 (ja:Nat),.int .i64 (jp:Nat),.int .i64 (jb:Nat),.int .i64 (jo:Nat),.int .i64 (jt:Nat)] 79)) wj.heap.size 79 #[ae j.name,.int .i64 j.kind,.int .i64 (ja:Nat),.int .i64 (jp:Nat),.int .i64 (jb:Nat),.int .i64 (jo:Nat),.int .i64 (jt:Nat)]:=aj _ _ _ rfl;have qb:Below wj.heap.size wj (wj.alloc (.cells #[ae j.name,.int .i64 j.kind,.int .i64 (ja:Nat),.int .i64 (jp:Nat),.int .i64 (jb:Nat),.int .i64 (jo:Nat),.int .i64 (jt:Nat)] 79)):=(aa wj).alloc Qr _;have z:=Qh ((H.out.bodies.bd u).bd qb);have xb:=xa.below qb xa.lt;clear d0 d1 d2 d3 d4 d5 d6 ba ac bs bk;generalize (wj.alloc (.cells #[ae j.name,.int .i64 j.kind,.int .i64 (ja:Nat),.int .i64 (jp:Nat),.int .i64 (jb:Nat),.int .i64 (jo:Nat),.int .i64 (jt:Nat)] 79))=wb at xp qb z xb⊢;have gj:wj.heap.size<wb.heap.size:=xp.lt;have eQ:w.heap.size<wb.heap.size:=xb.lt;obtain⟨a6,a1,aZ,a8,a2,a3,a5⟩:=xp.c7;obtain⟨a9,a0,a7,a4⟩:=xb.c4;obtain⟨t1,V⟩:∃t,[115,108,105,100,101,32]++j.name=t:=⟨_,rfl⟩;have dO:=aL ([115,108,105,100,101,32]) (j.name);rw[V]at dO;have cL:t1.length=6+j.name.length:=by rw[<-V,kc];try simp
    have go:(9223372036854775807<6+j.name.length)=False:=oK (by omega);have e8:=ah t1;obtain⟨t2,N⟩:∃t,t1++[32]=t:=⟨_,rfl⟩;have at2:=aL (t1) ([32]);rw[N]at at2;have c8:t2.length=t1.length+1:=by rw[<-N,kc];try simp
    have fn:(9223372036854775807<t1.length+1)=False:=oK (by omega);have e9:=ah t2;obtain⟨t3,U⟩:∃t,t2++F1=t:=⟨_,rfl⟩;have at3:=aL (t2) (F1);rw[U]at at3;have c9:t3.length=t2.length+F1.length:=by rw[<-U,kc];try simp
    have f6:(9223372036854775807<t2.length+F1.length)=False:=oK (by omega);have ft:=ah t3;obtain⟨t4,W⟩:∃t,t3++[32]=t:=⟨_,rfl⟩;have at4:=aL (t3) ([32]);rw[W]at at4;have ds:t4.length=t3.length+1:=by rw[<-W,kc];try simp
    have gy:(9223372036854775807<t3.length+1)=False:=oK (by omega);have e7:=ah t4;obtain⟨t5,P⟩:∃t,t4++F2=t:=⟨_,rfl⟩;have c6:=aL (t4) (F2);rw[P]at c6;have cy:t5.length=t4.length+F2.length:=by rw[<-P,kc];try simp
    have f4:(9223372036854775807<t4.length+F2.length)=False:=oK (by omega);have f0:=ah t5;obtain⟨t6,R⟩:∃t,t5++[32]=t:=⟨_,rfl⟩;have c5:=aL (t5) ([32]);rw[R]at c5;have c2:t6.length=t5.length+1:=by rw[<-R,kc];try simp
    have fl:(9223372036854775807<t5.length+1)=False:=oK (by omega);have gm:=ah t6;obtain⟨t7,ca⟩:∃t,t6++F3=t:=⟨_,rfl⟩;have g9:=aL (t6) (F3);rw[ca]at g9;have lt7:t7.length=t6.length+F3.length:=by rw[<-ca,kc];try simp
    have hK:(9223372036854775807<t6.length+F3.length)=False:=oK (by omega);have hZ:=ah t7;obtain⟨t8,b1⟩:∃t,t7++[59,10]=t:=⟨_,rfl⟩;have at8:=aL (t7) ([59,10]);rw[b1]at at8;have f7:t8.length=t7.length+2:=by rw[<-b1,kc];try simp
    have hO:(9223372036854775807<t7.length+2)=False:=oK (by omega);have hz:=ah t8
    have aF:az L.bodies j=t8:=by
     unfold az;rw[bu,<-b1,<-ca,<-R,<-P,<-W,<-U,<-N,<-V];simp[iG]
    have bg:=HW.out;rw[aF]at bg;have an:=eW.out;rw[aF]at an;obtain⟨O2,k⟩:∃t,O++t8=t:=⟨_,rfl⟩;have aC:=aL O t8;rw[k]at aC;have c1:(9223372036854775807<O.length+t8.length)=False:=oK (by omega);have G:Hid (S1++(L.joints.take (Q+1)).flatMap (az L.bodies)=O2):=Qh (by rw[an,HO.out,k]);clear aF bg an bu k V N U W P R ca b1 cL c8 c9 ds cy c2 lt7 f7;go_wp2_with fail
    go_region_held3 (fun w'=>Sees wb.heap.size wb w') (first|with_reducible exact Sees.of Qr (by assumption)|with_reducible exact Sees.of Qr (aa _).drew|with_reducible exact Sees.al (by assumption) _|exact Sees.of Qr (af (aa _) 1)|exact Sees.of Qr (af (by assumption) _))
     (first
      |(go_at_call 67;(with_reducible refine(mM _ _ _ _ _ _ _ _ _ _ _ L.bodies 500 ?_ ja jp x m1 K.out.1 K.out.2.1 K.out.2.2.1 K.out.2.2.2.1 F1 K.out.2.2.2.2).mono ?_);(exact z.out.bd (by first|with_reducible exact l|with_reducible exact Z|with_reducible exact aa _|exact(aa wb).drew|exact af (aa wb) _));rintro e' bn⟨rfl,E⟩;have r:Below wb.heap.size wb bn:=(by first|with_reducible exact ag l E|with_reducible exact ag Z E|exact ag (aa wb) E|exact ag (af (aa wb) _) E))
      |(go_at_call 67;(with_reducible refine(mM _ _ _ _ _ _ _ _ _ _ _ L.bodies 500 ?_ jb jo y m2 M.out.1 M.out.2.1 M.out.2.2.1 M.out.2.2.2.1 F2 M.out.2.2.2.2).mono ?_);(exact z.out.bd (by first|with_reducible exact r|with_reducible exact Z|with_reducible exact aa _|exact(aa wb).drew|exact af (aa wb) _));rintro e' br⟨rfl,D⟩;have l:Below wb.heap.size wb br:=(by first|with_reducible exact ag r D|with_reducible exact ag Z D|exact ag (aa wb) D|exact ag (af (aa wb) _) D))
      |(go_at_call 67;(with_reducible refine(mM _ _ _ _ _ _ _ _ _ _ _ L.bodies 500 ?_ jb jt y m3 bv.out.1 bv.out.2.1 bv.out.2.2.1 bv.out.2.2.2.1 F3 bv.out.2.2.2.2).mono ?_);(exact z.out.bd (by first|with_reducible exact r|with_reducible exact l|with_reducible exact aa _|exact(aa wb).drew|exact af (aa wb) _));rintro e' ek⟨rfl,aT⟩;have Z:Below wb.heap.size wb ek:=(by first|with_reducible exact ag r aT|with_reducible exact ag l aT|exact ag (aa wb) aT|exact ag (af (aa wb) _) aT)))
    all_goals
     rename_i ao;clear ao
     first
      | (have q9:Below wj.heap.size wj bn:=ag qb r
         clear a6 a1 aZ a8 a2 a3 a5 a9 a0 a7 a4;go_wp2_with fail;go_roundw
         case rel=>exact⟨Q+1,O2,rfl,by go_num,by omega,G,hb.trans (q9.mono hb.size)⟩
         case measure=>simp[intOf];omega)
      | (have q9:Below wj.heap.size wj br:=ag qb l
         clear a6 a1 aZ a8 a2 a3 a5 a9 a0 a7 a4;go_wp2_with fail;go_roundw
         case rel=>exact⟨Q+1,O2,rfl,by go_num,by omega,G,hb.trans (q9.mono hb.size)⟩
         case measure=>simp[intOf];omega)
      | (have q9:Below wj.heap.size wj ek:=ag qb Z
         clear a6 a1 aZ a8 a2 a3 a5 a9 a0 a7 a4;go_wp2_with fail;go_roundw
         case rel=>exact⟨Q+1,O2,rfl,by go_num,by omega,G,hb.trans (q9.mono hb.size)⟩
         case measure=>simp[intOf];omega)
   have he:((Q:Int)<(p:Int))=False:=by simp;omega
   have ab:L.joints.take Q=L.joints:=ms (by rw[gt.out];exact ew);rw[ab,gr.out]at HO;obtain rfl:=HO.out;have ho:=fI.out;clear ab HO Y ba ac bk;go_wp2_with fail;clear bs;go_loopw [5,9] (fun ov iv wr=>∃(i3:Nat) (O:List UInt8),ov=ae O/\iv=.int .i64 (i3:Nat)/\i3<=q/\Hid (S2++(L.drivers.take i3).flatMap (aO L.bodies)=O)/\Below w1.heap.size w1 wr) (fun _ iv _=>q-(intOf iv).toNat)
   case atStart=>exact⟨0,S2,rfl,rfl,Nat.zero_le _,Qh (by simp),hb⟩
   case round =>
    clear hb xa u cj;obtain⟨i3,O,rfl,rfl,hm,HO,hb⟩:=hrel;rename World=>wk;have xa:=x1.below hb bl;have u:=q1.trans (hb.mono q1.size);obtain⟨ba,ac,bs,bk⟩:=xa.c4;have Y:=cP (aO L.bodies) L.drivers i3;have cj:=ah O
    have es:O.length<=34+180000*n+200*p+60*q:=by
     rw[<-HO.out,kc];have h9:=eD.out;omega
    rcases Nat.lt_or_ge i3 q with ev|ey
    ·have gs:((i3:Int)<(q:Int))=True:=by simp;omega
     obtain⟨g,o,dv,e1,hg,_,J,fa⟩:=(H.out.drivers.dr u).at_ ev;subst e1;obtain⟨hA,di,y,ei,hy⟩:=HK.out.driver dv (pk J);have gd:di<n:=by rw[<-eg.out];exact(ts.1 hy).1
     obtain⟨gb,ob,y',e1,ge,_,b7,fZ⟩:=(H.out.bodies.bd u).at_ gd;rw[hy]at b7;injection b7 with b7;subst b7 e1;obtain⟨A',n',c',k0,k1,hM,_⟩:=fZ;have f:=HK.out.body y (pk hy);have hN:=f.nm;obtain⟨d0,d1,_⟩:=fa;rw[ei]at d1;have h4:=ah dv.name;have hD:=ah y.name;obtain⟨g1,b4⟩:∃t,[100,114,105,118,101,114,32]++dv.name=t:=⟨_,rfl⟩;have f3:=aL ([100,114,105,118,101,114,32]) (dv.name);rw[b4]at f3;have gA:g1.length=7+dv.name.length:=by rw[<-b4,kc];try simp
     have hB:(9223372036854775807<7+dv.name.length)=False:=oK (by omega);have hU:=ah g1;obtain⟨g2,cp⟩:∃t,g1++[32]=t:=⟨_,rfl⟩;have ff:=aL (g1) ([32]);rw[cp]at ff;have g6:g2.length=g1.length+1:=by rw[<-cp,kc];try simp
     have h8:(9223372036854775807<g1.length+1)=False:=oK (by omega);have hP:=ah g2;obtain⟨g3,b9⟩:∃t,g2++y.name=t:=⟨_,rfl⟩;have gv:=aL (g2) (y.name);rw[b9]at gv;have e6:g3.length=g2.length+y.name.length:=by rw[<-b9,kc];try simp
     have hV:(9223372036854775807<g2.length+y.name.length)=False:=oK (by omega);have hF:=ah g3;obtain⟨g4,cm⟩:∃t,g3++[59,10]=t:=⟨_,rfl⟩;have f8:=aL (g3) ([59,10]);rw[cm]at f8;have e4:g4.length=g3.length+2:=by rw[<-cm,kc];try simp
     have h6:(9223372036854775807<g3.length+2)=False:=oK (by omega);have ib:=ah g4
     have dd:aO L.bodies dv=g4:=by
      rw[<-cm,<-b9,<-cp,<-b4];unfold aO;rw[ei,ut hy]
     have s:=dy (aO L.bodies) J;have m:=cP (aO L.bodies) L.drivers (i3+1);rw[s,kc,dd]at m;rw[dd]at s;have h9:=eD.out;obtain⟨O2,k⟩:∃t,O++g4=t:=⟨_,rfl⟩;have aC:=aL O g4;rw[k]at aC;have c1:(9223372036854775807<O.length+g4.length)=False:=oK (by omega);have G:Hid (S2++(L.drivers.take (i3+1)).flatMap (aO L.bodies)=O2):=Qh (by rw[s,<-ys,HO.out,k]);have f1:((di:Int)<(n:Int)):=by omega
     have f2:((i3:Int)<(q:Int)):=by omega
     have ej:g<wk.heap.size:=hg;have hs:gb<wk.heap.size:=ge;clear hM k1 f hy ei dd s Y m h9 J k gA g6 e6 e4 b4 cp b9 cm;go_wp2_with fail;go_quiet (fail);go_wp2_with fail;go_roundw
     case rel=>first|exact⟨i3+1,O2,rfl,by go_num,by omega,G,hb⟩|exact⟨i3+1,O2,rfl,by go_num,by omega,G,af hb _⟩
     case measure=>simp[intOf];omega
    have gs:((i3:Int)<(q:Int))=False:=by simp;omega
    have ab:L.drivers.take i3=L.drivers:=ms (by rw[gD.out];exact ey);rw[ab,gx.out]at HO;obtain rfl:=HO.out;obtain⟨v,hv⟩:=Z9 (j6 L.bodies);have HV:=Qh hv;clear ab hv Y;go_wp2_with fail;refine(DI _ A n c B p d C q e L.name L.bodies (H.out.bodies.bd u) (by omega) (fun b hb=>by have:=(HK.out.body b hb).np;omega) v HV.out).mono ?_;rintro e' wz⟨rfl,qz⟩;have bz:=u.trans (qz.mono u.size);clear ba ac bs bk;by_cases h65:65536<S3.length
    ·have gO:((65536:Int)<(S3.length:Int))=True:=xr (by omega)
     have I:aI L=4:=by unfold aI;rw[kl (by rw[HC.out];decide),kZ (Or.inr (by rw[ee.out];exact h65))]
     have X:bL L=[]:=by unfold bL;rw[kl (by rw[I];decide)]
     have ad:=Qh (And.intro I X);clear I X;cases v
     all_goals
      go_wp2_with fail;go_ret2;exact⟨by rw[ad.out.1,ad.out.2];rfl,bz⟩
    have gO:((65536:Int)<(S3.length:Int))=False:=oK (by omega);have hf:=Qh h65;cases v
    ·have I:aI L=0:=by
      unfold aI;rw[kl (by rw[HC.out];decide),kl (by rw[ee.out,HV.out];intro hh;rcases hh with hh|hh;exact absurd hh (by decide);exact hf.out hh)]
     have X:bL L=S3:=by unfold bL;rw[kZ I,ee.out]
     have ad:=Qh (And.intro I X);clear I X;go_wp2_with fail;go_ret2;exact⟨by rw[ad.out.1,ad.out.2];rfl,bz⟩
    have I:aI L=4:=by unfold aI;rw[kl (by rw[HC.out];decide),kZ (Iu HV.out)]
    have X:bL L=[]:=by unfold bL;rw[kl (by rw[I];decide)]
    have ad:=Qh (And.intro I X);clear I X;go_wp2_with fail;go_ret2;exact⟨by rw[ad.out.1,ad.out.2];rfl,bz⟩
theorem wrap_i64{u:Int}(a:-9223372036854775808<=u)(b:u<=9223372036854775807):IntKind.i64.wrap u=u:=by rw[GV];omega
theorem SlS.mono_{α:Type}{P d:World->Nat->Nat->α->Prop}{s:Nat}{w:World}{A:Option Addr}{n c:Nat}{l:List α}(h:SlS P s w A n c l)(m:∀g o a,a∈l->P w g o a->d w g o a):SlS d s w A n c l:=by
 refine⟨h.1,h.2.1,fun k=>?_⟩;obtain⟨g,o,e,f,j⟩:=h.2.2 k;exact⟨g,o,e,f,fun i a b=>m _ _ _ (pk b) (j i a b)⟩
theorem LkS.upto{k i:Nat}{w:World}{A B C:Option Addr}{n c p d q e:Nat}{L:am}(h:LkS k w A n c B p d C q e L)(j:k<=i):LkS i w A n c B p d C q e L:=by
 have l:∀g o r,j5 w g o r k->j5 w g o r i:=fun g o r ⟨b,A,n,c,D,m,e,x,t,E,a⟩=>⟨b,A,n,c,D,m,e,x,t,E,a.1,a.2.1,a.2.2.1,Nat.le_trans a.2.2.2.1 j,Nat.le_trans a.2.2.2.2 j⟩
 refine⟨h.name,h.bodies.mono_ fun g o b _ z=>?_,h.joints,h.drivers⟩;obtain⟨y,s,u,c0,c1,v,F⟩:=z;exact⟨y,s,u,c0,c1,v.mono_ fun g o m _ f=>⟨f.1,l _ _ _ f.2.1,l _ _ _ f.2.2.1,f.2.2.2⟩,F⟩
theorem CR(w:World)(A:Option Addr)(n c:Nat)(B:Option Addr)(p d:Nat)(C:Option Addr)(q e:Nat)(L:am)(h:LkS 500 w A n c B p d C q e L)(a:Tab w):Calls Tryz.prog 29 #[.agg #[ae L.name,.slice A n c,.slice B p d,.slice C q e]] w (fun i f=>i=.returned (.tuple #[ae (bL L),cd (aI L)])/\Below w.heap.size w f):=by
 by_cases hc:bN L=0
 ·exact Ch w A n c B p d C q e L h a hc
 have b:aI L=bN L:=kZ hc;have g:bL L=[]:=kl (by rw[b];exact hc);rw[b,g];exact zK w A n c B p d C q e L h hc
theorem Fa(w:World)(A:Option Addr)(n c:Nat)(B:Option Addr)(p d:Nat)(C:Option Addr)(q e:Nat)(L:am)(h:LkS 500 w A n c B p d C q e L):Calls Tryz.prog 33 #[.agg #[ae L.name,.slice A n c,.slice B p d,.slice C q e]] w (fun g b=>g=.returned (.tuple #[ae (bL L),.int .i64 (aI L)])/\Below w.heap.size w b):=by
 by_cases hc:bN L=0
 ·exact Cj w A n c B p d C q e L h hc
 have a:aI L=bN L:=kZ hc;have f:bL L=[]:=kl (by rw[a];exact hc);rw[a,f];exact zV w A n c B p d C q e L h hc
def iJ(k:Nat)(w:World)(g o:Nat)(L:am):Prop:=∃A n c B p d C q e,w.cell? ⟨g,o,none⟩=some (ae L.name)/\w.cell? ⟨g,o+1,none⟩=some (.slice A n c)/\w.cell? ⟨g,o+2,none⟩=some (.slice B p d)/\w.cell? ⟨g,o+3,none⟩=some (.slice C q e)/\LkS k w A n c B p d C q e L
theorem iJ.belw{k:Nat}{w a:World}{g o:Nat}{L:am}(h:iJ k w g o L)(hb:Below w.heap.size w a):iJ k a g o L:=by
 obtain⟨A,n,c,B,p,d,C,q,e,f,j,b,l,i⟩:=h;exact⟨A,n,c,B,p,d,C,q,e,aw f hb,aw j hb,aw b hb,aw l hb,i.belw hb⟩
theorem SlS.lk{k:Nat}{w a:World}{A:Option Addr}{n c:Nat}{l:List am}(h:SlS (iJ k) 4 w A n c l)(hb:Below w.heap.size w a):SlS (iJ k) 4 a A n c l:=h.belw (fun _ _ _ h=>h.belw hb) hb
theorem SlS.lkup{k a:Nat}{w:World}{A:Option Addr}{n c:Nat}{l:List am}(h:SlS (iJ k) 4 w A n c l)(i:k<=a):SlS (iJ a) 4 w A n c l:=h.mono_ fun _ _ _ _ ⟨A,n,c,B,p,d,C,q,e,f,m,b,g,j⟩=>⟨A,n,c,B,p,d,C,q,e,f,m,b,g,j.upto i⟩
def LkC(k:Nat)(w:World)(cs:List Value)(L:am):Prop:=∃A n c B p d C q e,cs=[ae L.name,.slice A n c,.slice B p d,.slice C q e]/\LkY k w A n c B p d C q e L
theorem LkC.tch{T:TypeId->Bool}{k:Nat}{w a:World}{cs:List Value}{L:am}(h:LkC k w cs L)(t:Tch T w a)(i:T 62=false)(b:T 79=false)(l:T 81=false)(g:T 67=false):LkC k a cs L:=by
 obtain⟨A,n,c,B,p,d,C,q,e,f,j⟩:=h;exact⟨A,n,c,B,p,d,C,q,e,f,j.tch t i b l g⟩
theorem LkC.at_{k:Nat}{w:World}{cs:List Value}{L:am}{g o:Nat}(x:LkC k w cs L)(a:∀j u,cs[j]?=some u->w.cell? ⟨g,o+j,none⟩=some u):iJ k w g o L:=by
 obtain⟨A,n,c,B,p,d,C,q,e,rfl,b⟩:=x;exact⟨A,n,c,B,p,d,C,q,e,a 0 _ rfl,a 1 _ rfl,a 2 _ rfl,a 3 _ rfl,b.out⟩
abbrev sh(k:Nat)(w:World)(base:Nat)(v:Value)(n:Nat)(Ls:List am):Prop:=bc 36 (LkC k) 4 w base v n Ls
theorem bc.lks{k:Nat}{w:World}{base:Nat}{A:Option Addr}{n c:Nat}{Ls:List am}(h:sh k w base (.slice A n c) n Ls):SlS (iJ k) 4 w A n c Ls:=(h.slT (P:=iJ k) fun _ _ _ _ x a=>x.at_ a).sl fun _ _ _ x=>x
theorem bc.lkb{k:Nat}{w a:World}{base:Nat}{v:Value}{n:Nat}{Ls:List am}(h:sh k w base v n Ls)(hb:Below w.heap.size w a):sh k a base v n Ls:=h.tch (T:=fun _=>false) (Tch.below hb) rfl fun _ _ x=>x.tch (Tch.below (T:=fun _=>false) hb) rfl rfl rfl rfl
theorem uJ:(Tryz.prog.info? 36).map (fun i=>(i.zero,i.size,i.bytes))=some (some (.agg #[.string ⟨#[]⟩,.slice none 0 0,.slice none 0 0,.slice none 0 0]),4,88):=by kernel_rfl
theorem bc.more{k:Nat}{w c:World}{base:Nat}{v:Value}{n:Nat}{Ls:List am}{L:am}{d cs:List Value}{f:Value}(j:Ls.length=n)(b:OwJ noW w base 36 4 v n d)(l:jd (LkC k) 4 w Ls d)(p:LkC k w cs L)(o:OwJ noW c base 36 4 f (n+1) (d++cs))(g:w.grownBy c v.ownBlock)(i:cs.length=4):sh k c base f (n+1) (Ls++[L]):=by
 have t:Tch (bI 36) w c:=Tch.grown (fun _ h=>h) (by simp[bI]) b g;have m:∀cs a,LkC k w cs a->LkC k c cs a:=fun _ _ x=>x.tch t (by decide) (by decide) (by decide) (by decide)
 exact⟨by rw[kc,j];rfl,d++cs,o,(l.map_ m).snoc (m _ _ p) i⟩
theorem uK:∀(Ls:List am),ef Ls=0->(Ls.flatMap pkL).length<=65600*Ls.length
 |[],_=>by simp
 |L::r,h=>by
  unfold ef at h;split at h
  ·rename_i a
   have b:=uK r h;have c:(pkL L).length<=65600:=wA (mV a);simp only[G0,kc,oP];omega
  rename_i a;exact absurd h a
theorem Ck{Ls:List am}{i:Nat}(h:ef (Ls.take i)=0)(c:i<=16):((Ls.take i).flatMap pkL).length<=1049600:=by
 have b:=uK _ h;have a:(Ls.take i).length<=i:=by rw[vq];omega
 have:=Nat.mul_le_mul_left 65600 a;omega
theorem Cl(w:World)(A:Option Addr)(n c:Nat)(Ls:List am)(h:SlS (iJ 500) 4 w A n c Ls)(v:Tab w)(V:T64 w)(hn:n<=1000000):Calls Tryz.prog 11 #[.slice A n c] w (fun f w'=>f=.returned (.tuple #[ae (ki Ls),cd (fA Ls)])/\Below w.heap.size w w'):=by
 have W:=h.1;have cu:=h.2.1;have H:=Qh h;have x:=Qh v;have b7:=Qh V;clear h v V;by_cases h16:16<n
 ·have a2:((16:Int)<(n:Int))=True:=xr (by omega)
  have a:=rP (Ls:=Ls) (by omega);rw[a.1,a.2];clear a;go_in;go_wp2_with fail;go_ret2;exact⟨rfl,aa w⟩
 have a2:((16:Int)<(n:Int))=False:=oK (by omega);obtain⟨I,hI⟩:=Z9 (Lib.itoa (n:Int));have bs:I.length<=11:=by rw[<-hI];exact kN (n:=n) (k:=0) (by omega)
 have cb:=ah I;obtain⟨O,u⟩:∃t,[108,105,110,107,119,111,114,107,32,49,32]++I=t:=⟨_,rfl⟩;have b3:=aL ([108,105,110,107,119,111,114,107,32,49,32]) (I);rw[u]at b3;have b6:O.length=11+I.length:=by rw[<-u,kc];try simp
 have cv:(9223372036854775807<11+I.length)=False:=oK (by omega);have cs:=ah O;obtain⟨b,l⟩:∃t,O++[10]=t:=⟨_,rfl⟩;have bF:=aL (O) ([10]);rw[l]at bF;have a4:b.length=O.length+1:=by rw[<-l,kc];try simp
 have c2:(9223372036854775807<O.length+1)=False:=oK (by omega);have b9:=ah b;have aC:eH n=b:=by unfold eH;rw[hI,u,l]
 have HH:=Qh aC;have HI:=Qh hI;have r:=Qh W;have cp:b.length<=23:=by omega
 clear u l hI aC W b6 a4 bs;go_in;go_wp2_with fail;have B0:Bu w.heap.size w.heap.size (w.alloc (.cells #[.pointer none,.slice none 0 0] 70)) []:=Bu.new;have q0:Below w.heap.size w (w.alloc (.cells #[.pointer none,.slice none 0 0] 70)):=(aa w).alloc Qr _;generalize (w.alloc (.cells #[.pointer none,.slice none 0 0] 70))=w1 at B0 q0⊢;refine(mz w1 (n:Int) (by omega) (by omega) (x.out.belw q0)).mono ?_;rintro f w2⟨rfl,D⟩;rw[HI.out];have B2:=B0.belw D;have q2:=q0.trans (D.mono q0.size);clear B0 D q0;go_wp2_with fail;refine(dF _ _ _ _ b B2 (by simp only[Gm];omega)).mono ?_;rintro f w3⟨rfl,B3,q3,_⟩;rw[Gf]at B3;have q3:=q2.trans q3;have ao:=Qh B3;clear B2 B3 q2;go_wp2_with fail;go_loopw [21] (fun iv wr=>∃i:Nat,iv=.int .i64 (i:Nat)/\i<=n/\Hid (ef (Ls.take i)=0)/\Hid (Bu w.heap.size w.heap.size wr (b++(Ls.take i).flatMap pkL))/\Below w.heap.size w wr) (fun iv _=>n-(intOf iv).toNat)
 case atStart=>exact⟨0,rfl,Nat.zero_le _,Qh rfl,by simpa using ao,q3⟩
 case round =>
  clear ao;obtain⟨i,rfl,hi,E,y,hb⟩:=hrel;rename World=>wa;rcases Nat.lt_or_ge i n with ba|b0
  ·have a9:((i:Int)<(n:Int))=True:=by simp;omega
   obtain⟨g,o,L,B,hg,_,U,b5⟩:=(H.out.lk hb).at_ ba;subst B;obtain⟨R,n1,c1,Y,p1,d1,C1,q1,B,bn,bo,b1,a3,hK⟩:=b5;have cm:g<wa.heap.size:=hg;have HK:=Qh hK;have p:=Qh U;have a8:w.heap.size<wa.heap.size:=y.out.lt;clear hK U;go_wp2_with fail;have xp:Blk (wa.alloc (.cells #[ae L.name,.slice R n1 c1,.slice Y p1 d1,.slice C1 q1 B] 36)) wa.heap.size 36 #[ae L.name,.slice R n1 c1,.slice Y p1 d1,.slice C1 q1 B]:=aj _ _ _ rfl;have F:Below wa.heap.size wa (wa.alloc (.cells #[ae L.name,.slice R n1 c1,.slice Y p1 d1,.slice C1 q1 B] 36)):=(aa wa).alloc Qr _;have Z:=Qh (y.out.belw F);have z:=Qh ((x.out.belw hb).belw F);have aS:=Qh ((b7.out.belw hb).belw F);have aF:=Qh (HK.out.belw F);clear y HK bn bo b1 a3;generalize (wa.alloc (.cells #[ae L.name,.slice R n1 c1,.slice Y p1 d1,.slice C1 q1 B] 36))=wb at xp F Z z aS aF⊢;refine(CR wb R n1 c1 Y p1 d1 C1 q1 B L aF.out z.out).mono ?_;rintro f wc⟨rfl,qc⟩;have al:=ag F qc;by_cases d:aI L=0
   ·have ab:bL L=bV L:=kZ d
    have b2:=mV d;have C:=dy pkL p.out;have bY:Hid (ef (Ls.take (i+1))=0):=Qh (by rw[oM p.out E.out];exact d);rw[ab,d];obtain⟨T,hT⟩:=Z9 (bV L);rw[hT]at b2⊢;obtain⟨J,hJ⟩:=Z9 (Lib.itoa (T.length:Int));have cL:J.length<=11:=by rw[<-hJ];exact kN (n:=T.length) (k:=0) (by omega)
    have cz:=ah J;have c0:=ah T;obtain⟨X,hX⟩:=Z9 (jV (gI T));have bk:X.length=8:=by rw[<-hX];exact rK _
    have cn:=ah X;obtain⟨K,j⟩:∃t,J++[32]=t:=⟨_,rfl⟩;have be:=aL (J) ([32]);rw[j]at be;have bl:K.length=J.length+1:=by rw[<-j,kc];try simp
    have co:(9223372036854775807<J.length+1)=False:=oK (by omega);have ck:=ah K;obtain⟨N,m⟩:∃t,K++X=t:=⟨_,rfl⟩;have bw:=aL (K) (X);rw[m]at bw;have bb:N.length=K.length+X.length:=by rw[<-m,kc];try simp
    have cj:(9223372036854775807<K.length+X.length)=False:=oK (by omega);have cy:=ah N;obtain⟨M,q⟩:∃t,N++[10]=t:=⟨_,rfl⟩;have bz:=aL (N) ([10]);rw[q]at bz;have bd:M.length=N.length+1:=by rw[<-q,kc];try simp
    have ca:(9223372036854775807<N.length+1)=False:=oK (by omega);have cx:=ah M;obtain⟨G,s⟩:∃t,M++T=t:=⟨_,rfl⟩;have br:=aL (M) (T);rw[s]at br;have a5:G.length=M.length+T.length:=by rw[<-s,kc];try simp
    have cc:(9223372036854775807<M.length+T.length)=False:=oK (by omega);have cr:=ah G;have a1:pkL L=G:=by unfold pkL oL;rw[hT,hJ,hX,j,m,q,s]
    rw[a1]at C;have aZ:Hid (b++(Ls.take (i+1)).flatMap pkL=b++(Ls.take i).flatMap pkL++G):=Qh (by rw[C,ys])
    have ac:(b++(Ls.take i).flatMap pkL).length+G.length<=140737488355328:=by
     have:=Ck E.out (by omega);rw[kc];omega
    have HW:=Qh ac;have HJ:=Qh hJ;have HX:=Qh hX;have aT:cd 0=.nilIface:=kZ rfl;rw[aT];clear aT ab d C hT hJ hX bk j m q s a1 ac bl bb bd a5;go_wp2_with fail;refine(mz wc (T.length:Int) (by omega) (by omega) (z.out.belw qc)).mono ?_;rintro f wd⟨rfl,qd⟩;rw[HJ.out];have bu:=ag al qd;have b8:=ag qc qd;go_wp2_with fail;refine(ux wd T (by omega)).mono ?_;rintro f we⟨rfl,qe⟩;have b4:=ag bu qe;have an:=ag b8 qe;go_wp2_with fail;refine(CP we (gI T) (pQ T) (aS.out.belw an)).mono ?_;rintro f wf⟨rfl,qf⟩;rw[HX.out];have a7:=ag b4 qf;have bv:=ag an qf;go_wp2_with fail;refine(dF _ _ _ _ G (Z.out.belw bv) HW.out).mono ?_;rintro f wg⟨rfl,Bg,qg,_⟩;have a6:Hid (Bu w.heap.size w.heap.size wg (b++(Ls.take (i+1)).flatMap pkL)):=Qh (by rw[aZ.out];exact Bg);have bg:=(hb.trans (a7.mono (Nat.le_of_lt a8))).trans qg;clear Bg aZ;go_wp2_with fail;go_roundw
    case rel=>exact⟨i+1,by go_num,by omega,bY,a6,bg⟩
    case measure=>simp[intOf];omega
   have a:=rQ (Ls:=Ls) (by rw[r.out];exact h16) (by rw[rO p.out E.out d];exact d);rw[rO p.out E.out d]at a;rw[eVp d];have P:=Qh (And.intro a (eVp d));clear a;go_wp2_with fail;go_ret2;exact⟨by rw[P.out.1.1,P.out.1.2,P.out.2];rfl,hb.trans (al.mono hb.size)⟩
  have a9:((i:Int)<(n:Int))=False:=by simp;omega
  have a0:Ls.take i=Ls:=ms (by rw[r.out];exact b0);rw[a0]at y E;have ad:b++Ls.flatMap pkL=gJ Ls:=by unfold gJ;rw[r.out,HH.out]
  rw[ad]at y;have P:Hid (¬16<Ls.length):=Qh (by rw[r.out];exact h16);obtain⟨S,hS⟩:=Z9 (gJ Ls);rw[hS]at y;have HS:=Qh hS;clear a0 ad hS;go_wp2_with fail;refine(zk _ _ _ _ y.out).mono ?_;rintro f wl⟨rfl,rfl⟩;by_cases h65:65536<S.length
  ·have bx:((65536:Int)<(S.length:Int))=True:=xr (by omega)
   have a:=ti P.out E.out (by rw[HS.out];exact h65);have Q:=Qh a;clear a;go_wp2_with fail;go_ret2;exact⟨by rw[Q.out.1,Q.out.2];rfl,hb⟩
  have bx:((65536:Int)<(S.length:Int))=False:=oK (by omega);have a:=rR P.out E.out (by rw[HS.out];exact h65);rw[HS.out]at a;have Q:=Qh a;clear a;go_wp2_with fail;refine(tb _ _ _ _ y.out).mono ?_;rintro f wm⟨rfl,qm⟩;go_wp2_with fail;go_ret2;exact⟨by rw[Q.out.1,Q.out.2];rfl,hb.trans qm⟩
theorem DU(w:World)(A:Option Addr)(n c:Nat)(Ls:List am)(h:SlS (iJ 40) 4 w A n c Ls)(a:Tab w)(b:T64 w)(f:n<=1000000):Calls Tryz.prog 11 #[.slice A n c] w (fun g d=>g=.returned (.tuple #[ae (ki Ls),cd (fA Ls)])/\Below w.heap.size w d) :=
 Cl w A n c Ls (h.lkup (by decide)) a b f
theorem Fb:gI [97]=3826002220:=by decide +kernel
theorem ly(w:World)(a:Tab w)(i:T64 w):Calls Tryz.prog 9 #[] w (av w (.bool true)):=by
 have b:SlS (iJ 40) 4 w none 0 0 []:=⟨rfl,Qr,fun h=>absurd h (by omega)⟩;have g:fA []=0:=by decide +kernel
 have j:ki []=[108,105,110,107,119,111,114,107,32,49,32,48,10]:=by decide +kernel
 have c:=Qh a;have m:=Qh i;clear a i;go_in;go_wp2_with fail;refine(DU w none 0 0 [] b c.out m.out (by omega)).mono ?_;rintro l k⟨rfl,f⟩;rw[g,j,show cd 0=.nilIface from kZ rfl];clear g j;go_wp2_with fail;refine(ux k [97] (by decide)).mono ?_;rintro l n⟨rfl,d⟩;rw[Fb];have hb:=ag f d;go_wp2;go_ret;exact⟨rfl,hb⟩
def lz(S:List UInt8)(x:Int)(n:Nat)(R:List UInt8):Prop :=
  (65536<S.length/\x=4/\n=0/\R=[]) \/
  (S.length<=65536/\(∀m Q,m<=99999->S≠eH m++Q)/\x=2/\n=0/\R=[]) \/
  (S.length<=65536/\(∃m Q,m<=99999/\16<m/\S=eH m++Q)/\x=4/\n=0/\R=[]) \/
  (S.length<=65536/\n<=16/\S=eH n++R/\x=0)
theorem DV(S:List UInt8):∃x n R,lz S x n R:=by
 by_cases h:65536<S.length
 ·exact⟨4,0,[],.inl ⟨h,rfl,rfl,rfl⟩⟩
 have h:=Nat.le_of_not_lt h;by_cases h1:∃m Q,m<=99999/\S=eH m++Q
 ·obtain⟨m,Q,a,e⟩:=h1
  by_cases h2:16<m
  ·exact⟨4,0,[],.inr (.inr (.inl ⟨h,⟨m,Q,a,h2,e⟩,rfl,rfl,rfl⟩))⟩
  exact⟨0,m,Q,.inr (.inr (.inr ⟨h,Nat.le_of_not_lt h2,e,rfl⟩))⟩
 exact⟨2,0,[],.inr (.inl ⟨h,fun m Q a e=>h1 ⟨m,Q,a,e⟩,rfl,rfl,rfl⟩)⟩
def pW(S:List UInt8)(m:Nat)(X N:List UInt8):Prop:=m<=99999/\X.length=8/\(∀c∈X,gK.contains c=true)/\S=Lib.itoa (m:Int)++32::(X++10::N)
def lA(S:List UInt8)(x:Int)(L:am)(R:List UInt8):Prop :=
  ((∀m X N,¬pW S m X N)/\x=2/\L=L0/\R=[]) \/
  ∃ m X N,pW S m X N/\((N.length<m/\x=18/\L=L0/\R=[]) \/
    (m<=N.length/\jV (gI (N.take m))≠X/\x=14/\L=L0/\R=[]) \/
    (m<=N.length/\jV (gI (N.take m))=X/\∃y M,cE (N.take m) y M /\
      ((y≠0/\x=y/\L=L0/\R=[])\/(y=0/\(aI M≠0\/bV M≠N.take m)/\x=2/\L=L0/\R=[])\/(y=0/\aI M=0/\bV M=N.take m/\x=0/\L=M/\R=N.drop m))))
theorem DW(d:∀s,∃x L,cE s x L)(S:List UInt8):∃x L R,lA S x L R:=by
 by_cases h:∃m X N,pW S m X N
 ·obtain⟨m,X,N,a⟩:=h
  by_cases b:N.length<m
  ·exact⟨18,L0,[],.inr ⟨m,X,N,a,.inl ⟨b,rfl,rfl,rfl⟩⟩⟩
  have b:=Nat.le_of_not_lt b;by_cases h2:jV (gI (N.take m))=X
  ·obtain⟨y,M,c⟩:=d (N.take m)
   by_cases h3:y=0
   ·by_cases h4:aI M=0/\bV M=N.take m
    ·exact⟨0,M,N.drop m,.inr ⟨m,X,N,a,.inr (.inr ⟨b,h2,y,M,c,.inr (.inr ⟨h3,h4.1,h4.2,rfl,rfl,rfl⟩)⟩)⟩⟩
    refine⟨2,L0,[],.inr ⟨m,X,N,a,.inr (.inr ⟨b,h2,y,M,c,.inr (.inl ⟨h3,?_,rfl,rfl,rfl⟩)⟩)⟩⟩;by_cases h5:aI M=0
    ·exact .inr fun e=>h4 ⟨h5,e⟩
    exact .inl h5
   exact⟨y,L0,[],.inr ⟨m,X,N,a,.inr (.inr ⟨b,h2,y,M,c,.inl ⟨h3,rfl,rfl,rfl⟩⟩)⟩⟩
  exact⟨14,L0,[],.inr ⟨m,X,N,a,.inr (.inl ⟨b,h2,rfl,rfl,rfl⟩)⟩⟩
 exact⟨2,L0,[],.inl ⟨fun m X N a=>h ⟨m,X,N,a⟩,rfl,rfl,rfl⟩⟩
def UnF:Nat->List UInt8->Int->List am->Prop
  |0,S,x,Ls=>Ls=[]/\x=if S=[] then 0 else 2
  |n+1,S,x,Ls=>∃y L R,lA S y L R/\((y≠0/\x=y/\Ls=[])\/(y=0/\∃Ms,UnF n R x Ms/\Ls=L::Ms))
theorem CS(b:∀s,∃x L,cE s x L):∀n S,∃x Ls,UnF n S x Ls
 |0,S=>⟨_,[],rfl,rfl⟩
 |n+1,S=>by
  obtain⟨y,L,R,h⟩:=DW b S;by_cases hy:y=0
  ·obtain⟨x,a,c⟩:=CS b n R
   exact⟨x,L::a,y,L,R,h,.inr ⟨hy,a,c,rfl⟩⟩
  exact⟨y,[],y,L,R,h,.inl ⟨hy,rfl,rfl⟩⟩
def si(S:List UInt8)(x:Int)(Ls:List am):Prop:=∃y n R,lz S y n R/\((y≠0/\x=y/\Ls=[])\/(y=0/\∃Ms,UnF n R x Ms/\Ls=if x=0 then Ms else []))
theorem DX(a:∀s,∃x L,cE s x L)(S:List UInt8):∃x Ls,si S x Ls:=by
 obtain⟨y,n,R,h⟩:=DV S;by_cases hy:y=0
 ·obtain⟨x,b,c⟩:=CS a n R
  exact⟨x,_,y,n,R,h,.inr ⟨hy,b,c,rfl⟩⟩
 exact⟨y,[],y,n,R,h,.inl ⟨hy,rfl,rfl⟩⟩
theorem zW{S:List UInt8}{L:am}{R:List UInt8}(h:lA S 0 L R):aI L=0/\S=pkL L++R:=by
 rcases h with⟨_,a,_⟩|⟨m,X,N,⟨_,_,_,i⟩,⟨_,a,_⟩|⟨_,_,a,_⟩|⟨j,c,y,M,_,⟨g,a,_⟩|⟨_,_,a,_⟩|⟨_,b,d,_,rfl,rfl⟩⟩⟩
 ·cases a
 ·cases a
 ·cases a
 ·exact absurd a.symm g
 ·cases a
 refine⟨b,?_⟩;have f:(N.take m).length=m:=by rw[vq];omega
 unfold pkL;rw[zv,d,f];unfold tm;rw[c,i];simp
theorem CT:∀ {n:Nat}{S:List UInt8}{Ls:List am},UnF n S 0 Ls->Ls.length=n/\S=Ls.flatMap pkL/\∀L∈Ls,aI L=0
 |0,S,Ls,h=>by
  obtain⟨rfl,h⟩:=h;by_cases hS:S=[]
  ·subst hS;exact⟨rfl,rfl,fun _ h=>by cases h⟩
  rw[kl hS]at h;cases h
 |n+1,S,Ls,h=>by
  obtain⟨y,L,R,j,⟨g,e,_⟩|⟨rfl,k,i,rfl⟩⟩:=h
  ·exact absurd e.symm g
  obtain⟨a,b,c⟩:=CT i;obtain⟨d,e⟩:=zW j;refine⟨by rw[oP,a],by rw[e,b,G0],fun M f=>?_⟩;rcases Gh.1 f with rfl|f
  ·exact d
  exact c M f
theorem oW:∀ {Ls:List am},(∀L∈Ls,aI L=0)->ef Ls=0
 |[],_=>rfl
 |L::r,h=>by rw[ef,kZ (h L (by simp))];exact oW fun M a=>h M (by simp[a])
theorem wL{S:List UInt8}{Ls:List am}(h:si S 0 Ls):S=gJ Ls/\fA Ls=0/\Ls.length<=16/\∀L∈Ls,aI L=0:=by
 obtain⟨y,n,R,hb,⟨c,e,_⟩|⟨rfl,l,f,e⟩⟩:=h
 ·exact absurd e.symm c
 rw[kZ rfl]at e;subst e;obtain⟨i,d,b⟩:=CT f;rcases hb with⟨_,e,_⟩|⟨_,_,e,_⟩|⟨_,_,e,_⟩|⟨j,k,g,_⟩
 ·cases e
 ·cases e
 ·cases e
 have a:S=gJ Ls:=by rw[g,d,<-i];rfl
 refine⟨a,(rR (by omega) (oW b) (by rw[<-a];omega)).1,by omega,b⟩
theorem jh(w:World)(S P:List UInt8)(v:Bool)(d:v=true ↔ ∃t,S=P++t):Calls Tryz.prog 96 #[ae S,ae P] w (av w (.bool v)):=by
 have g:=ah S;have h:=ah P;have b:=Qh d;clear d;by_cases hl:P.length<=S.length
 ·have f1:((P.length:Int)<=(S.length:Int))=True:=xr (by omega)
  obtain⟨T,a⟩:=Z9 (S.take P.length);have f:(⟨S.toArray⟩:ByteArray).extract 0 P.length=⟨T.toArray⟩:=by rw[dc,Gl,Nat.sub_zero,a]
  have hw:v=(T==P):=by
   cases hc:(T==P)
   ·cases v
    ·rfl
    obtain⟨t,c⟩:=b.out.1 rfl;rw[it]at hc;exact absurd (by rw[<-a,c];simp) hc
   exact b.out.2 ⟨S.drop P.length,by rw[<-eq_of_beq hc,<-a];simp[Nat.min_eq_left hl]⟩
  subst hw;clear a;go_in;go_wp2;go_ret;exact⟨rfl,aa w⟩
 have f1:((P.length:Int)<=(S.length:Int))=False:=oK (by omega)
 have hw:v=false:=by
  cases v
  ·rfl
  obtain⟨t,c⟩:=b.out.1 rfl;rw[c,kc]at hl;omega
 subst hw;go_in;go_wp2;go_ret;exact⟨rfl,aa w⟩
theorem zY{α:Type}{P:α->Prop}{l:List α}{i:Nat}{a:α}(h:l[i]?=some a)(d:∀x∈l.take i,P x)(c:P a):∀x∈l.take (i+1),P x:=by
 intro x b;rw[FV,h]at b;rcases Gu.1 b with b|b
 ·exact d x b
 simp at b;rw[b];exact c
theorem tz(c:UInt8):gK.contains c=(decide (48<=c.toNat/\c.toNat<=57)||decide (97<=c.toNat/\c.toNat<=102)):=by
 have h:∀n:Fin 256,gK.contains (UInt8.ofNat n.1)=(decide (48<=n.1/\n.1<=57)||decide (97<=n.1/\n.1<=102)):=by decide +kernel
 have:=h ⟨c.toNat,c.toNat_lt⟩;simpa using this
theorem Cm(w:World)(X:List UInt8)(u:X.length<=65536)(v:Bool)(r:v=true ↔ ∀c∈X,gK.contains c=true):Calls Tryz.prog 98 #[ae X] w (av w (.bool v)):=by
 have x:=ah X;have q:=Qh r;clear r;go_in;go_wp2_with fail;go_loopw [3] (fun p wr=>∃i:Nat,p=.int .i64 (i:Nat)/\i<=X.length/\Hid (∀c∈X.take i,gK.contains c=true)/\Below w.heap.size w wr) (fun p _=>X.length-(intOf p).toNat)
 case atStart=>exact⟨0,rfl,Nat.zero_le _,Qh (fun c h=>by simp at h),aa w⟩
 case round =>
  obtain⟨i,rfl,y,k,hb⟩:=hrel;rename World=>wa;rcases Nat.lt_or_ge i X.length with n|l
  ·have m:((i:Int)<(X.length:Int))=True:=by simp;omega
   have t:(0:Int)<=((i:Nat):Int):=by omega
   obtain⟨c,o⟩:∃c,X[i]?=some c:=⟨_,sx n⟩;have s:∀h,(⟨X.toArray⟩:ByteArray)[i]' h=c:=fun h=>(ts.1 o).2
   have a:=tz c;have j:=Qh o;clear o;by_cases h1:48<=c.toNat
   ·have f1:((48:Int)<=((c.toNat:Nat):Int))=True:=xr (by omega)
    by_cases h2:c.toNat<=57
    ·have f2:(((c.toNat:Nat):Int)<=57)=True:=xr (by omega)
     have b:gK.contains c=true:=by rw[a];simp[h1,h2]
     have d:=Qh (zY j.out k.out b);clear a b;go_wp2_with fail;go_roundw
     case rel=>exact⟨i+1,by go_num,by omega,d,hb⟩
     case measure=>simp[intOf];omega
    have f2:(((c.toNat:Nat):Int)<=57)=False:=oK (by omega);by_cases h3:97<=c.toNat/\c.toNat<=102
    ·have f3:((97:Int)<=((c.toNat:Nat):Int))=True:=xr (by omega)
     have f4:(((c.toNat:Nat):Int)<=102)=True:=xr (by omega);have b:gK.contains c=true:=by rw[a];simp[h3]
     have d:=Qh (zY j.out k.out b);clear a b;go_wp2_with fail;go_roundw
     case rel=>exact⟨i+1,by go_num,by omega,d,hb⟩
     case measure=>simp[intOf];omega
    have b:gK.contains c=false:=by rw[a];simp;omega
    have f:v=false:=by
     cases v
     ·rfl
     have:=q.out.1 rfl c (pk j.out);rw[b]at this;cases this
    subst f;by_cases h4:97<=c.toNat
    ·have f3:((97:Int)<=((c.toNat:Nat):Int))=True:=xr (by omega)
     have f4:(((c.toNat:Nat):Int)<=102)=False:=oK (by omega);go_wp2;go_ret;exact⟨rfl,hb⟩
    have f3:((97:Int)<=((c.toNat:Nat):Int))=False:=oK (by omega);go_wp2;go_ret;exact⟨rfl,hb⟩
   have f1:((48:Int)<=((c.toNat:Nat):Int))=False:=oK (by omega);have f3:((97:Int)<=((c.toNat:Nat):Int))=False:=oK (by omega);have b:gK.contains c=false:=by rw[a];simp;omega
   have f:v=false:=by
    cases v
    ·rfl
    have:=q.out.1 rfl c (pk j.out);rw[b]at this;cases this
   subst f;go_wp2;go_ret;exact⟨rfl,hb⟩
  have m:((i:Int)<(X.length:Int))=False:=by simp;omega
  have g:X.take i=X:=ms l;rw[g]at k;obtain rfl:v=true:=q.out.2 k.out;clear g;go_wp2;go_ret;exact⟨rfl,hb⟩
theorem wM{m:Nat}{t:List UInt8}(h:Lib.itoa (m:Int)=t):t.head?≠some 48\/t.length=1:=by
 rw[GB]at h;rcases Nat.eq_zero_or_pos m with a|a
 ·subst a
  right;rw[<-h];decide +kernel
 obtain⟨c,r,e,b,_⟩:=yv a;left;rw[<-h,e];simpa using b
def Cn(w:World)(S:List UInt8)(e:Ending)(w':World):Prop:=∃(z:Int) (R:List UInt8) (b:Bool),e=.returned (.tuple #[.int .i64 z,ae R,.bool b])/\(b=true->∃n:Nat,n<=99999/\z=n/\S=Lib.itoa (n:Int)++R)/\(∀(m:Nat) c Q,m<=99999->aU c=false->S=Lib.itoa (m:Int)++c::Q->b=true/\z=(m:Nat)/\R=c::Q)/\Below w.heap.size w w'
def pX(S:List UInt8)(k:Nat):Prop:=k<=5/\k<=S.length/\(S.take k).all aU=true/\(k=5\/k=S.length\/∃c,S[k]?=some c/\aU c=false)
theorem sj{S:List UInt8}{k m:Nat}{c:UInt8}{Q:List UInt8}(h:pX S k)(q:m<=99999)(j:aU c=false)(e:S=Lib.itoa (m:Int)++c::Q):k=(Lib.itoa (m:Int)).length:=by
 obtain⟨o,p,hd,g⟩:=h
 have i:(Lib.itoa (m:Int)).length<=5:=by
  rw[GB,GQ];exact zu 4 m (by omega)
 have b:=(pR m).1;generalize Lib.itoa (m:Int)=t at e i b⊢;rcases Nat.lt_trichotomy k t.length with h|h|h
 ·exfalso
  rcases g with g|g|⟨d,f,a⟩
  ·omega
  ·rw[e,kc,oP]at g;omega
  rw[e,Gq h]at f;rw[zX.1 b d (pk f)]at a;cases a
 ·exact h
 exfalso;have n:S[t.length]?=some c:=by rw[e,xE Qr];simp
 have l:(S.take k)[t.length]?=some c:=by rw[Gk,kZ h];exact n
 rw[zX.1 hd c (pk l)]at j;cases j
theorem uL{S:List UInt8}{k:Nat}(h:pX S k)(d:k=0\/(1<k/\S[0]?=some 48)):∀(m:Nat) c Q,m<=99999->aU c=false->S=Lib.itoa (m:Int)++c::Q->False:=by
 intro m c Q j l e;have i:=sj h j l e;have g:=uy m;have a:=wM (m:=m) rfl;generalize Lib.itoa (m:Int)=t at e i g a;have b:0<t.length:=FW.2 g;rcases d with d|⟨d,f⟩
 ·omega
 rcases a with a|a
 ·rw[e,Gq b]at f
  exact a (by rw[List.head?_eq_getElem?];exact f)
 omega
theorem z8{S:List UInt8}{k:Nat}(h:pX S k)(c:¬(k=0\/(1<k/\S[0]?=some 48))):ap (S.take k)<=99999/\Lib.itoa (ap (S.take k):Int)=S.take k:=by
 obtain⟨d,f,hd,_⟩:=h;have b:=dQ hd;have a:(S.take k).length=k:=by rw[vq];omega
 rw[a]at b;refine⟨?_,?_⟩
 ·have:10^k<=10^5:=Nat.pow_le_pow_right (by decide) d
  omega
 rw[GB];refine vM _ rfl hd (fun e=>c (.inl (by rw[<-a,e];rfl))) ?_;rw[a];by_cases h1:k=1
 ·exact .inr h1
 refine .inl fun e=>c (.inr ⟨by omega,?_⟩)
 rw[List.head?_eq_getElem?,Gk,kZ (by omega)]at e;exact e
theorem pY(w:World)(S:List UInt8)(hS:S.length<=70000):Calls Tryz.prog 97 #[ae S] w (Cn w S):=by
 have zS:=ah S;go_in;go_wp2_with fail;go_loopw [5,6] (fun nv kv wr=>∃k:Nat,nv=.int .i64 (ap (S.take k):Nat)/\kv=.int .i64 (k:Nat)/\k<=5/\k<=S.length/\Hid ((S.take k).all aU=true)/\Below w.heap.size w wr) (fun _ kv _=>S.length-(intOf kv).toNat)
 case atStart=>exact⟨0,rfl,rfl,Nat.zero_le _,Nat.zero_le _,Qh rfl,aa w⟩
 case round =>
  obtain⟨k,rfl,rfl,H,K,HD,hb⟩:=hrel;rename World=>wa;have aT:(0:Int)<=((k:Nat):Int):=by omega
  obtain⟨n,R⟩:=Z9 (ap (S.take k));rw[R]
  have aZ:n<=99999:=by
   have r:=dQ HD.out;rw[vq,Nat.min_eq_left K,R]at r;have:10^k<=10^5:=Nat.pow_le_pow_right (by decide) H;omega
  have HN:=Qh R;clear R;by_cases u:k<S.length/\k<5/\∃c,S[k]?=some c/\aU c=true
  ·obtain⟨t,an,c,i,C⟩:=u
   have aF:((k:Int)<(S.length:Int))=True:=xr (by omega);have aC:((k:Int)<5)=True:=xr (by omega);have g:∀h,(⟨S.toArray⟩:ByteArray)[k]' h=c:=fun h=>(ts.1 i).2
   have l:=C;unfold aU at l;simp only[uv,FZ]at l;have f1:((48:Int)<=((c.toNat:Nat):Int))=True:=xr (by omega);have f2:(((c.toNat:Nat):Int)<=57)=True:=xr (by omega);have E:S.take (k+1)=S.take k++[c]:=by rw[FV,i];rfl
   have N:ap (S.take (k+1))=n*10+(c.toNat-48):=by rw[E,dP,HN.out];rfl
   have ac:IntKind.u8.wrap (((c.toNat:Nat):Int)-48)=((c.toNat-48:Nat):Int):=by simp[IntKind.wrap,IntKind.signed,IntKind.bits];omega
   have ao:IntKind.i64.wrap (10*(n:Int))=10*(n:Int):=by rw[GV];omega
   have W:IntKind.i64.wrap (10*(n:Int)+((c.toNat-48:Nat):Int))=((n*10+(c.toNat-48):Nat):Int):=by rw[GV];omega
   have U:Hid ((S.take (k+1)).all aU=true):=Qh (by rw[E,Gv,HD.out];simp[C]);have ad:=Qh N;have V:IntKind.i64.wrap ((c.toNat-48:Nat):Int)=((c.toNat-48:Nat):Int):=by rw[GV];omega
   obtain⟨dd,B⟩:=Z9 (c.toNat-48);rw[B]at ac W V;have al:=Qh B;clear E N C l i B;go_wp2_with fail;go_roundw
   case rel=>exact⟨k+1,by rw[ad.out,al.out];first|rfl|(congr 1;omega),by go_num,by omega,by omega,U,hb⟩
   case measure=>simp[intOf];omega
  ·have p:pX S k:=by
    refine⟨H,K,HD.out,?_⟩;by_cases r:k=5
    ·exact .inl r
    by_cases y:k=S.length
    ·exact .inr (.inl y)
    have t:k<S.length:=by omega
    refine .inr (.inr ⟨S[k],sx t,?_⟩);cases hd:aU S[k]
    ·rfl
    exact absurd ⟨t,by omega,S[k],sx t,hd⟩ u
   have x:=Qh p;have I:wa=wa:=rfl;obtain⟨T,P⟩:=Z9 (S.drop k);have e1:(⟨S.toArray⟩:ByteArray).extract k S.length=⟨T.toArray⟩:=by rw[dc,P,ms (by rw[<-P,vu];exact Qr)]
   have HT:=Qh P;have q:∀h:0<S.length,∃c,S[0]?=some c/\(∀y,(⟨S.toArray⟩:ByteArray)[0]' y=c):=fun h=>⟨S[0],sx h,fun _=>rfl⟩
   clear p I P
   -- the loop's test fails
   have f:((k:Int)<(S.length:Int))=False\/(((k:Int)<(S.length:Int))=True/\((k:Int)<5)=False)\/(((k:Int)<(S.length:Int))=True/\((k:Int)<5)=True/\∃c:UInt8,(∀h,(⟨S.toArray⟩:ByteArray)[k]' h=c)/\(((48:Int)<=((c.toNat:Nat):Int))=False\/(((48:Int)<=((c.toNat:Nat):Int))=True/\(((c.toNat:Nat):Int)<=57)=False))):=by
    by_cases r:k<S.length
    ·have o:((k:Int)<(S.length:Int))=True:=xr (by omega)
     by_cases y:k<5
     ·have F:((k:Int)<5)=True:=xr (by omega)
      refine .inr (.inr ⟨o,F,S[k],fun _=>rfl,?_⟩)
      have hd:aU S[k]=false:=by
       cases hd:aU S[k]
       ·rfl
       exact absurd ⟨r,y,S[k],sx r,hd⟩ u
      unfold aU at hd;simp only[Bool.and_eq_false_iff,decide_eq_false_iff_not]at hd;by_cases h3:48<=S[k].toNat
      ·exact .inr ⟨xr (by omega),oK (by omega)⟩
      exact .inl (oK (by omega))
     exact .inr (.inl ⟨o,oK (by omega)⟩)
    exact .inl (oK (by omega))
   have HZ:=Qh q;clear u q;by_cases a:k=0
   ·have Z:((k:Int)==0)=true:=by rw[a];rfl
    have j:=uL x.out (.inl a);have D:=Qh j;clear j a;rcases f with o|⟨o,F⟩|⟨o,F,c,g,O|⟨O,g4⟩⟩
    all_goals
     go_wp2_with fail;refine xD (v:=.tuple #[.int .i64 0,ae S,.bool false]) (by simp[results,Tryz.results97,go_sem]<;>trivial) rfl ?_;exact⟨0,S,false,rfl,(fun h=>by cases h),(fun m c Q G i e=>(D.out m c Q G i e).elim),hb⟩
   have Z:((k:Int)==0)=false:=by rw[it];omega
   obtain⟨c0,s,X⟩:=HZ.out (by omega);by_cases b:1<k/\c0=48
   ·have M:((1:Int)<(k:Int))=True:=xr (by omega)
    have fc:(((c0.toNat:Nat):Int)==48)=true:=by rw[b.2];rfl
    have j:=uL x.out (.inr ⟨b.1,by rw[s,b.2]⟩);have D:=Qh j;clear j s;rcases f with o|⟨o,F⟩|⟨o,F,c,g,O|⟨O,g4⟩⟩
    all_goals
     go_wp2_with fail;refine xD (v:=.tuple #[.int .i64 0,ae S,.bool false]) (by simp[results,Tryz.results97,go_sem]<;>trivial) rfl ?_;exact⟨0,S,false,rfl,(fun h=>by cases h),(fun m c Q G i e=>(D.out m c Q G i e).elim),hb⟩
   have d:=z8 x.out (by rintro(h|⟨r,y⟩);exact a h;exact b ⟨r,by rw[s]at y;injection y⟩);rw[HN.out]at d;have z:=Qh d;have L:S=S.take k++S.drop k:=(GX k S).symm;have Y:=Qh L
   have A:∀(m:Nat) c Q,m<=99999->aU c=false->S=Lib.itoa (m:Int)++c::Q->(n:Int)=(m:Nat)/\T=c::Q:=by
    intro m c Q G i e;have hl:=sj x.out G i e;have e2:S.take k=Lib.itoa (m:Int):=by rw[hl,e];simp
    have e3:T=c::Q:=by rw[<-HT.out,hl,e];simp
    refine⟨?_,e3⟩;rw[<-HN.out,e2,(pR m).2]
   have J:=Qh A
   have ab:((1:Int)<(k:Int))=False\/(((1:Int)<(k:Int))=True/\(((c0.toNat:Nat):Int)==48)=false):=by
    by_cases r:1<k
    ·refine .inr ⟨xr (by omega),?_⟩
     rw[it];intro e;exact b ⟨r,GC (by rw[show (48:UInt8).toNat=48 from rfl];omega)⟩
    exact .inl (oK (by omega))
   have aS:(k:Int)<=(S.length:Int):=by omega
   clear d L A b s;rcases ab with M|⟨M,fc⟩<;>rcases f with o|⟨o,F⟩|⟨o,F,c,g,O|⟨O,g4⟩⟩
   all_goals
    go_wp2_with fail;go_quiet (fail);go_wp2_with fail;refine xD (v:=.tuple #[.int .i64 n,ae T,.bool true]) (by simp[results,Tryz.results97,go_sem]<;>trivial) rfl ?_;exact⟨n,T,true,rfl,(fun _=>⟨n,z.out.1,rfl,by rw[z.out.2,<-HT.out];exact Y.out⟩),(fun m c Q G i e=>⟨rfl,J.out m c Q G i e⟩),by first|exact hb|exact af hb _⟩
abbrev wN:List UInt8:=[108,105,110,107,119,111,114,107,32,49,32]
theorem nh(m:Nat)(Q:List UInt8):eH m++Q=wN++(Lib.itoa (m:Int)++10::Q):=by unfold eH;simp
theorem Ad(w:World)(S:List UInt8)(hS:S.length<9223372036854775808)(x:Int)(n:Nat)(R:List UInt8)(h:lz S x n R):Calls Tryz.prog 56 #[ae S] w (av w (.tuple #[.int .i64 (n:Nat),ae R,.int .i64 x])):=by
 have zS:=ah S;rcases h with⟨o,rfl,rfl,rfl⟩|⟨o,O,rfl,rfl,rfl⟩|C
 ·have f1:((65536:Int)<(S.length:Int))=True:=xr (by omega)
  go_in;go_wp2_with fail;refine xD (v:=.tuple #[.int .i64 0,.string ⟨#[]⟩,.int .i64 4]) (by simp[results,Tryz.results56,go_sem]<;>trivial) rfl ?_;exact⟨rfl,aa w⟩
 ·have f1:((65536:Int)<(S.length:Int))=False:=oK (by omega)
  have T:=Qh O;clear O;by_cases hP:∃t,S=wN++t
  ·obtain⟨t,c⟩:=hP
   have J:S.length=11+t.length:=by rw[c,kc];rfl
   have W:(⟨S.toArray⟩:ByteArray).extract 11 S.length=⟨t.toArray⟩:=by
    rw[dc,c];simp
   have Z:(11:Int)<=(S.length:Int):=by omega
   have E:=Qh c;have k:=Qh (show t.length<=70000 by omega);clear c J;go_in;go_wp2_with fail;refine(jh w S wN true ⟨fun _=>⟨t,E.out⟩,fun _=>rfl⟩).mono ?_;rintro p G⟨rfl,q1⟩;go_wp2_with fail;refine(pY G t k.out).mono ?_;rintro p N⟨z,M,b,rfl,U,_,a⟩;have q2:=ag q1 a;have A:=Qh U;clear U a;cases b
   ·go_wp2_with fail
    refine xD (v:=.tuple #[.int .i64 0,.string ⟨#[]⟩,.int .i64 2]) (by simp[results,Tryz.results56,go_sem]<;>trivial) rfl ?_;exact⟨rfl,q2⟩
   obtain⟨m,q,rfl,D⟩:=A.out rfl;have s:false=true ↔ ∃u,M=[10]++u:=⟨(fun h=>by cases h),fun⟨u,B⟩=>absurd (by rw[E.out,D,B,nh];rfl) (T.out m u q)⟩;have V:=Qh s;clear s D;go_wp2_with fail;refine(jh N M [10] false ⟨(fun h=>by cases h),fun B=>by obtain⟨u,B⟩:=B;exact absurd (by obtain⟨m',X,hz,I⟩:=A.out (by first|exact rfl|exact GI);rw[E.out,I,B,show m'=m by omega,nh];rfl) (T.out m u q)⟩).mono ?_;rintro p Y⟨rfl,f⟩;have q3:=ag q2 f;go_wp2_with fail;refine xD (v:=.tuple #[.int .i64 0,.string ⟨#[]⟩,.int .i64 2]) (by simp[results,Tryz.results56,go_sem]<;>trivial) rfl ?_;exact⟨rfl,q3⟩
  go_in;go_wp2_with fail;refine(jh w S wN false ⟨(fun h=>by cases h),fun h=>absurd h hP⟩).mono ?_;rintro p G⟨rfl,q1⟩;go_wp2_with fail;refine xD (v:=.tuple #[.int .i64 0,.string ⟨#[]⟩,.int .i64 2]) (by simp[results,Tryz.results56,go_sem]<;>trivial) rfl ?_;exact⟨rfl,q1⟩
 ·obtain⟨m,Q,q,o,d,g⟩:∃m Q,m<=99999/\S.length<=65536/\S=eH m++Q/\((16<m/\x=4/\n=0/\R=[])\/(m<=16/\x=0/\n=m/\R=Q)):=by
   rcases C with⟨o,⟨m,Q,q,y,d⟩,rfl,rfl,rfl⟩|⟨o,hn,L,rfl⟩
   ·exact⟨m,Q,q,o,d,.inl ⟨y,rfl,rfl,rfl⟩⟩
   exact⟨n,R,by omega,o,L,.inr ⟨hn,rfl,rfl,rfl⟩⟩
  clear C;have f1:((65536:Int)<(S.length:Int))=False:=oK (by omega);obtain⟨t,j⟩:=Z9 (Lib.itoa (m:Int)++10::Q);have c:S=wN++t:=by rw[d,nh,j]
  have J:S.length=11+t.length:=by rw[c,kc];rfl
  have W:(⟨S.toArray⟩:ByteArray).extract 11 S.length=⟨t.toArray⟩:=by
   rw[dc,c];simp
  have Z:(11:Int)<=(S.length:Int):=by omega
  have F:(10::Q).length=Q.length+1:=rfl;obtain⟨l,H⟩:=Z9 (10::Q);rw[H]at F;have zQ:=ah l;have e2:(⟨l.toArray⟩:ByteArray).extract 1 l.length=⟨Q.toArray⟩:=by rw[dc,<-H];simp
  have g2:(1:Int)<=(l.length:Int):=by omega
  have E:=Qh c;have K:=Qh j;have P:=Qh H;have i:=Qh g;have k:=Qh (show t.length<=70000 by omega);clear c J j H d g F;go_in;go_wp2_with fail;refine(jh w S wN true ⟨fun _=>⟨t,E.out⟩,fun _=>rfl⟩).mono ?_;rintro p G⟨rfl,q1⟩;go_wp2_with fail;refine(pY G t k.out).mono ?_;rintro p N⟨z,M,b,rfl,_,r,a⟩;have q2:=ag q1 a;obtain⟨rfl,rfl,rfl⟩:=r m 10 Q q (by decide) K.out.symm;clear r a;rw[P.out];go_wp2_with fail;refine(jh N l [10] true ⟨fun _=>⟨Q,P.out.symm⟩,fun _=>rfl⟩).mono ?_;rintro p Y⟨rfl,f⟩;have q3:=ag q2 f;clear f;by_cases y:16<m
  ·have f2:((16:Int)<(m:Int))=True:=xr (by omega)
   obtain⟨_,rfl,rfl,rfl⟩|⟨h,_⟩:=i.out
   rotate_left
   ·omega
   go_wp2_with fail;refine xD (v:=.tuple #[.int .i64 0,.string ⟨#[]⟩,.int .i64 4]) (by simp[results,Tryz.results56,go_sem]<;>trivial) rfl ?_;exact⟨rfl,q3⟩
  have f2:((16:Int)<(m:Int))=False:=oK (by omega);obtain⟨h,_⟩|⟨_,rfl,rfl,rfl⟩:=i.out
  ·omega
  go_wp2_with fail;go_quiet (fail);go_wp2_with fail;refine xD (v:=.tuple #[.int .i64 n,ae R,.int .i64 0]) (by simp[results,Tryz.results56,go_sem]<;>trivial) rfl ?_;exact⟨rfl,by first|exact q3|exact af q3 _⟩
theorem Co(w:World)(S:List UInt8)(a:S.length<9223372036854775808)(x:Int)(n:Nat)(R:List UInt8)(h:lz S x n R):Calls Tryz.prog 23 #[ae S] w (av w (.tuple #[.int .i64 (n:Nat),.int .i64 x])):=by
 go_in;go_wp2_with fail;refine(Ad w S a x n R h).mono ?_;rintro c b⟨rfl,q1⟩;go_wp2_with fail;go_ret2;exact⟨rfl,q1⟩
noncomputable def Ae (l:List Tkn):aq × PS :=
  let b:=((⟨l,L0,0⟩:PS).expect 0 dG).body
  (b.1,if b.2.x=0/\b.2.toks≠[] then b.2.fail 2 else b.2)
def B0:aq:=⟨[],[]⟩
inductive Fs (s:List UInt8) (x:Int) (b:aq):Prop
  |split (l:List Tkn) (hs:bi s x l) (hx:x≠0) (hb:b=B0)
  |read (l:List Tkn) (hs:bi s 0 l) (hr:(Ae l).2.x=x) (hx:x≠0) (hb:b=B0)
  |ok (l:List Tkn) (hs:bi s 0 l) (hr:(Ae l).2.x=0) (hx:x=0) (hb:b=(Ae l).1)
theorem Fc{w:World}{g:Nat}{t:TypeId}{b c:Value}(z:Blk w g t #[b,c])(h:noW b=true/\noW c=true)(d f:Value):Tch (bI t) w ((w.setCell ⟨g,0,none⟩ d).setCell ⟨g,1,none⟩ f) :=
 Tch.of_ne (by simp[World.setCell]) z (by simp[bI]) (by simp[h]) fun g' _ a=>by
  rw[so _ _ _ _ a,so _ _ _ _ a]
theorem FO{B g:Nat}{a w:World}(h:Below B a w)(hB:B<=g)(b c:Value):Below B a ((w.setCell ⟨g,0,none⟩ b).setCell ⟨g,1,none⟩ c):=(h.setCell (p:=⟨g,0,none⟩) hB b).setCell (p:=⟨g,1,none⟩) hB c
end Go.Proofs.YtfilnhompchciaaGreatDoor
namespace Go.Proofs.YtfilnhompchciaaGreatDoor
open Go Go.RowKit Bn Go.Lib
attribute [local go_sem ↓] Go.wp_at_zero Go.wp_at_succ
theorem iy{D r:List UInt8}(a:D.all aU=true)(b:∀c t,r=c::t->aU c=false):d9 (D++r)=D.length:=by
 induction D with
 |nil =>
  cases r with
  |nil=>rfl
  |cons c t=>unfold d9;rw[Gf,Gj,b c t rfl];rfl
 |cons x D ih =>
  rw[Gd,uv]at a;unfold d9 at ih⊢;rw[Hm,Gj,a.1,kZ rfl,oP,oP,ih a.2]
end Go.Proofs.YtfilnhompchciaaGreatDoor
namespace Go.Proofs.YtfilnhompchciaaGreatDoor
open Go Go.RowKit Bn
attribute [local go_sem ↓] Go.wp_at_zero Go.wp_at_succ
theorem Af{s:List UInt8}{i:Nat}(h:i<s.length):ap (s.take (i+1))=ap (s.take i)*10+gX (atB s i):=by
 have:s.take (i+1)=s.take i++[atB s i]:=by rw[FV,sx h,cO h];rfl
 rw[this,dP]
theorem Ag(a d:Nat):(((a:Nat):Int):Rat)*((10:Int):Rat)+(((d:Nat):Int):Rat)=(((a*10+d:Nat):Int):Rat):=by
 rw[<-Rat.intCast_mul,<-Rat.intCast_add];congr 1
theorem Fd{s:List UInt8}{i:Nat}(h:s.all aU=true)(a:i<s.length):aU (atB s i)=true:=by
 rw[cO a];exact zX.1 h _ (Hj _)
theorem lX(w:World)(s:List UInt8)(hD:s.all aU=true)(hl:s.length<=60):Calls Tryz.prog 200 #[ae s] w (nG w (((ap s:Nat):Int):Rat) 181):=by
 have bu:=ah s;have HD:=Qh hD;clear hD;go_in;go_wp2_with fail;have p1:=(((Kp.refl w).alloc (.cells #[.bool false,.slice none 0 0,.slice none 0 0] 65)).alloc (.cells #[.bool false,.slice none 0 0,.slice none 0 0] 65));have a2:=(((aa w).alloc (by first|omega|(simp<;>omega)) (.cells #[.bool false,.slice none 0 0,.slice none 0 0] 65)).alloc (by first|omega|(simp<;>omega)) (.cells #[.bool false,.slice none 0 0,.slice none 0 0] 65));have b:Blk ((w.alloc (.cells #[.bool false,.slice none 0 0,.slice none 0 0] 65)).alloc (.cells #[.bool false,.slice none 0 0,.slice none 0 0] 65)) w.heap.size 65 #[.bool false,.slice none 0 0,.slice none 0 0]:=((aj _ _ _ (by simp)).alloc (.cells #[.bool false,.slice none 0 0,.slice none 0 0] 65));have g:Blk ((w.alloc (.cells #[.bool false,.slice none 0 0,.slice none 0 0] 65)).alloc (.cells #[.bool false,.slice none 0 0,.slice none 0 0] 65)) (w.heap.size+1) 65 #[.bool false,.slice none 0 0,.slice none 0 0]:=(aj _ _ _ (by simp));have br:w.heap.size+2<=((w.alloc (.cells #[.bool false,.slice none 0 0,.slice none 0 0] 65)).alloc (.cells #[.bool false,.slice none 0 0,.slice none 0 0] 65)).heap.size:=by simp
 generalize bk:((w.alloc (.cells #[.bool false,.slice none 0 0,.slice none 0 0] 65)).alloc (.cells #[.bool false,.slice none 0 0,.slice none 0 0] 65))=w1 at p1 a2 br b g⊢;clear bk;go_loopw [4] (fun iv wr=>∃(i:Nat) (o:Bool) (p:Option Addr) (no x:Nat) (C:Option Addr) (z A:Nat),iv=.int .i64 (i:Nat)/\i<=s.length/\QV wr o p no x C z A (((ap (s.take i):Nat):Int):Rat) (1+3*i)/\Kp w1 wr/\Below w.heap.size w wr/\w1.heap.size<=wr.heap.size/\Blk wr w.heap.size 65 #[.bool false,.slice none 0 0,.slice none 0 0]/\Blk wr (w.heap.size+1) 65 #[.bool o,.slice p no x,.slice C z A]) (fun iv _=>s.length-(intOf iv).toNat)
 case atStart=>exact⟨0,false,none,0,0,none,0,0,rfl,Nat.zero_le _,QV.zero _ _,Kp.refl _,a2,Qr,b,g⟩
 case round =>
  clear b;clear g;obtain⟨i,o,p,no,x,C,z,A,rfl,hi,ho,X,aC,b2,b,g⟩:=hrel;by_cases H:i<s.length
  ·have bg:((i:Int)<(s.length:Int))=True:=by simp;omega
   have b1:i<s.length:=H;have hq:=Ag (ap (s.take i)) (gX (atB s i));rw[<-Af H]at hq;obtain⟨v,hv⟩:∃v:Rat,(((ap (s.take i):Nat):Int):Rat)=v:=⟨_,rfl⟩;rw[hv]at ho hq;have Q:=Fd HD.out H;obtain⟨c0,S⟩:∃c,atB s i=c:=⟨_,rfl⟩;have bz:∀h,(⟨s.toArray⟩:ByteArray)[i]' h=c0:=fun h=>by rw[<-S];exact(cO H).symm
   rw[S]at Q hq;obtain⟨d,hd⟩:=Z9 (gX c0);have bb:48<=c0.toNat/\c0.toNat<=57:=by unfold aU at Q;simpa using Q
   have a4:c0.toNat-48=d:=hd;rw[hd]at hq;obtain⟨cn,bd⟩:=Z9 (c0.toNat);rw[bd]at bb a4;have ca:IntKind.u8.wrap ((cn:Int)-48)=(d:Int):=by rw[show (cn:Int)-48=(d:Int) by omega];exact IntWalk.u8_in _ ⟨by omega,by omega⟩
   have bv:d<10:=by omega
   have bY:IntKind.i64.wrap (d:Int)=(d:Int):=ty _ ⟨by omega,by omega⟩;have HQ:=Qh hq;clear hq hv S Q hd bb a4 H;obtain⟨O,M,G⟩:=g.c3;obtain⟨J,L,P,I⟩:=kn g.lt;go_wp2_with fail
   refine nH (B:=w.heap.size) (fr:=fun a=>⟨List.toArray (ae s::undef :: .pointer (some ⟨w.heap.size,0,none⟩) :: .pointer (some ⟨w.heap.size+1,0,none⟩) :: .int .i64 (i:Nat) :: .agg #[.bool false,.slice none 0 0,.slice none 0 0] :: .int .i64 (i:Nat)::ae s :: .int .i64 (s.length:Nat) :: .bool true::u10::u11::a 0::a 1::a 2::a 3::a 4::a 5::a 6::a 7::a 8::a 9::undef::[]),[]⟩) (R:=fun ri=>List.getD ((PEq (.agg #[.bool o,.slice p no x,.slice C z A]))::(VQ (((10:Int):Rat)) (1))::(VQ ((v)*(((10:Int):Rat))) (((1+3*i))+(1)))::(PEq (ae s))::(PEq (.int .i64 (i:Nat)))::(PEq (.int .u8 (cn:Nat)))::(PEq (.int .u8 (d:Nat)))::(PEq (.int .i64 (d:Nat)))::(VQ ((((d:Nat):Int):Rat)) (1))::(VQ (((v)*(((10:Int):Rat)))+((((d:Nat):Int):Rat))) ((((1+3*i))+(1))+(1)+1))::qR::[]) ri (fun _ _=>True)) (es:=[]) (ow:=[⟨w.heap.size,11,0,65,#[.bool false,.slice none 0 0,.slice none 0 0],Dk⟩,⟨w.heap.size+1,10,0,65,#[.bool o,.slice p no x,.slice C z A],CQ (((v)*(((10:Int):Rat)))+((((d:Nat):Int):Rat))) ((((1+3*i))+(1))+(1)+1)⟩]) (x0:=(upd (upd (upd (upd (upd (upd (upd (upd (upd (upd (fun _=>undef) 0 (u12)) 1 (u13)) 2 (u14)) 3 (u15)) 4 (u16)) 5 (u17)) 6 (u18)) 7 (u19)) 8 (u20)) 9 (u21))) (by kernel_rfl)
    (aD ⟨fun _ _=>rfl,fun _ _=>rfl,fun _ _=>rfl,fun _ _=>rfl,fun _ _=>rfl,fun _ _=>rfl,fun _ _=>rfl,fun _ _=>rfl,fun _ _=>rfl,fun _ _=>rfl,fun _ _=>rfl,trivial⟩) (aD (bP _ 0 (by kernel_rfl))) (lR.get _ ⟨vC _,stQ _ _,stQ _ _,vC _,vC _,vC _,vC _,vC _,stQ _ _,stQ _ _,EL,trivial⟩)
    (fun _ h=>nomatch h) (fmc ⟨EM,fmc ⟨scQ _ _,fun _ h=>nomatch h⟩⟩) (fun _ h=>nomatch h) aC.size
    (fmc ⟨⟨b,by show w.heap.size<=w.heap.size;omega⟩,fmc ⟨⟨g,by show w.heap.size<=w.heap.size+1;omega⟩,fun _ h=>nomatch h⟩⟩) (Bv (by simp<;>omega))
    (aD ⟨?_,?_,?_,?_,?_,?_,?_,?_,?_,?_,?_,trivial⟩) ?_
   ·exact .inl ⟨by simp,by simp,fun a k D j hd K l=>by
     have y:Blk k (w.heap.size+1) 65 #[.bool o,.slice p no x,.slice C z A]:=j _ (Hr _ (GG _)) (by simp[Region.binds]);have b0:=y.c3;(try dsimp only);go_simp
     exact l.out (.agg #[.bool o,.slice p no x,.slice C z A]) _ rfl (aa _)⟩
   ·exact .inl ⟨by simp,by simp,fun a k D j hd K l=>by
     (try dsimp only);go_simp;go_at_call 202;refine(DA _ (10) ?_ ?_).mono ?_;(omega);(omega);rintro e wr⟨b3,A3,n3,c3,ao,U,ad,rfl,h3,r⟩
     exact l.out _ _ ⟨b3,A3,n3,c3,ao,U,ad,rfl,h3⟩ r⟩
   ·exact .inl ⟨by simp,by simp,fun a k D j hd K l=>by
     have aT:a 0=.agg #[.bool o,.slice p no x,.slice C z A]:=hd ⟨0,.data⟩ (by simp) rfl;obtain⟨b3,A3,n3,c3,ao,U,ad,a8,h3⟩:VQ (((10:Int):Rat)) (1) (a 1) k:=hd ⟨1,.data⟩ (by simp) rfl;(try dsimp only);(try simp only[aT,a8]);go_simp;go_at_call 234;refine(ER _ o p no x C z A (v) ((1+3*i)) ?_ b3 A3 n3 c3 ao U ad (((10:Int):Rat)) (1) ?_ ?_ ?_ ?_ ?_).mono ?_;(exact(ho.keep D).qz);(exact h3.qz);(omega);(omega);(omega);(omega);rintro e wr⟨b4,A4,n4,c4,al,an,W,rfl,h4,r⟩;have m:=l.out _ _ ⟨b4,A4,n4,c4,al,an,W,rfl,h4⟩ r;simp only[aT,a8]at m
     exact m⟩
   ·exact .inl ⟨by simp,by simp,fun a k D j hd K l=>by
     (try dsimp only);go_simp
     exact l.out (ae s) _ rfl (aa _)⟩
   ·exact .inl ⟨by simp,by simp,fun a k D j hd K l=>by
     (try dsimp only);go_simp
     exact l.out (.int .i64 (i:Nat)) _ rfl (aa _)⟩
   ·exact .inl ⟨by simp,by simp,fun a k D j hd K l=>by
     have a5:a 3=ae s:=hd ⟨3,.data⟩ (by simp) rfl;have a3:a 4=.int .i64 (i:Nat):=hd ⟨4,.data⟩ (by simp) rfl;(try dsimp only);(try simp only[a5,a3]);go_simp;have m:=l.out (.int .u8 (cn:Nat)) _ rfl (aa _);simp only[a5,a3]at m
     exact m⟩
   ·exact .inl ⟨by simp,by simp,fun a k D j hd K l=>by
     have a6:a 5=.int .u8 (cn:Nat):=hd ⟨5,.data⟩ (by simp) rfl;(try dsimp only);(try simp only[a6]);go_simp;have m:=l.out (.int .u8 (d:Nat)) _ rfl (aa _);simp only[a6]at m
     exact m⟩
   ·exact .inl ⟨by simp,by simp,fun a k D j hd K l=>by
     have aZ:a 6=.int .u8 (d:Nat):=hd ⟨6,.data⟩ (by simp) rfl;(try dsimp only);(try simp only[aZ]);go_simp;have m:=l.out (.int .i64 (d:Nat)) _ rfl (aa _);simp only[aZ]at m
     exact m⟩
   ·exact .inl ⟨by simp,by simp,fun a k D j hd K l=>by
     have ba:a 7=.int .i64 (d:Nat):=hd ⟨7,.data⟩ (by simp) rfl;(try dsimp only);(try simp only[ba]);go_simp;go_at_call 202;refine(DA _ ((d:Nat)) ?_ ?_).mono ?_;(omega);(omega);rintro e wr⟨b5,A5,n5,c5,ac,V,aF,rfl,h5,r⟩;have m:=l.out _ _ ⟨b5,A5,n5,c5,ac,V,aF,rfl,h5⟩ r;simp only[ba]at m
     exact m⟩
   ·exact .inl ⟨by simp,by simp,fun a k D j hd K l=>by
     obtain⟨b4,A4,n4,c4,al,an,W,aS,h4⟩:VQ ((v)*(((10:Int):Rat))) (((1+3*i))+(1)) (a 2) k:=hd ⟨2,.data⟩ (by simp) rfl;obtain⟨b5,A5,n5,c5,ac,V,aF,a0,h5⟩:VQ ((((d:Nat):Int):Rat)) (1) (a 8) k:=hd ⟨8,.data⟩ (by simp) rfl;(try dsimp only);(try simp only[aS,a0]);go_simp;go_at_call 217;refine(yU _ b4 A4 n4 c4 al an W ((v)*(((10:Int):Rat))) (((1+3*i))+(1)) ?_ b5 A5 n5 c5 ac V aF ((((d:Nat):Int):Rat)) (1) ?_ ?_ ?_ ?_ ?_).mono ?_;(exact h4.qz);(exact h5.qz);(omega);(omega);(omega);(omega);rintro e wr⟨Z,A6,n6,c6,q,u,t,rfl,h6,r⟩;have m:=l.out _ _ ⟨Z,A6,n6,c6,q,u,t,rfl,h6⟩ r;simp only[aS,a0]at m
     exact m⟩
   ·exact .inr (.inr (.inr ⟨⟨w.heap.size+1,10,0,65,#[.bool o,.slice p no x,.slice C z A],CQ (((v)*(((10:Int):Rat)))+((((d:Nat):Int):Rat))) ((((1+3*i))+(1))+(1)+1)⟩,by simp,rfl,by simp,by simp,(show KT 65=false by decide),fun _ _=>GI,fun a k f hd=>by
     obtain⟨Z,A6,n6,c6,q,u,t,a9,h6⟩:VQ (((v)*(((10:Int):Rat)))+((((d:Nat):Int):Rat))) ((((1+3*i))+(1))+(1)+1) (a 9) k:=hd ⟨9,.data⟩ (by simp) rfl;dsimp only at f;refine⟨[.bool Z,.slice A6 n6 c6,.slice q u t],fun w' D=>⟨Z,A6,n6,c6,q,u,t,rfl,h6.keep D⟩,fun K l=>?_⟩;have S:k.cell? ⟨w.heap.size+1,0,none⟩=some (.bool o):=f.cell 0;have cj:k.cell? ⟨w.heap.size+1,1,none⟩=some (.slice p no x):=f.cell 1;have b7:k.cell? ⟨w.heap.size+1,2,none⟩=some (.slice C z A):=f.cell 2;have cb:k.frozen? ⟨w.heap.size+1,0,none⟩=false:=f.frozen 0;have cc:k.frozen? ⟨w.heap.size+1,1,none⟩=false:=f.frozen 1;have b8:k.frozen? ⟨w.heap.size+1,2,none⟩=false:=f.frozen 2;(try dsimp only);simp only[a9];go_simp;have m:=l.out undef;simp only[a9]at m
     exact m⟩))
   clear O M G J L P I;intro y2 w2 a1 a7 b9 ab bs bl bn;replace ho:=ho.keep a1;replace X:=X.trans a1;obtain⟨_,T,ez,_⟩:=ab _ (GG _);obtain rfl:=ez (by simp);dsimp only at T;obtain⟨_,n,_,ez⟩:=ab _ (Hr _ (GG _));obtain⟨Z,A6,n6,c6,q,u,t,rfl,h6⟩:=ez (by simp);dsimp only at n;(try dsimp only);clear bs bl ab bn;clear b g;have be:=aC.trans a7;have F:w2.cell? ⟨w.heap.size+1,0,none⟩=some (.bool Z):=n.cell 0;have E:w2.cell? ⟨w.heap.size+1,1,none⟩=some (.slice A6 n6 c6):=n.cell 1;have N:w2.cell? ⟨w.heap.size+1,2,none⟩=some (.slice q u t):=n.cell 2;have Y:=kn n.lt;go_wp2_with fail;clear F E N Y;go_roundw
   case rel=>exact⟨i+1,Z,A6,n6,c6,q,u,t,by go_num,by omega,by rw[<-HQ.out];exact h6.mono (by omega),X,be,by omega,T,n⟩
   case measure=>simp[intOf];omega
  have bg:((i:Int)<(s.length:Int))=False:=by simp;omega
  obtain rfl:i=s.length:=by omega
  rw[List.take_length]at ho;have bF:=b.c3;have bw:=b.f3;have bx:=fd b.lt;obtain⟨O,M,G⟩:=g.c3;obtain⟨J,L,P,I⟩:=kn g.lt;go_wp2_with fail;refine zr1 (.agg #[.bool o,.slice p no x,.slice C z A]) ?_;exact⟨_,_,_,_,_,_,_,rfl,(ho.keep ((((Kp.refl wr).sb w.heap.size 0 b.box (by decide) (.bool o)).sb w.heap.size 1 (b.box.set ⟨w.heap.size,0,none⟩ (.bool o)) (by decide) (.slice p no x)).sb w.heap.size 2 ((b.box.set ⟨w.heap.size,0,none⟩ (.bool o)).set ⟨w.heap.size,1,none⟩ (.slice p no x)) (by decide) (.slice C z A))).mono (by omega),(((aC.sc w.heap.size 0 (by omega) (.bool o)).sc w.heap.size 1 (by omega) (.slice p no x)).sc w.heap.size 2 (by omega) (.slice C z A))⟩
theorem Cp(N:Int)(j:Nat):Rat.divInt N ((10^j:Nat):Int)/((10:Int):Rat)=Rat.divInt N ((10^(j+1):Nat):Int):=by
 rw[GN,GN,Nat.pow_succ,Int.natCast_mul,Rat.intCast_mul,Rat.div_def,Rat.div_def,Rat.div_def,Rat.inv_mul_rev,Rat.mul_assoc];congr 1;exact Rat.mul_comm _ _
theorem div_one(N:Int):((N:Int):Rat)=Rat.divInt N ((10^0:Nat):Int):=(ye N).symm
def Ah(N j:Nat):Rat:=Rat.divInt ((N:Nat):Int) ((10^j:Nat):Int)
theorem uM(N:Int)(d:Int):-(Rat.divInt N d)=Rat.divInt (-N) d:=by rw[Rat.neg_divInt]
theorem DY(m:Bool){D r:List UInt8}(h:isD D):((((atB (sg m (D++r)) 0).toNat:Nat):Int)==45)=m:=by
 obtain⟨c,t,rfl,b⟩:=rS h;cases m
 ·refine(ar c 45).trans ?_
  have a:c≠45:=by rintro rfl;exact absurd b (by decide)
  simpa using a
 rfl
theorem lY(D r:List UInt8)(c:UInt8):atB (D++c::r) D.length=c:=by
 unfold atB;rw[G7,xE Qr];simp
theorem uN(D:List UInt8):atB D D.length=0:=fM Qr
theorem nR(w:World)(s:List UInt8)(h:60<s.length):Calls Tryz.prog 157 #[ae s] w (fg w (.int .i64 4) 0 1):=by
 have a:=ah s;have b:((60:Int)<(s.length:Int))=True:=xr (by omega);go_in;go_wp2_with fail;refine zr1 (.tuple #[.agg #[.bool false,.slice none 0 0,.slice none 0 0],.int .i64 4]) ?_;exact⟨_,_,_,_,_,_,_,rfl,QV.zero _ _,((aa w).alloc (by first|omega|(simp<;>omega)) (.cells #[.bool false,.slice none 0 0,.slice none 0 0] 65))⟩
theorem sk(w:World)(s:List UInt8)(h:s.length<=60)(hb:s.length=0\/cT s≠s.length):Calls Tryz.prog 157 #[ae s] w (fg w (.int .i64 2) 0 1):=by
 have i:=ah s;have j:((60:Int)<(s.length:Int))=False:=oK (by omega);obtain⟨n,g⟩:=Z9 (cT s);rw[g]at hb;by_cases d:s.length=0
 ·have u:(((s.length:Nat):Int)==0)=true:=by simp[d]
  have r:(((s.length:Nat):Int)=0)=True:=xr (by omega);clear hb g d;go_in;go_wp2_with fail;refine zr1 (.tuple #[.agg #[.bool false,.slice none 0 0,.slice none 0 0],.int .i64 2]) ?_;exact⟨_,_,_,_,_,_,_,rfl,QV.zero _ _,((aa w).alloc (by first|omega|(simp<;>omega)) (.cells #[.bool false,.slice none 0 0,.slice none 0 0] 65))⟩
 have t:((s.length:Int)==0)=false:=it.2 (by omega);have p:((s.length:Int)=0)=False:=oK (by omega);have x:((n:Int)==(s.length:Int))=false:=it.2 (by omega);have f:s.length<4611686018427387904:=by omega
 clear hb d;go_in;go_wp2_with fail;refine(cw _ (s) (0) 0 rfl (Nat.zero_le _) f (n:Nat) (by rw[Gl,Nat.zero_add,g])).mono ?_;rintro e o⟨rfl,b⟩;have q1:=b.q1;have a:Blk o w.heap.size 65 #[.bool false,.slice none 0 0,.slice none 0 0]:=(aj _ _ _ (by simp)).below b (by simp);have c:=(aa w).trans (q1.mono (aa w).size);have q:=b.l1;clear q1;have l:=a.c3;have k:=a.f3;have m:=fd a.lt;go_wp2_with fail;refine zr1 (.tuple #[.agg #[.bool false,.slice none 0 0,.slice none 0 0],.int .i64 2]) ?_;exact⟨_,_,_,_,_,_,_,rfl,QV.zero _ _,(((c.sc w.heap.size 0 (by omega) (.bool false)).sc w.heap.size 1 (by omega) (.slice none 0 0)).sc w.heap.size 2 (by omega) (.slice none 0 0))⟩
inductive RO (D R:List UInt8) (x:Int) (q:Rat):Prop
  |whole (h:R=[]) (hx:x=0) (hq:q=((ap D:Int):Rat))
  |zero (E:List UInt8) (hE:isD E) (h:R=47::E) (h0:ap E=0) (hx:x=8) (hq:q=0)
  |quo (E:List UInt8) (hE:isD E) (h:R=47::E) (h0:ap E≠0) (hx:x=0) (hq:q=((ap D:Int):Rat)/((ap E:Int):Rat))
  |dot (E:List UInt8) (hE:isD E) (h:R=46::E) (hx:x=0) (hq:q=Ah (ap (D++E)) E.length)
theorem jP(w:World)(s:List UInt8)(m:Bool)(D R:List UInt8)(h:s.length<=60)(hn:cT s=s.length)(hD:isD D)(hs:s=sg m (D++R))(x:Int)(q1:Rat)(hO:RO D R x q1)(q:Rat)(hq:x=0->(if m then -q1 else q1)=q)(a5:x≠0->q=0):
 Calls Tryz.prog 157 #[ae s] w (fg w (.int .i64 x) q 500):=by
 have bF:0<D.length:=FW.2 hD.1;obtain⟨B,hB⟩:∃B:List UInt8,D++R=B:=⟨_,rfl⟩;have aS:B.length=D.length+R.length:=by rw[<-hB,kc]
 have a4:B.length<=s.length/\s.length<=B.length+1:=by rw[hs,hB];cases m<;>simp[sg]
 have bw:=ah s;have bz:=ah B;have bx:((60:Int)<(s.length:Int))=False:=oK (by omega);have b0:((s.length:Int)==0)=false:=it.2 (by omega);have bv:((s.length:Int)=0)=False:=oK (by omega);have Q:=DY m (r:=R) hD;rw[<-hs]at Q;have a9:0<s.length:=by omega
 obtain⟨c0,an⟩:∃c,atB s 0=c:=⟨_,rfl⟩;have aT:∀h,(⟨s.toArray⟩:ByteArray)[0]' h=c0:=fun h=>by rw[<-an];exact(cO a9).symm
 rw[an]at Q;have bg:s.length<4611686018427387904:=by omega
 have be:B.length<4611686018427387904:=by omega
 have bn:D.length<=60:=by omega
 have b2:(1:Int)<=(s.length:Int):=by omega
 have a2:d9 B=D.length:=by
  rw[<-hB];rcases hO with⟨h,_⟩|⟨E,_,h,_⟩|⟨E,_,h,_⟩|⟨E,_,h,_⟩
  ·rw[h,Gw];have:=iy (D:=D) (r:=[]) hD.2 (fun c t e=>by cases e);rwa[Gw]at this
  ·rw[h];exact iy hD.2 (fun c t e=>by injection e with e _;rw[<-e];rfl)
  ·rw[h];exact iy hD.2 (fun c t e=>by injection e with e _;rw[<-e];rfl)
  rw[h];exact iy hD.2 (fun c t e=>by injection e with e _;rw[<-e];rfl)
 have e2:(⟨B.toArray⟩:ByteArray).extract 0 D.length=⟨D.toArray⟩:=by rw[dc,Gl,Nat.sub_zero,<-hB];simp
 have bY:(D.length:Int)<=(B.length:Int):=by omega
 have b4:(0:Int)<=(D.length:Int):=by omega
 have HN:=Qh hn;have HO:=Qh hO;have HQ:=Qh hq;have bo:=Qh a5;have a8:=Qh hD;have Y:=Qh hB;have HS:=Qh hs;have bb:=Qh a2;have HL:=Qh (And.intro aS a4);clear hn hO hq a5 hD hB hs a2 an aS a4;go_in;go_wp2_with fail;(refine(cw _ s 0 0 rfl (Nat.zero_le _) bg (s.length:Nat) (by rw[Gl,Nat.zero_add,HN.out])).mono ?_);rintro e w1⟨rfl,ao⟩;have a:Below w.heap.size w w1:=((aa w).alloc Qr _).trans (ao.mono (by simp));have i:Blk w1 w.heap.size 65 #[.bool false,.slice none 0 0,.slice none 0 0]:=(aj _ _ _ (by simp)).below ao (by simp);clear ao;go_upto_if 27 with fail;go_cut [0] (fun s0 I=>s0=ae B/\w1=I)
 case first =>
  cases m
  ·have e:s=B:=by have:=HS.out;rw[Y.out]at this;exact this
   subst e;go_wp2_with fail;go_meet;exact⟨rfl,rfl⟩
  ·have e1:(⟨s.toArray⟩:ByteArray).extract 1 s.length=⟨B.toArray⟩:=by
    rw[dc,HS.out,Y.out];simp[sg]
   go_wp2_with fail;go_meet;exact⟨rfl,rfl⟩
 case rest =>
  obtain⟨rfl,rfl⟩:=hcut;clear aT;go_wp2_with fail;(refine(aA _ B 0 0 rfl (Nat.zero_le _) be (D.length:Nat) (by rw[Gl,Nat.zero_add,bb.out])).mono ?_);rintro e w2⟨rfl,ad⟩;replace i:=i.b ad;replace a:=a.trans (ad.mono a.size);clear ad;go_wp2_with fail;(refine(lX _ D a8.out.2 bn).mono ?_);rintro e w3⟨b3,A3,n3,c3,D3,m3,e3,rfl,l,al⟩;replace i:=i.b al;replace a:=a.trans (al.mono a.size);clear al;go_upto_region 10 with fail;refine dm ?_;intro w4 ac;have q4:Below w3.heap.size w3 w4:=by rw[ac];exact(aa w3).alloc Qr _
  have f:Blk w4 w3.heap.size 65 #[.bool b3,.slice A3 n3 c3,.slice D3 m3 e3]:=by rw[ac];exact Blk.new w3 _ _
  have l4:=i.lt;replace i:=i.b q4;replace l:=l.belw q4;replace a:=a.trans (q4.mono a.size);obtain⟨g,hg⟩:=Z9 (w3.heap.size);rw[hg]at f l4⊢;clear ac q4 hg;obtain⟨c,hc⟩:=Z9 (atB B D.length);have HC:=Qh hc;clear hc;go_wp2_with fail;(refine(bh _ B (D.length:Nat) D.length rfl c HC.out).mono ?_);rintro e w5⟨rfl,W⟩;replace i:=i.b W;replace f:=f.b W;replace l:=l.belw W;replace a:=a.trans (W.mono a.size);clear W;go_upto_if 39 with fail;go_cut [] (fun I=>∃qa b A n d C F z,Blk I w.heap.size 65 #[.bool false,.slice none 0 0,.slice none 0 0]/\Blk I g 65 #[.bool b,.slice A n d,.slice C F z]/\QV I b A n d C F z qa 363/\Below w.heap.size w I/\x=0/\(c=46\/(c≠46/\qa=q1)))
  case first =>
   rcases HO.out with⟨h,rfl,rfl⟩|⟨E,hE,h,h0,rfl,rfl⟩|⟨E,hE,h,h0,rfl,rfl⟩|⟨E,hE,h,rfl,rfl⟩
   ·obtain rfl:c=0:=by rw[<-HC.out,<-Y.out,h,Gw];exact uN D
    go_wp2_with fail;go_meet;exact⟨_,_,_,_,_,_,_,_,i,f,l.mono (by decide),a,by trivial,.inr ⟨by decide,rfl⟩⟩
   ·obtain rfl:q=0:=bo.out (by decide)
    obtain rfl:c=47:=by rw[<-HC.out,<-Y.out,h];exact lY D E 47
    have T:B.length=D.length+(E.length+1):=by have:=HL.out.1;rw[h]at this;simpa using this
    have aF:IntKind.i64.wrap ((D.length:Int)+1)=(D.length:Int)+1:=ty _ ⟨by omega,by omega⟩;have a7:((D.length:Int)+1).toNat=D.length+1:=by omega
    have a6:(D.length:Int)+1<=(B.length:Int):=by omega
    have aC:(0:Int)<=(D.length:Int)+1:=by omega
    have e3:(⟨B.toArray⟩:ByteArray).extract (D.length+1) B.length=⟨E.toArray⟩:=by
     rw[dc,<-Y.out,h];simp;exact ms (by omega)
    have Z:E.length<=60:=by have:=HL.out.2.1;omega
    clear T h;go_wp2_with fail;(refine(lX _ E hE.2 Z).mono ?_);rintro e N⟨b5,A5,n5,c5,D5,m5,e5,rfl,O,o⟩;replace i:=i.b o;replace f:=f.b o;replace l:=l.belw o;replace a:=a.trans (o.mono a.size);clear o;go_upto_region 12 with fail;refine dm ?_;intro w7 J;have L:Below N.heap.size N w7:=by rw[J];exact(aa N).alloc Qr _
    have x7:Blk w7 N.heap.size 65 #[.bool b5,.slice A5 n5 c5,.slice D5 m5 e5]:=by rw[J];exact Blk.new N _ _
    replace i:=i.b L;replace f:=f.b L;replace l:=l.belw L;replace O:=O.belw L;replace a:=a.trans (L.mono a.size);clear J L;have y:=x7.v3;go_wp2_with fail;(refine(ru _ b5 A5 n5 c5 D5 m5 e5 _ 181 O.qz 0 (by rw[h0];rfl) (by decide) (by decide)).mono ?_);rintro e w8⟨rfl,k⟩;replace i:=i.b k;replace f:=f.b k;replace x7:=x7.b k;replace l:=l.belw k;replace O:=O.belw k;replace a:=a.trans (k.mono a.size);clear k y;have y:=i.v3;go_wp2_with fail;refine zr1 (.tuple #[.agg #[.bool false,.slice none 0 0,.slice none 0 0],.int .i64 8]) ?_;exact⟨_,_,_,_,_,_,_,rfl,QV.zero _ _,((a.setCell (p:=⟨w.heap.size,0,none⟩) Qr _).setCell (p:=⟨w.heap.size,1,none⟩) Qr _).setCell (p:=⟨w.heap.size,2,none⟩) Qr _⟩
   ·have P:(((ap E:Nat):Int):Rat).num.sign=1:=by rw[Rat.num_intCast];exact GU.2 (by omega)
    obtain rfl:c=47:=by rw[<-HC.out,<-Y.out,h];exact lY D E 47
    have T:B.length=D.length+(E.length+1):=by have:=HL.out.1;rw[h]at this;simpa using this
    have aF:IntKind.i64.wrap ((D.length:Int)+1)=(D.length:Int)+1:=ty _ ⟨by omega,by omega⟩;have a7:((D.length:Int)+1).toNat=D.length+1:=by omega
    have a6:(D.length:Int)+1<=(B.length:Int):=by omega
    have aC:(0:Int)<=(D.length:Int)+1:=by omega
    have e3:(⟨B.toArray⟩:ByteArray).extract (D.length+1) B.length=⟨E.toArray⟩:=by
     rw[dc,<-Y.out,h];simp;exact ms (by omega)
    have Z:E.length<=60:=by have:=HL.out.2.1;omega
    clear T h;go_wp2_with fail;(refine(lX _ E hE.2 Z).mono ?_);rintro e N⟨b5,A5,n5,c5,D5,m5,e5,rfl,O,o⟩;replace i:=i.b o;replace f:=f.b o;replace l:=l.belw o;replace a:=a.trans (o.mono a.size);clear o;go_upto_region 12 with fail;refine dm ?_;intro w7 J;have L:Below N.heap.size N w7:=by rw[J];exact(aa N).alloc Qr _
    have x7:Blk w7 N.heap.size 65 #[.bool b5,.slice A5 n5 c5,.slice D5 m5 e5]:=by rw[J];exact Blk.new N _ _
    replace i:=i.b L;replace f:=f.b L;replace l:=l.belw L;replace O:=O.belw L;replace a:=a.trans (L.mono a.size);clear J L;have y:=x7.v3;go_wp2_with fail;(refine(ru _ b5 A5 n5 c5 D5 m5 e5 _ 181 O.qz 1 (by exact P) (by decide) (by decide)).mono ?_);rintro e w8⟨rfl,k⟩;replace i:=i.b k;replace f:=f.b k;replace x7:=x7.b k;replace l:=l.belw k;replace O:=O.belw k;replace a:=a.trans (k.mono a.size);clear k y;have y:=And.intro f.v3 x7.v3;go_wp2_with fail;clear e2 e3 Q;(refine(CJ _ b3 A3 n3 c3 D3 m3 e3 _ 181 l.qz b5 A5 n5 c5 D5 m5 e5 _ 181 O.qz (by decide) (by decide) (by decide) (by decide) (fun e=>by rw[e]at P;exact absurd P (by decide))).mono ?_);rintro e w9⟨b6,A6,n6,c6,D6,m6,e6,rfl,M,ab⟩;replace i:=i.b ab;replace f:=f.b ab;replace a:=a.trans (ab.mono a.size);clear ab y;have y:=f.v3;go_wp2_with fail;go_meet;exact⟨_,_,_,_,_,_,_,_,((i.far (p:=⟨g,0,none⟩) (by show w.heap.size≠g;omega) _).far (p:=⟨g,1,none⟩) (by show w.heap.size≠g;omega) _).far (p:=⟨g,2,none⟩) (by show w.heap.size≠g;omega) _,((f.set_ 0 _).set_ 1 _).set_ 2 _,(M.keep (f.k3 (by decide) _ _ _)).mono (by decide),((a.setCell (p:=⟨g,0,none⟩) (by show w.heap.size<=g;omega) _).setCell (p:=⟨g,1,none⟩) (by show w.heap.size<=g;omega) _).setCell (p:=⟨g,2,none⟩) (by show w.heap.size<=g;omega) _,by trivial,.inr ⟨by decide,rfl⟩⟩
   obtain rfl:c=46:=by rw[<-HC.out,<-Y.out,h];exact lY D E 46
   go_wp2_with fail;go_meet;exact⟨_,_,_,_,_,_,_,_,i,f,l.mono (by decide),a,by trivial,.inl (by trivial)⟩
  case rest =>
   clear i f l a;obtain⟨qa,b,A,n,d,C,F,z,i,f,l,a,rfl,H⟩:=hcut;rename World=>N;have bk:=Qh H;clear H;go_wp2_with fail;(refine(bh _ B (D.length:Nat) D.length rfl c HC.out).mono ?_);rintro e w7⟨rfl,X⟩;replace i:=i.b X;replace f:=f.b X;replace l:=l.belw X;replace a:=a.trans (X.mono a.size);clear X;go_upto_if 58 with fail;go_cut [] (fun I=>∃b A n d C F z,Blk I w.heap.size 65 #[.bool false,.slice none 0 0,.slice none 0 0]/\Blk I g 65 #[.bool b,.slice A n d,.slice C F z]/\QV I b A n d C F z q1 363/\Below w.heap.size w I)
   case first =>
    rcases bk.out with hc|⟨hc,rfl⟩
    ·subst hc
     obtain⟨E,hE,h,bs⟩:∃E,isD E/\R=46::E/\q1=Ah (ap (D++E)) E.length:=by
      have H:=HC.out;rw[<-Y.out]at H;rcases HO.out with⟨h,_⟩|⟨E,_,_,_,hx,_⟩|⟨E,_,h,_⟩|⟨E,hE,h,_,hq⟩
      ·rw[h,Gw,uN]at H;exact absurd H (by decide)
      ·exact absurd hx (by decide)
      ·rw[h,lY]at H;exact absurd H (by decide)
      exact⟨E,hE,h,hq⟩
     subst bs;have T:B.length=D.length+(E.length+1):=by have:=HL.out.1;rw[h]at this;simpa using this
     have aF:IntKind.i64.wrap ((D.length:Int)+1)=(D.length:Int)+1:=ty _ ⟨by omega,by omega⟩;have a7:((D.length:Int)+1).toNat=D.length+1:=by omega
     have a6:(D.length:Int)+1<=(B.length:Int):=by omega
     have aC:(0:Int)<=(D.length:Int)+1:=by omega
     have e3:(⟨B.toArray⟩:ByteArray).extract (D.length+1) B.length=⟨E.toArray⟩:=by
      rw[dc,<-Y.out,h];simp;exact ms (by omega)
     have Z:E.length<=60:=by have:=HL.out.2.1;omega
     have ba:=aL D E;have b9:(9223372036854775807<D.length+E.length)=False:=oK (by omega);have a3:(D++E).all aU=true/\(D++E).length<=60:=⟨by rw[Gv,a8.out.2,hE.2];rfl,by have:=HL.out.2.1;rw[kc];omega⟩;have aZ:=Qh a3;have ca:B.length<=D.length+(E.length+1)/\D.length+(E.length+1)<=B.length:=by omega
     clear a3 h T hE;go_wp2_with fail
     go_region_with (first
      |(go_at_call 200;(with_reducible refine(lX _ (D++E) aZ.out.1 aZ.out.2).mono ?_);rintro e w8⟨b6,A6,n6,c6,D6,m6,e6,rfl,M,k⟩;replace k:=ag (af (aa _) 1) k;replace i:=i.b k;replace f:=f.b k;replace a:=a.trans (k.mono a.size);have y:=f.v3))
     all_goals
      go_wp2_with fail;refine dm ?_;intro V G;have z1:Blk V w.heap.size 65 #[.bool false,.slice none 0 0,.slice none 0 0]:=by rw[G];exact((i.far (p:=⟨g,0,none⟩) (by show w.heap.size≠g;omega) _).far (p:=⟨g,1,none⟩) (by show w.heap.size≠g;omega) _).far (p:=⟨g,2,none⟩) (by show w.heap.size≠g;omega) _
      have z4:Blk V g 65 #[.bool b6,.slice A6 n6 c6,.slice D6 m6 e6]:=by rw[G];exact((f.set_ 0 _).set_ 1 _).set_ 2 _
      have z6:QV V b6 A6 n6 c6 D6 m6 e6 (((ap (D++E):Nat):Int):Rat) 181:=by rw[G];exact M.keep (f.k3 (by decide) _ _ _)
      have zq:Below w.heap.size w V:=by rw[G];exact((a.setCell (p:=⟨g,0,none⟩) (by show w.heap.size<=g;omega) _).setCell (p:=⟨g,1,none⟩) (by show w.heap.size<=g;omega) _).setCell (p:=⟨g,2,none⟩) (by show w.heap.size<=g;omega) _
      clear G i f M l a y k e2 e3 ba;go_loopw [8] (fun iv wr=>∃(j:Nat) (b:Bool) (A:Option Addr) (n d:Nat) (C:Option Addr) (F z:Nat),iv=.int .i64 (j:Nat)/\D.length+1<=j/\j<=B.length/\QV wr b A n d C F z (Ah (ap (D++E)) (j-(D.length+1))) (181+(j-(D.length+1)))/\Blk wr w.heap.size 65 #[.bool false,.slice none 0 0,.slice none 0 0]/\Blk wr g 65 #[.bool b,.slice A n d,.slice C F z]/\Below w.heap.size w wr) (fun iv _=>B.length-(intOf iv).toNat)
      case atStart=>exact⟨D.length+1,b6,A6,n6,c6,D6,m6,e6,rfl,Qr,by omega,by rw[Nat.sub_self];unfold Ah;rw[<-div_one];exact z6,z1,z4,zq⟩
      case round =>
       clear z1 z4 z6 zq;obtain⟨j,b,A,n,d,C,F,z,rfl,hj,cc,M,i,f,a⟩:=hrel;rename World=>wr;by_cases a0:j<B.length
       ·have bd:((j:Int)<(B.length:Int))=True:=by simp;omega
        have hq:=Cp ((ap (D++E):Nat):Int) (j-(D.length+1));obtain⟨v,hv⟩:∃v:Rat,Ah (ap (D++E)) (j-(D.length+1))=v:=⟨_,rfl⟩;obtain⟨S,hS⟩:=Z9 (181+(j-(D.length+1)));rw[show Rat.divInt ((ap (D++E):Nat):Int) ((10^(j-(D.length+1)):Nat):Int)=v from hv,show j-(D.length+1)+1=j+1-(D.length+1) by omega]at hq;rw[hv,hS]at M;have b1:1<=S/\S<=300:=by omega
        have br:=Qh hq;have a1:=Qh a0;have bu:=Qh hS;have y:=f.v3;clear hq hv hS a0;go_wp2_with fail
        go_region_with (first
         |(go_at_call 202;(with_reducible refine(DA _ 10 ?_ ?_).mono ?_);(decide);(decide);rintro e bl⟨b7,A7,n7,c7,D7,m7,e7,rfl,h7,u⟩;replace u:=ag (af (aa _) 1) u;replace M:=M.belw u;replace i:=i.b u;replace f:=f.b u;replace a:=a.trans (u.mono a.size);have y:=f.v3)
         |(go_at_call 201;(with_reducible refine(CJ _ b A n d C F z v S ?_ b7 A7 n7 c7 D7 m7 e7 ((10:Int):Rat) 1 ?_ ?_ ?_ ?_ ?_ ?_).mono ?_);(exact M.qz);(exact h7.qz);(omega);(omega);(decide);(decide);(decide);rintro e cb⟨b8,A8,n8,c8,D8,m8,e8,rfl,h8,U⟩;replace i:=i.b U;replace f:=f.b U;replace a:=a.trans (U.mono a.size);have y:=f.v3))
        all_goals
         go_wp2_with fail;go_roundw
         case rel=>exact⟨j+1,b8,A8,n8,c8,D8,m8,e8,by go_num,by omega,by have:=a1.out;omega,(by have h9:=h8.keep (f.k3 (by decide) (.bool b8) (.slice A8 n8 c8) (.slice D8 m8 e8));rw[br.out]at h9;exact h9.mono (by have:=bu.out;omega)),((i.far (p:=⟨g,0,none⟩) (by show w.heap.size≠g;omega) _).far (p:=⟨g,1,none⟩) (by show w.heap.size≠g;omega) _).far (p:=⟨g,2,none⟩) (by show w.heap.size≠g;omega) _,((f.set_ 0 _).set_ 1 _).set_ 2 _,((a.setCell (p:=⟨g,0,none⟩) (by show w.heap.size<=g;omega) _).setCell (p:=⟨g,1,none⟩) (by show w.heap.size<=g;omega) _).setCell (p:=⟨g,2,none⟩) (by show w.heap.size<=g;omega) _⟩
         case measure=>have:=a1.out;simp[intOf];omega
       have bd:((j:Int)<(B.length:Int))=False:=by simp;omega
       have e9:j-(D.length+1)=E.length:=by omega
       rw[e9]at M;go_wp2_with fail;go_meet;exact⟨_,_,_,_,_,_,_,i,f,M.mono (by omega),a⟩
    have t1:(((c.toNat:Nat):Int)==46)=false:=(ar c 46).trans (by simpa using hc);clear hc;go_wp2_with fail;go_meet;exact⟨_,_,_,_,_,_,_,i,f,l,a⟩
   case rest =>
    clear i f l a;obtain⟨b,A,n,d,C,F,z,i,f,l,a⟩:=hcut;rename World=>w9;go_upto_if 82 with fail;go_cut [] (fun I=>∃b A n d C F z,Blk I w.heap.size 65 #[.bool false,.slice none 0 0,.slice none 0 0]/\Blk I g 65 #[.bool b,.slice A n d,.slice C F z]/\QV I b A n d C F z q 500/\Below w.heap.size w I)
    case first =>
     cases m
     ·obtain rfl:q1=q:=HQ.out (by trivial)
      go_wp2_with fail;go_meet;exact⟨_,_,_,_,_,_,_,i,f,l.mono (by decide),a⟩
     obtain rfl:-q1=q:=HQ.out (by trivial);have y:=f.v3;go_wp2_with fail;(refine(yV _ b A n d C F z q1 363 l.qz (by decide) (by decide)).mono ?_);rintro e V⟨b6,A6,n6,c6,D6,m6,e6,rfl,M,K⟩;replace i:=i.b K;replace f:=f.b K;replace a:=a.trans (K.mono a.size);clear K y;have y:=f.v3;go_wp2_with fail;go_meet;exact⟨_,_,_,_,_,_,_,((i.far (p:=⟨g,0,none⟩) (by show w.heap.size≠g;omega) _).far (p:=⟨g,1,none⟩) (by show w.heap.size≠g;omega) _).far (p:=⟨g,2,none⟩) (by show w.heap.size≠g;omega) _,((f.set_ 0 _).set_ 1 _).set_ 2 _,(M.keep (f.k3 (by decide) _ _ _)).mono (by decide),((a.setCell (p:=⟨g,0,none⟩) (by show w.heap.size<=g;omega) _).setCell (p:=⟨g,1,none⟩) (by show w.heap.size<=g;omega) _).setCell (p:=⟨g,2,none⟩) (by show w.heap.size<=g;omega) _⟩
    case rest =>
     clear i f l a;obtain⟨b,A,n,d,C,F,z,i,f,l,a⟩:=hcut;rename World=>bl;have y:=And.intro i.v3 f.v3;go_wp2_with fail;refine zr1 (.tuple #[.agg #[.bool b,.slice A n d,.slice C F z],.int .i64 0]) ?_;exact⟨_,_,_,_,_,_,_,rfl,l.keep (i.k3 (by decide) _ _ _),((a.setCell (p:=⟨w.heap.size,0,none⟩) Qr _).setCell (p:=⟨w.heap.size,1,none⟩) Qr _).setCell (p:=⟨w.heap.size,2,none⟩) Qr _⟩
theorem wO(w:World)(s:List UInt8)(x:Int)(q:Rat)(h:mX s x q):Calls Tryz.prog 157 #[ae s] w (fg w (.int .i64 x) q 500):=by
 have k:∀ {v:Value}{e:Ending}{j:World},fg w v q 1 e j->fg w v q 500 e j:=fun h=>by
  obtain⟨b,A,n,c,y,l,p,u,o,t⟩:=h;exact⟨b,A,n,c,y,l,p,u,o.mono (by decide),t⟩
 rcases h with⟨h,rfl,rfl⟩|⟨h,hb,rfl,rfl⟩|⟨m,D,h,f,d,a,rfl,rfl⟩|⟨m,D,E,h,f,d,g,a,i,rfl,rfl⟩|⟨m,D,E,h,f,d,g,a,i,rfl,rfl⟩|⟨m,D,E,h,f,d,g,a,rfl,rfl⟩
 ·exact(nR w s h).mono fun _ _ r=>k r
 ·exact(sk w s h hb).mono fun _ _ r=>k r
 ·exact jP w s m D [] h f d (by rw[Gw];exact a) 0 _ (.whole rfl rfl rfl) _ (fun _=>by cases m<;>simp[sgI]) (fun h=>absurd rfl h)
 ·exact jP w s m D (47::E) h f d a 8 0 (.zero E g rfl i rfl rfl) 0 (fun h=>absurd h (by decide)) (fun _=>rfl)
 ·exact jP w s m D (47::E) h f d a 0 _ (.quo E g rfl i rfl rfl) _ (fun _=>by
   have e:((ap D:Int):Rat)/((ap E:Int):Rat)=Rat.divInt (ap D) (ap E):=by rw[GN]
   rw[e];cases m
   ·rfl
   exact uM _ _) (fun h=>absurd rfl h)
 exact jP w s m D (46::E) h f d a 0 _ (.dot E g rfl rfl rfl) _ (fun _=>by
 cases m
 ·rfl
 exact uM _ _) (fun h=>absurd rfl h)
def aR(l:List Tkn)(p:Nat)(x:Int)(text:List UInt8):Bool:=decide (x=0)&&match l[p]? with|some t=>!(t.kind==1)&&(t.text==text)|none=>false
def bZ(l:List Tkn)(p:Nat)(x:Int)(k:Nat):Bool:=decide (x=0)&&match l[p]? with|some t=>t.kind==k|none=>false
def takeF(l:List Tkn)(p:Nat)(x:Int)(may:Bool):Nat × Int × List UInt8 :=
  if x≠0 then (p,x,[]) else match l[p]? with
    |none=>(p,18,[])
    |some t=>if may then (p+1,0,t.text) else (p,2,[])
theorem TkS.none_{w:World}{A:Option Addr}{n c:Nat}{l:List Tkn}(h:TkS w A n c l){p:Nat}(a:n<=p):l[p]?=none:=Gz (by rw[h.1];exact a)
theorem jQ(w:World)(A:Option Addr)(n c:Nat)(l:List Tkn)(h:TkS w A n c l)(O:n<=65536)(p:Nat)(N:p<=n)(x:Int)(s:List UInt8)(C:Option Addr)(D H:Nat)(I:Option Addr)(J z:Nat)(B3:Option Addr)(r L:Nat)(text:List UInt8)(v:Bool)(a:aR l p x text=v):
 Calls Tryz.prog 82 #[.agg #[.slice A n c,.int .i64 (p:Nat),.int .i64 x,ae s,.slice C D H,.slice I J z,.slice B3 r L],ae text] w (av w (.bool v)):=by
 have i:=Qh a;clear a;by_cases f:x=0
 ·subst f
  rcases Nat.lt_or_ge p n with m|j
  ·obtain⟨g,t,e,_,q,B,M,_,_⟩:=h.cells m
   subst e;have k:((p:Int)<(n:Int))=True:=by simp;omega
   have a:=i.out;unfold aR at a;rw[q]at a;have G:=aK t.text;have u:=aK text;have y:g<w.heap.size:=Ga w ⟨g,p*4,none⟩ B;have E:¬g=w.heap.size:=by omega
   clear h q i;by_cases b:t.kind=1
   ·have d:((t.kind:Int)==1)=true:=by simp[b]
    have o:((t.kind:Int)=1)=True:=by simp[b]
    have e:v=false:=by rw[<-a];simp[b]
    subst e;clear a b;go_in;go_wp2;go_ret;exact⟨rfl,(aa w).alloc Qr _⟩
   have d:((t.kind:Int)==1)=false:=it.2 (by omega);have o:((t.kind:Int)=1)=False:=by simp;omega
   have F:((t.kind:Int) != 1)=true:=by unfold bne;rw[d];rfl
   have e:(t.text==text)=v:=by rw[<-a];simp[b]
   clear a b;go_in;go_wp2;go_ret;exact⟨rfl,(aa w).alloc Qr _⟩
  have k:((p:Int)<(n:Int))=False:=by simp;omega
  have e:v=false:=by rw[<-i.out];unfold aR;rw[h.none_ j];rfl
  subst e;clear h;go_in;go_wp2;go_ret;exact⟨rfl,(aa w).alloc Qr _⟩
 have K:(x==0)=false:=it.2 f;have e:v=false:=by rw[<-i.out];unfold aR;simp[f]
 subst e;clear h f;go_in;go_wp2;go_ret;exact⟨rfl,(aa w).alloc Qr _⟩
theorem uO(w:World)(A:Option Addr)(n c:Nat)(l:List Tkn)(h:TkS w A n c l)(L:n<=65536)(p:Nat)(K:p<=n)(x:Int)(q:List UInt8)(B:Option Addr)(C E:Nat)(F:Option Addr)(G s:Nat)(B3:Option Addr)(o I:Nat)(k:Nat)(z:Int)(u:z=(k:Int))(v:Bool)(a:bZ l p x k=v):
 Calls Tryz.prog 83 #[.agg #[.slice A n c,.int .i64 (p:Nat),.int .i64 x,ae q,.slice B C E,.slice F G s,.slice B3 o I],.int .i64 z] w (av w (.bool v)):=by
 subst u;have d:=Qh a;clear a;by_cases b:x=0
 ·subst b
  rcases Nat.lt_or_ge p n with j|f
  ·obtain⟨g,t,e,_,m,y,J,_,_⟩:=h.cells j
   subst e;have i:((p:Int)<(n:Int))=True:=by simp;omega
   have a:=d.out;unfold bZ at a;rw[m]at a;have r:g<w.heap.size:=Ga w ⟨g,p*4,none⟩ y;have D:¬g=w.heap.size:=by omega
   have e:((t.kind:Int)==(k:Int))=v:=by
    rw[<-a];simp only[decide_true,Ho];rw[Bool.eq_iff_iff,xm,xm];omega
   clear h m d a;go_in;go_wp2;go_ret;exact⟨rfl,(aa w).alloc Qr _⟩
  have i:((p:Int)<(n:Int))=False:=by simp;omega
  have e:v=false:=by rw[<-d.out];unfold bZ;rw[h.none_ f];rfl
  subst e;clear h;go_in;go_wp2;go_ret;exact⟨rfl,(aa w).alloc Qr _⟩
 have H:(x==0)=false:=it.2 b;have e:v=false:=by rw[<-d.out];unfold bZ;simp[b]
 subst e;clear h b;go_in;go_wp2;go_ret;exact⟨rfl,(aa w).alloc Qr _⟩
theorem cC{l:List Tkn}{p:Nat}{x:Int}{may:Bool}(a:p<=l.length):(takeF l p x may).1<=l.length:=by
 unfold takeF;split
 ·exact a
 split
 ·exact a
 rename_i t b;have:=(ts.1 b).1;split
 ·show p+1<=_
  omega
 exact a
theorem lZ(w:World)(A:Option Addr)(n c:Nat)(l:List Tkn)(h:TkS w A n c l)(M:n<=65536)(p:Nat)(L:p<=n)(x:Int)(b:List UInt8)(f:Option Addr)(i j:Nat)(k:Option Addr)(m d:Nat)(B3:Option Addr)(a o:Nat)(may:Bool):
 Calls Tryz.prog 81 #[.agg #[.slice A n c,.int .i64 (p:Nat),.int .i64 x,ae b,.slice f i j,.slice k m d,.slice B3 a o],.bool may] w (av w (.tuple #[.agg #[.slice A n c,.int .i64 ((takeF l p x may).1:Nat),.int .i64 (takeF l p x may).2.1,ae b,.slice f i j,.slice k m d,.slice B3 a o],ae (takeF l p x may).2.2])):=by
 by_cases q:x=0
 ·subst q
  rcases Nat.lt_or_ge p n with z|u
  ·obtain⟨g,t,e,_,s,H,K,_,_⟩:=h.cells z
   subst e;have y:((p:Int)==(n:Int))=false:=it.2 (by omega);have G:((p:Int)=(n:Int))=False:=by simp;omega
   have F:g<w.heap.size:=Ga w ⟨g,p*4,none⟩ H;have I:¬g=w.heap.size:=by omega
   have C:¬g=w.heap.size+1:=by omega
   cases may
   ·have e:takeF l p 0 false=(p,2,[]):=by unfold takeF;rw[s];simp
    rw[e];clear h s e;go_in;go_wp2_with fail;refine zr1 (.tuple #[.agg #[.slice (some ⟨g,0,none⟩) n c,.int .i64 (p:Nat),.int .i64 2,ae b,.slice f i j,.slice k m d,.slice B3 a o],ae []]) ?_;exact⟨rfl,((aa w).alloc Qr _).alloc (by simp) _⟩
   have e:takeF l p 0 true=(p+1,0,t.text):=by unfold takeF;rw[s];simp
   have r:(((p+1:Nat):Int))=(p:Int)+1:=by omega
   have E:wrap64 ((p:Int)+1)=(p:Int)+1:=by unfold wrap64;omega
   have B:wrap64 ((p:Int)+1-1)=(p:Int):=by unfold wrap64;omega
   rw[e,r];clear h s e r;go_in;go_wp2_with fail;go_region
   all_goals
    go_wp2_with fail;refine zr1 (.tuple #[.agg #[.slice (some ⟨g,0,none⟩) n c,.int .i64 ((p:Int)+1),.int .i64 0,ae b,.slice f i j,.slice k m d,.slice B3 a o],ae t.text]) ?_;exact⟨rfl,by first|exact((aa w).alloc Qr _).alloc (by simp) _|exact(((aa w).alloc Qr _).alloc (by simp) _).drew⟩
  have e:takeF l p 0 may=(p,18,[]):=by unfold takeF;rw[h.none_ u];simp
  rw[e];obtain rfl:p=n:=by omega
  have y:((p:Int)==(p:Int))=true:=by simp
  clear h e;go_in;go_wp2_with fail;refine zr1 (.tuple #[.agg #[.slice A p c,.int .i64 (p:Nat),.int .i64 18,ae b,.slice f i j,.slice k m d,.slice B3 a o],ae []]) ?_;exact⟨rfl,((aa w).alloc Qr _).alloc (by simp) _⟩
 have e:takeF l p x may=(p,x,[]):=kZ q;rw[e];have J:(x==0)=false:=it.2 q;have D:(x=0)=False:=oK q;clear h e q;go_in;go_wp2_with fail;refine zr1 (.tuple #[.agg #[.slice A n c,.int .i64 (p:Nat),.int .i64 x,ae b,.slice f i j,.slice k m d,.slice B3 a o],ae []]) ?_;exact⟨rfl,((aa w).alloc Qr _).alloc (by simp) _⟩
end Go.Proofs.YtfilnhompchciaaGreatDoor
