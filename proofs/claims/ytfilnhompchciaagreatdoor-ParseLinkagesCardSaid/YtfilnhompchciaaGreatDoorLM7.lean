import Derived.Test.YtfilnhompchciaaGreatDoorCards
import Derived.Test.YtfilnhompchciaaGreatDoorTie
import Derived.ProofKit
import Derived.WalkKit
import Derived.OpenShut
import Derived.Deep.DeepHandedRow
import Derived.Lib.LaidTab
import Derived.Shelf.Vars
import Derived.ChangeMaps5
import Derived.Test.YtfilnhompchciaaGreatDoorLM6
set_option linter.unusedVariables false
set_option maxHeartbeats 8000000
set_option maxRecDepth 100000
/- The reference reads linkages as the program does, plain. -/
namespace Go.Proofs.YtfilnhompchciaaGreatDoor
open Go Go.RowKit Bn
attribute [local go_sem ↓] Go.wp_at_zero Go.wp_at_succ
/-! What the reference reads: a point's full name, a joint, a driver, an item. -/
def namedF (l:List Tkn) (p:Nat) (x:Int) (bs:List al):Nat × Int × Int :=
  if (wF l p x).2.1≠0 then ((wF l p x).1,(wF l p x).2.1,0) else match findB bs (wF l p x).2.2 with | some i=>((wF l p x).1,0,(i:Int)) | none=>((wF l p x).1,5,0)
def iV (x b only:Int):Int:=if x=0∧0≤only∧b≠only then 7 else x
def tZ (bs:List al) (i:Int):List aq:=match bs[i.toNat]? with | some b=>b.pts | none=>[]
def fullF (l:List Tkn) (p:Nat) (x:Int) (bs:List al) (only:Int):Nat × Int × Int × Int :=
  let N:=namedF l p x bs
  let E:=eF l N.1 (iV N.2.1 N.2.2 only) [46]
  let W:=wF l E.1 E.2.1
  if W.2.1≠0 then (W.1,W.2.1,0,0) else match findM (tZ bs N.2.2) W.2.2 with | some i=>(W.1,0,N.2.2,(i:Int)) | none=>(W.1,5,0,0)
def bU (l:List Tkn) (p:Nat) (x:Int) (bs:List al) (slide:Bool):Nat × Int × aN :=
  let W:=wF l p x
  let a:=fullF l W.1 W.2.1 bs (-1)
  let b:=fullF l a.1 a.2.1 bs (-1)
  let t:Nat × Int × Int × Int:=if slide then fullF l b.1 b.2.1 bs b.2.2.1 else (b.1,b.2.1,0,0)
  let E:=eF l t.1 t.2.1 [59]
  (E.1,E.2.1,⟨W.2.2,if slide then 1 else 0,a.2.2.1,a.2.2.2,b.2.2.1,b.2.2.2,t.2.2.2⟩)
def df (l:List Tkn) (p:Nat) (x:Int) (bs:List al):Nat × Int × bc :=
  let W:=wF l p x
  let N:=namedF l W.1 W.2.1 bs
  let E:=eF l N.1 N.2.1 [59]
  (E.1,E.2.1,⟨W.2.2,N.2.2⟩)
def fG (l:List Tkn) (p:Nat) (x:Int):Bool:=aL l p x cY || aL l p x gh || aL l p x cZ || aL l p x cI
def ao.addB (L:ao) (b:al):ao:={ L with bodies:=L.bodies ++ [b] }
def ao.addJ (L:ao) (j:aN):ao:={ L with joints:=L.joints ++ [j] }
def ao.addD (L:ao) (d:bc):ao:={ L with drivers:=L.drivers ++ [d] }
noncomputable def cS (l:List Tkn) (p:Nat) (x:Int) (L:ao):Nat × Int × ao :=
  let T:=takeF l p x (fG l p x)
  if T.2.2=cY then ((dv l T.1 T.2.1).1,(dv l T.1 T.2.1).2.1,L.addB (dv l T.1 T.2.1).2.2)
  else if T.2.2=gh then ((bU l T.1 T.2.1 L.bodies false).1,(bU l T.1 T.2.1 L.bodies false).2.1,L.addJ (bU l T.1 T.2.1 L.bodies false).2.2)
  else if T.2.2=cZ then ((bU l T.1 T.2.1 L.bodies true).1,(bU l T.1 T.2.1 L.bodies true).2.1,L.addJ (bU l T.1 T.2.1 L.bodies true).2.2)
  else if T.2.2=cI then ((df l T.1 T.2.1 L.bodies).1,(df l T.1 T.2.1 L.bodies).2.1,L.addD (df l T.1 T.2.1 L.bodies).2.2)
  else (T.1,T.2.1,L)
noncomputable def itemsF (l:List Tkn):Nat→Nat→Int→ao→Nat × Int × ao
  | 0,p,x,L=>(p,x,L)
  | f+1,p,x,L=>if x=0∧p < l.length then itemsF l f (cS l p x L).1 (cS l p x L).2.1 (cS l p x L).2.2 else (p,x,L)
noncomputable def sF (l:List Tkn) (x:Int):Int × ao :=
  let E:=eF l 0 x aJ
  let W:=wF l E.1 E.2.1
  let E2:=eF l W.1 W.2.1 [59]
  let R:=itemsF l (l.length+1) E2.1 E2.2.1 ⟨W.2.2,[],[],[]⟩
  let c:=if R.2.1=0 then dh R.2.2 else R.2.1
  if c≠0 then (c,L0) else (0,R.2.2)
theorem dH {l:List Tkn}{p:Nat}{x:Int}:p≤(wF l p x).1∧((wF l p x).2.1=0→x=0∧(wF l p x).1=p+1)∧(p≤l.length→(wF l p x).1≤l.length):=⟨eG.1,eG.2,fun h=>bT h⟩
theorem dj {l:List Tkn}{p:Nat}{x:Int}{t:List UInt8}:p≤(eF l p x t).1∧((eF l p x t).2.1=0→x=0∧(eF l p x t).1=p+1)∧(p≤l.length→(eF l p x t).1≤l.length):=⟨eG.1,eG.2,fun h=>bT h⟩
theorem rn {x b only:Int}(h:iV x b only=0):x=0:=by
 unfold iV at h;split at h
 ·omega
 exact h
theorem zW (x b:Int) {only:Int}(h:only < 0):iV x b only=x:=by
 unfold iV;rw [if_neg (by omega)]
theorem dQ {l:List Tkn}{p:Nat}{x:Int}{bs:List al}:p≤(namedF l p x bs).1∧((namedF l p x bs).2.1=0→x=0∧(namedF l p x bs).1=p+1)∧(p≤l.length→(namedF l p x bs).1≤l.length):=by
 have h:=dH (l:=l) (p:=p) (x:=x);unfold namedF;split
 ·rename_i h1
  exact ⟨h.1,fun h2=>absurd h2 h1,h.2.2⟩
 rename_i h1;have h1:(wF l p x).2.1=0:=by simpa using h1
 split
 ·exact ⟨h.1,fun _=>h.2.1 h1,h.2.2⟩
 exact ⟨h.1,fun h2=>absurd (show (5:Int)=0 from h2) (by decide),h.2.2⟩
theorem t8 {l:List Tkn}{p:Nat}{x:Int}{bs:List al}(h:(namedF l p x bs).2.1=0):∃ i:Nat,(namedF l p x bs).2.2=(i:Int)∧i < bs.length:=by
 unfold namedF at h ⊢;by_cases h1:(wF l p x).2.1=0
 ·rw [if_neg (by simpa using h1)] at h ⊢
  cases hi:findB bs (wF l p x).2.2 with
  | none=>rw [hi] at h;exact absurd (show (5:Int)=0 from h) (by decide)
  | some i=>exact ⟨i,rfl,(List.findIdx?_eq_some_iff_getElem.1 hi).1⟩
 rw [if_pos h1] at h;exact absurd h h1
theorem cC {l:List Tkn}{p:Nat}{x:Int}{bs:List al}{only:Int}:p≤(fullF l p x bs only).1∧((fullF l p x bs only).2.1=0→x=0∧(fullF l p x bs only).1=p+3)∧(p≤l.length→(fullF l p x bs only).1≤l.length):=by
 have h1:=dQ (l:=l) (p:=p) (x:=x) (bs:=bs);unfold fullF;simp only;generalize namedF l p x bs=N at h1 ⊢;have h2:=dj (l:=l) (p:=N.1) (x:=iV N.2.1 N.2.2 only) (t:=[46]);generalize eF l N.1 (iV N.2.1 N.2.2 only) [46]=E at h2 ⊢;have h3:=dH (l:=l) (p:=E.1) (x:=E.2.1);generalize wF l E.1 E.2.1=W at h3 ⊢;have hle:p≤W.1:=by omega
 have hin:p≤l.length→W.1≤l.length:=fun h=>h3.2.2 (h2.2.2 (h1.2.2 h))
 have h0:W.2.1=0→x=0∧W.1=p+3:=fun h=>by
  obtain ⟨a,b⟩:=h3.2.1 h;obtain ⟨c,d⟩:=h2.2.1 a;obtain ⟨e,f⟩:=h1.2.1 (rn c);exact ⟨e,by omega⟩
 split
 ·rename_i h4
  exact ⟨hle,fun h=>absurd h h4,hin⟩
 rename_i h4;have h4:W.2.1=0:=by simpa using h4
 split
 ·exact ⟨hle,fun _=>h0 h4,hin⟩
 exact ⟨hle,fun h2=>absurd (show (5:Int)=0 from h2) (by decide),hin⟩
theorem nN {l:List Tkn}:∀ (f p:Nat) (x:Int) (a:List aq),p≤l.length→(cB l f p x a).1≤l.length
 | 0,p,x,a,hp=>hp
 | f+1,p,x,a,hp=>by
  by_cases h:x=0∧aL l p x [125]=false
  ·rw [dc (by omega) h]
   exact nN _ _ _ _ (oL.2.2 hp)
  rw [bO h];exact hp
theorem wE {l:List Tkn}{p:Nat}{x:Int}(hp:p≤l.length):(dv l p x).1≤l.length:=dj.2.2 (nN _ _ _ _ (dj.2.2 (dH.2.2 hp)))
theorem nO {l:List Tkn}{p:Nat}{x:Int}{bs:List al}{slide:Bool}(hp:p≤l.length):(bU l p x bs slide).1≤l.length:=by
 unfold bU;simp only;have h0:=(dH (l:=l) (p:=p) (x:=x)).2.2 hp;generalize wF l p x=W at h0 ⊢;have h1:=(cC (l:=l) (p:=W.1) (x:=W.2.1) (bs:=bs) (only:=-1)).2.2 h0;generalize fullF l W.1 W.2.1 bs (-1)=FA at h1 ⊢;have h2:=(cC (l:=l) (p:=FA.1) (x:=FA.2.1) (bs:=bs) (only:=-1)).2.2 h1;generalize fullF l FA.1 FA.2.1 bs (-1)=FB at h2 ⊢;cases slide
 ·exact dj.2.2 h2
 exact dj.2.2 (cC.2.2 h2)
theorem ro {l:List Tkn}{p:Nat}{x:Int}{bs:List al}(hp:p≤l.length):(df l p x bs).1≤l.length:=dj.2.2 (dQ.2.2 (dH.2.2 hp))
theorem qh {l:List Tkn}{p:Nat}{x:Int}{L:ao}(hp:p≤l.length):(cS l p x L).1≤l.length:=by
 have h:=bT (l:=l) (p:=p) (x:=x) (may:=fG l p x) hp;unfold cS;simp only;split
 ·exact wE h
 split
 ·exact nO h
 split
 ·exact nO h
 split
 ·exact ro h
 exact h
section
variable {l:List Tkn}{p:Nat}{x:Int}{s:PS}{bs:List al}
theorem bL.named (h:bL l p x s) (hb:x=0→bs=s.L.bodies) (only:Int):bL l (namedF l p x bs).1 (iV (namedF l p x bs).2.1 (namedF l p x bs).2.2 only) (s.named only).2∧(iV (namedF l p x bs).2.1 (namedF l p x bs).2.2 only=0→(namedF l p x bs).2.2=(s.named only).1):=by
 obtain ⟨a1,b1⟩:=h.word;have hge:=dH (l:=l) (p:=p) (x:=x);have hL:=(ar s).sameL;unfold namedF PS.named;simp only;by_cases hx:(wF l p x).2.1=0
 ·have hs:s.word.2.x=0:=by rw [← a1.1];exact hx
  rw [if_neg (by simpa using hx),if_neg (by simpa using hs),hL,hb (hge.2.1 hx).1,b1];generalize findB s.L.bodies s.word.1=o
  cases o with
  | some i =>
   simp only;by_cases ho:0≤only∧(i:Int)≠only
   ·rw [show iV 0 (i:Int) only=7 from if_pos ⟨rfl,ho⟩,if_pos ho]
    refine ⟨⟨?_,fun k=>absurd (show (7:Int)=0 from k) (by decide)⟩,fun k=>absurd (show (7:Int)=0 from k) (by decide)⟩;unfold PS.fail;rw [if_pos hs]
   rw [show iV 0 (i:Int) only=0 from if_neg (fun k=>ho k.2),if_neg ho];refine ⟨⟨hs.symm,fun _=>a1.2 hx⟩,fun _=>by trivial⟩
  | none =>
   simp only;rw [show iV 5 0 only=5 from if_neg (fun k=>absurd k.1 (by decide))];refine ⟨⟨?_,fun k=>absurd (show (5:Int)=0 from k) (by decide)⟩,fun k=>absurd (show (5:Int)=0 from k) (by decide)⟩;unfold PS.fail;rw [if_pos hs]
 have hs:s.word.2.x≠0:=by rw [← a1.1];exact hx
 rw [if_pos hx,if_pos hs];simp only;rw [show iV (wF l p x).2.1 0 only=(wF l p x).2.1 from if_neg (fun k=>hx k.1)];exact ⟨a1,fun k=>absurd k hx⟩
theorem bL.full (h:bL l p x s) (hd:rl l 2 [46]) (hb:x=0→bs=s.L.bodies) (only:Int):bL l (fullF l p x bs only).1 (fullF l p x bs only).2.1 (s.full only).2.2∧((fullF l p x bs only).2.1=0→(fullF l p x bs only).2.2.1=(s.full only).1∧(fullF l p x bs only).2.2.2=(s.full only).2.1):=by
 obtain ⟨a1,b1⟩:=h.named hb only;have g1:=dQ (l:=l) (p:=p) (x:=x) (bs:=bs);have hL:=((eT s only).trans ((ay (s.named only).2 2 [46]).trans (ar _))).sameL;unfold fullF PS.full;simp only;generalize namedF l p x bs=N at a1 b1 g1 ⊢;have a2:=a1.expect hd;obtain ⟨a3,b3⟩:=a2.word;have g2:=dj (l:=l) (p:=N.1) (x:=iV N.2.1 N.2.2 only) (t:=[46]);generalize eF l N.1 (iV N.2.1 N.2.2 only) [46]=E at a2 a3 b3 g2 ⊢;have g3:=dH (l:=l) (p:=E.1) (x:=E.2.1);generalize wF l E.1 E.2.1=W at a3 b3 g3 ⊢;generalize ((s.named only).2.expect 2 [46]).word=V at a3 b3 hL ⊢;by_cases hx:W.2.1=0
 ·have hs:V.2.x=0:=by rw [← a3.1];exact hx
  have h1:=(g2.2.1 (g3.2.1 hx).1).1;have h2:=(g1.2.1 (rn h1)).1;have e1:=b1 h1;rw [if_neg (by simpa using hx),if_neg (by simpa using hs),hb h2,e1,← b3];have e2:cH V.2.L (s.named only).1=tZ s.L.bodies (s.named only).1:=by rw [hL];rfl
  rw [e2];generalize findM (tZ s.L.bodies (s.named only).1) W.2.2=o
  cases o with
  | some i=>exact ⟨⟨hs.symm,fun _=>a3.2 hx⟩,fun _=>⟨rfl,rfl⟩⟩
  | none =>
   simp only;refine ⟨⟨?_,fun k=>absurd (show (5:Int)=0 from k) (by decide)⟩,fun k=>absurd (show (5:Int)=0 from k) (by decide)⟩;unfold PS.fail;rw [if_pos hs]
 have hs:V.2.x≠0:=by rw [← a3.1];exact hx
 rw [if_pos hx,if_pos hs];exact ⟨a3,fun k=>absurd k hx⟩
theorem bL.joint (h:bL l p x s) (hg:∀ t∈l,gC t.kind t.text) (hb:x=0→bs=s.L.bodies) (slide:Bool):bL l (bU l p x bs slide).1 (bU l p x bs slide).2.1 (s.joint slide)∧((bU l p x bs slide).2.1=0→x=0∧(s.joint slide).L=s.L.addJ (bU l p x bs slide).2.2):=by
 have d1:=dP hg (c:=46) (by decide);have d2:=dP hg (c:=59) (by decide);obtain ⟨a1,b1⟩:=h.word;have g1:=dH (l:=l) (p:=p) (x:=x);have s1:=ar s;unfold bU PS.joint;simp only;generalize wF l p x=W at a1 b1 g1 ⊢;have hb1:W.2.1=0→bs=s.word.2.L.bodies:=fun k=>by rw [s1.sameL];exact hb (g1.2.1 k).1
 obtain ⟨a2,b2⟩:=a1.full d1 hb1 (-1);have g2:=cC (l:=l) (p:=W.1) (x:=W.2.1) (bs:=bs) (only:=-1);have s2:=ci s.word.2 (-1);generalize fullF l W.1 W.2.1 bs (-1)=FA at a2 b2 g2 ⊢;generalize s.word.2.full (-1)=PA at a2 b2 s2 ⊢;have hb2:FA.2.1=0→bs=PA.2.2.L.bodies:=fun k=>by rw [s2.sameL];exact hb1 (g2.2.1 k).1
 obtain ⟨a3,b3⟩:=a2.full d1 hb2 (-1);have g3:=cC (l:=l) (p:=FA.1) (x:=FA.2.1) (bs:=bs) (only:=-1);have s3:=ci PA.2.2 (-1);generalize fullF l FA.1 FA.2.1 bs (-1)=FB at a3 b3 g3 ⊢;generalize PA.2.2.full (-1)=PB at a3 b3 s3 ⊢;have hb3:FB.2.1=0→bs=PB.2.2.L.bodies:=fun k=>by rw [s3.sameL];exact hb2 (g3.2.1 k).1
 have hLB:PB.2.2.L=s.L:=by rw [s3.sameL,s2.sameL,s1.sameL]
 have key:∀ (F:Nat × Int × Int × Int) (Q:Int × Int × PS),bL l F.1 F.2.1 Q.2.2→(F.2.1=0→FB.2.1=0∧F.2.2.2=Q.2.1)→Q.2.2.L=s.L →
  bL l (eF l F.1 F.2.1 [59]).1 (eF l F.1 F.2.1 [59]).2.1 ((Q.2.2.expect 2 [59]).addJ ⟨s.word.1,if slide then 1 else 0,PA.1,PA.2.1,PB.1,PB.2.1,Q.2.1⟩) ∧
  ((eF l F.1 F.2.1 [59]).2.1=0→x=0∧((Q.2.2.expect 2 [59]).addJ ⟨s.word.1,if slide then 1 else 0,PA.1,PA.2.1,PB.1,PB.2.1,Q.2.1⟩).L=s.L.addJ ⟨W.2.2,if slide then 1 else 0,FA.2.2.1,FA.2.2.2,FB.2.2.1,FB.2.2.2,F.2.2.2⟩):=by
  intro F Q aF bF hQ;have a4:=aF.expect d2;have g4:=dj (l:=l) (p:=F.1) (x:=F.2.1) (t:=[59]);have s4:=ay Q.2.2 2 [59];refine ⟨a4,fun k=>?_⟩;have k1:=(g4.2.1 k).1;obtain ⟨k2,e5⟩:=bF k1;have k3:=(g3.2.1 k2).1;have k4:=(g2.2.1 k3).1;have k5:=(g1.2.1 k4).1;obtain ⟨e1,e2⟩:=b2 k3;obtain ⟨e3,e4⟩:=b3 k2;refine ⟨k5,?_⟩;show ({ (Q.2.2.expect 2 [59]).L with joints:=_ }:ao)=_;rw [s4.sameL,hQ,b1,e1,e2,e3,e4,e5];rfl
 cases slide
 ·exact key (FB.1,FB.2.1,0,0) (0,0,PB.2.2) a3 (fun k=>⟨k,rfl⟩) hLB
 simp only [if_true] at key ⊢;have hbb:FB.2.1=0→FB.2.2.1=PB.1:=fun k=>(b3 k).1
 by_cases h0:FB.2.1=0
 ·rw [hbb h0]
  obtain ⟨a4,b4⟩:=a3.full d1 hb3 PB.1;have g4:=cC (l:=l) (p:=FB.1) (x:=FB.2.1) (bs:=bs) (only:=PB.1);have s4:=ci PB.2.2 PB.1;have:=key (fullF l FB.1 FB.2.1 bs PB.1) (PB.2.2.full PB.1) a4 (fun k=>⟨(g4.2.1 k).1,(b4 k).2⟩) (by rw [s4.sameL,hLB]);rw [hbb h0] at this;exact this
 obtain ⟨a4,b4⟩:=a3.full d1 hb3 FB.2.2.1;have g4:=cC (l:=l) (p:=FB.1) (x:=FB.2.1) (bs:=bs) (only:=FB.2.2.1);have s5:=ci PB.2.2 PB.1;have hsx:PB.2.2.x≠0:=by rw [← a3.1];exact h0
 have hq:(PB.2.2.full PB.1).2.2=PB.2.2:=s5.2.1 hsx
 have hF:(fullF l FB.1 FB.2.1 bs FB.2.2.1).2.1=PB.2.2.x:=by
  have e:=(ci PB.2.2 FB.2.2.1).2.1 hsx;rw [a4.1,e]
 exact key (fullF l FB.1 FB.2.1 bs FB.2.2.1) (PB.2.2.full PB.1) ⟨by rw [hF,hq],fun k=>absurd (by rw [← hF];exact k) hsx⟩ (fun k=>absurd (by rw [← hF];exact k) hsx) (by rw [hq,hLB])
theorem bL.driver (h:bL l p x s) (hg:∀ t∈l,gC t.kind t.text) (hb:x=0→bs=s.L.bodies):bL l (df l p x bs).1 (df l p x bs).2.1 s.driver∧((df l p x bs).2.1=0→x=0∧s.driver.L=s.L.addD (df l p x bs).2.2):=by
 have d2:=dP hg (c:=59) (by decide);obtain ⟨a1,b1⟩:=h.word;have g1:=dH (l:=l) (p:=p) (x:=x);have s1:=ar s;unfold df PS.driver;simp only;generalize wF l p x=W at a1 b1 g1 ⊢;have hb1:W.2.1=0→bs=s.word.2.L.bodies:=fun k=>by rw [s1.sameL];exact hb (g1.2.1 k).1
 obtain ⟨a2,b2⟩:=a1.named hb1 (-1);rw [zW _ _ (by decide)] at a2 b2;have g2:=dQ (l:=l) (p:=W.1) (x:=W.2.1) (bs:=bs);have s2:=eT s.word.2 (-1);generalize namedF l W.1 W.2.1 bs=N at a2 b2 g2 ⊢;generalize s.word.2.named (-1)=Q at a2 b2 s2 ⊢;have a4:=a2.expect d2;have g4:=dj (l:=l) (p:=N.1) (x:=N.2.1) (t:=[59]);have s4:=ay Q.2 2 [59];refine ⟨a4,fun k=>?_⟩;have k1:=(g4.2.1 k).1;have k2:=(g2.2.1 k1).1;have k3:=(g1.2.1 k2).1;refine ⟨k3,?_⟩;show ({ (Q.2.expect 2 [59]).L with drivers:=_ }:ao)=_;rw [s4.sameL,s2.sameL,s1.sameL,b1,b2 k1];rfl
end
theorem bL.first {l:List Tkn}{p:Nat}{x:Int}{s:PS}(h:bL l p x s) (hg:∀ t∈l,gC t.kind t.text) :
 (∃ t,x=0∧s.x=0∧t∈l∧t.kind=0∧(t.text=cY∨t.text=gh∨t.text=cZ∨t.text=cI)∧takeF l p x (fG l p x)=(p+1,0,t.text)∧s.word=(t.text,s.drop1)∧bL l (p+1) 0 s.drop1) ∨
 (∃ e:Int,e≠0∧takeF l p x (fG l p x)=(p,e,[])∧s.item.x=e∧s.item.L=s.L):=by
 have h1:=fX hg (c:=98) (r:=[111,100,121]) (by decide);have h2:=fX hg (c:=112) (r:=[105,110]) (by decide);have h3:=fX hg (c:=115) (r:=[108,105,100,101]) (by decide);have h4:=fX hg (c:=100) (r:=[114,105,118,101,114]) (by decide);have hi:∀ q:PS,s.word=([],q)→s.item=q.fail 2:=fun q hq=>by unfold PS.item;simp only [hq];rfl
 rcases h.cases with ⟨k1,k2,k3⟩ | ⟨k1,k2,k3,k4⟩ | ⟨t,k1,k2,k3,k4,hm⟩
 ·right
  have e:s.word=([],s):=by unfold PS.word PS.next;rw [if_pos k2]
  refine ⟨x,k1,fu k1,?_⟩;rw [hi s e,show s.fail 2=s from if_neg k2];exact ⟨k3,rfl⟩
 ·right
  have e:s.word=([],{ s with x:=18 }):=by unfold PS.word PS.next;rw [if_neg (by rw [k2];simp),k4]
  refine ⟨18,by decide,kZ k1 k3,?_⟩;rw [hi _ e];exact ⟨rfl,rfl⟩
 have pk:∀ u,aL l p x u=(!(t.kind == 1) && (t.text == u)):=fun u=>by unfold aL;rw [k3,k1];simp
 by_cases hk:t.kind=0
 ·have e:s.word=(t.text,s.drop1):=by unfold PS.word PS.next;rw [if_neg (by rw [k2];simp),k4];simp only;rw [if_pos hk]
  have pk2:∀ u,aL l p x u=decide (t.text=u):=fun u=>by rw [pk,hk,Bool.eq_iff_iff];simp
  by_cases hw:t.text=cY∨t.text=gh∨t.text=cZ∨t.text=cI
  ·left
   have hmay:fG l p x=true:=by unfold fG;rw [pk2,pk2,pk2,pk2];simpa [or_assoc] using hw
   refine ⟨t,k1,k2,hm,hk,hw,by rw [gw k1 k3,hmay];rfl,e,k2.symm,fun _=>?_⟩;show l.drop (p+1)=s.toks.drop 1;rw [k4];rfl
  right;have hmay:fG l p x=false:=by unfold fG;rw [pk2,pk2,pk2,pk2];simp only [not_or] at hw;simp [hw.1,hw.2.1,hw.2.2.1,hw.2.2.2]
  refine ⟨2,by decide,by rw [gw k1 k3,hmay];rfl,?_⟩;simp only [not_or] at hw;have:s.item=s.drop1.fail 2:=by unfold PS.item;simp only [e];rw [if_neg hw.1,if_neg hw.2.1,if_neg hw.2.2.1,if_neg hw.2.2.2]
  rw [this];have hx:s.drop1.x=0:=k2;unfold PS.fail;rw [if_pos hx];exact ⟨rfl,rfl⟩
 right;have e:s.word=([],{ s with x:=2 }):=by unfold PS.word PS.next;rw [if_neg (by rw [k2];simp),k4];simp only;rw [if_neg hk]
 have hmay:fG l p x=false:=by
  cases hq:fG l p x
  ·rfl
  exfalso;unfold fG at hq;rw [pk,pk,pk,pk] at hq;simp only [Bool.or_eq_true,Bool.and_eq_true,Bool.not_eq_true',beq_eq_false_iff_ne,beq_iff_eq] at hq;rcases hq with ((⟨q1,q2⟩ | ⟨q1,q2⟩) | ⟨q1,q2⟩) | ⟨q1,q2⟩
  ·exact hk (h1.2 t hm q1 q2)
  ·exact hk (h2.2 t hm q1 q2)
  ·exact hk (h3.2 t hm q1 q2)
  exact hk (h4.2 t hm q1 q2)
 refine ⟨2,by decide,by rw [gw k1 k3,hmay];rfl,?_⟩;rw [hi _ e];exact ⟨rfl,rfl⟩
theorem bL.item {l:List Tkn}{p:Nat}{x:Int}{s:PS}{L:ao}(h:bL l p x s) (hg:∀ t∈l,gC t.kind t.text) (hp:p≤l.length) (hL:x=0→L=s.L):bL l (cS l p x L).1 (cS l p x L).2.1 s.item∧((cS l p x L).2.1=0→(cS l p x L).2.2=s.item.L∧p < (cS l p x L).1):=by
 unfold cS;simp only;rcases h.first hg with ⟨t,k1,k2,hm,hk,hw,ht,e,hr⟩ | ⟨c,hc,ht,e1,e2⟩
 ·have hL:=hL k1
  have hp1:p+1≤l.length:=by
   have:=bT (l:=l) (p:=p) (x:=x) (may:=fG l p x) hp;rw [ht] at this;exact this
  have hi:s.item=(if t.text=cY then s.drop1.body.2.addB s.drop1.body.1 else if t.text=gh then s.drop1.joint false else if t.text=cZ then s.drop1.joint true else if t.text=cI then s.drop1.driver else s.drop1.fail 2):=by unfold PS.item;simp only [e]
  rw [ht,hi];simp only;have hLd:s.drop1.L=s.L:=rfl;rcases hw with hw | hw | hw | hw
  ·rw [if_pos hw,if_pos hw]
   obtain ⟨b1,b2⟩:=hr.body hg hp1;refine ⟨⟨b1,fun k=>?_⟩,fun k=>?_⟩
   ·rw [b1] at k
    exact (b2 k).1.2 (by rw [b1];exact k)
   have k':(dv l (p+1) 0).2.1=0:=k;rw [b1] at k';obtain ⟨r1,r2⟩:=b2 k';refine ⟨?_,?_⟩
   ·show L.addB _=({ s.drop1.body.2.L with bodies:=s.drop1.body.2.L.bodies ++ [s.drop1.body.1] }:ao)
    rw [(jQ s.drop1).sameL,hLd,hL,r2];rfl
   have h9:=(jQ s.drop1).1;have h8:=r1.2 (by rw [b1];exact k');have h7:=congrArg List.length h8;have h6:s.drop1.toks=l.drop (p+1):=(hr.2 rfl).symm;rw [h6] at h9;simp at h7 h9;show p < (dv l (p+1) 0).1;omega
  ·have n1:¬ t.text=cY:=by rw [hw];decide
   rw [if_neg n1,if_neg n1,if_pos hw,if_pos hw];obtain ⟨a1,b1⟩:=hr.joint (bs:=L.bodies) hg (fun _=>by rw [hL];rfl) false;refine ⟨a1,fun k=>⟨by rw [(b1 k).2,hLd,hL],?_⟩⟩;have h9:=(iA s.drop1 false).1;have h8:=a1.2 k;have h7:=congrArg List.length h8;have h6:s.drop1.toks=l.drop (p+1):=(hr.2 rfl).symm;rw [h6] at h9;simp at h7 h9;show p < (bU l (p+1) 0 L.bodies false).1;omega
  ·have n1:¬ t.text=cY:=by rw [hw];decide
   have n2:¬ t.text=gh:=by rw [hw];decide
   rw [if_neg n1,if_neg n1,if_neg n2,if_neg n2,if_pos hw,if_pos hw];obtain ⟨a1,b1⟩:=hr.joint (bs:=L.bodies) hg (fun _=>by rw [hL];rfl) true;refine ⟨a1,fun k=>⟨by rw [(b1 k).2,hLd,hL],?_⟩⟩;have h9:=(iA s.drop1 true).1;have h8:=a1.2 k;have h7:=congrArg List.length h8;have h6:s.drop1.toks=l.drop (p+1):=(hr.2 rfl).symm;rw [h6] at h9;simp at h7 h9;show p < (bU l (p+1) 0 L.bodies true).1;omega
  have n1:¬ t.text=cY:=by rw [hw];decide
  have n2:¬ t.text=gh:=by rw [hw];decide
  have n3:¬ t.text=cZ:=by rw [hw];decide
  rw [if_neg n1,if_neg n1,if_neg n2,if_neg n2,if_neg n3,if_neg n3,if_pos hw,if_pos hw];obtain ⟨a1,b1⟩:=hr.driver (bs:=L.bodies) hg (fun _=>by rw [hL];rfl);refine ⟨a1,fun k=>⟨by rw [(b1 k).2,hLd,hL],?_⟩⟩;have h9:=(lR s.drop1).1;have h8:=a1.2 k;have h7:=congrArg List.length h8;have h6:s.drop1.toks=l.drop (p+1):=(hr.2 rfl).symm;rw [h6] at h9;simp at h7 h9;show p < (df l (p+1) 0 L.bodies).1;omega
 rw [ht];simp only;rw [if_neg (show ¬ ([]:List UInt8)=cY by decide),if_neg (show ¬ ([]:List UInt8)=gh by decide),if_neg (show ¬ ([]:List UInt8)=cZ by decide),if_neg (show ¬ ([]:List UInt8)=cI by decide)];exact ⟨⟨e1.symm,fun k=>absurd k hc⟩,fun k=>absurd k hc⟩
theorem gB {f:Nat}{s:PS}(h:¬ (s.x=0∧s.toks≠[])):PS.items f s=s:=by
 cases f
 ·rfl
 exact if_neg h
theorem wG {f:Nat}{s:PS}(hf:0 < f) (h:s.x=0∧s.toks≠[]):PS.items f s=PS.items (f - 1) s.item:=by
 obtain ⟨f,rfl⟩:∃ g,f=g+1:=⟨f - 1,by omega⟩;exact if_pos h
theorem eH {l:List Tkn}{f p:Nat}{x:Int}{L:ao}(h:¬ (x=0∧p < l.length)):itemsF l f p x L=(p,x,L):=by
 cases f
 ·rfl
 exact if_neg h
theorem nP {l:List Tkn}{f p:Nat}{x:Int}{L:ao}(hf:0 < f) (h:x=0∧p < l.length):itemsF l f p x L=itemsF l (f - 1) (cS l p x L).1 (cS l p x L).2.1 (cS l p x L).2.2:=by
 obtain ⟨f,rfl⟩:∃ g,f=g+1:=⟨f - 1,by omega⟩;exact if_pos h
theorem bL.items {l:List Tkn}(hg:∀ t∈l,gC t.kind t.text):∀ (f g p:Nat) (x:Int) (s:PS) (L:ao),bL l p x s→(x=0→L=s.L)→(s.x=0→s.toks.length < f)→l.length+1≤g+p→p≤l.length →
 bL l (itemsF l g p x L).1 (itemsF l g p x L).2.1 (PS.items f s)∧((itemsF l g p x L).2.1=0→(itemsF l g p x L).2.2=(PS.items f s).L)
 | f,g,p,x,s,L,h,hL,hf,hgp,hp=>by
  by_cases hx:x=0
  ·have hs:s.x=0:=by rw [← h.1];exact hx
   have ht:=h.2 hx;by_cases hlt:p < l.length
   ·have hne:s.toks≠[]:=by
     rw [← ht];intro h9;have:=congrArg List.length h9;simp at this;omega
    have hf1:=hf hs;rw [wG (by omega) ⟨hs,hne⟩,nP (by omega) ⟨hx,hlt⟩];obtain ⟨a1,b1⟩:=h.item hg hp hL;have hgp':=qh (l:=l) (p:=p) (x:=x) (L:=L) hp;by_cases hx1:(cS l p x L).2.1=0
    ·obtain ⟨b2,b3⟩:=b1 hx1
     have hlen:s.item.toks.length < f - 1:=by
      have e1:=congrArg List.length (a1.2 hx1);have e2:=congrArg List.length ht;simp at e1 e2;omega
     exact bL.items hg (f - 1) (g - 1) _ _ _ _ a1 (fun _=>b2) (fun _=>hlen) (by omega) hgp'
    have hsx:¬ s.item.x=0:=by rw [← a1.1];exact hx1
    rw [gB (fun k=>hsx k.1),eH (fun k=>hx1 k.1)];exact ⟨a1,fun k=>absurd k hx1⟩
   have hte:s.toks=[]:=by rw [← ht];exact List.drop_eq_nil_of_le (by omega)
   rw [gB (by rw [hte];simp),eH (by omega)];exact ⟨h,hL⟩
  have hs:¬ s.x=0:=by rw [← h.1];exact hx
  rw [gB (fun k=>hs k.1),eH (fun k=>hx k.1)];exact ⟨h,hL⟩
termination_by f=>f
decreasing_by omega
theorem ua {s:List UInt8}{x y:Int}{l:List Tkn}{L:ao}(hs:aR s x l) (h:ch s y L):sF l x=(y,L):=by
 have hrel:bL l 0 x (⟨l,L0,x⟩:PS):=⟨rfl,fun _=>rfl⟩
 have hg:∀ t∈l,gC t.kind t.text:=by
  intro t ht;rcases hs with ⟨_,_,h⟩ | ⟨_,h,_⟩ | ⟨_,_,_,_,h⟩
  ·subst h;cases ht
  ·exact tw _ _ _ _ _ h t ht
  subst h;cases ht
 have d2:=dP hg (c:=59) (by decide);have a1:=hrel.expect (fX hg (c:=108) (r:=[105,110,107,97,103,101]) (by decide));have k1:=(dj (l:=l) (p:=0) (x:=x) (t:=aJ)).2.2 (Nat.zero_le _);have g1:=(dj (l:=l) (p:=0) (x:=x) (t:=aJ)).2.1;have s1:=ay (⟨l,L0,x⟩:PS) 0 aJ
 have hrd:x=0→cN l=PS.items (l.length+1) (({ ((⟨l,L0,x⟩:PS).expect 0 aJ).word.2 with L:={ ((⟨l,L0,x⟩:PS).expect 0 aJ).word.2.L with name:=((⟨l,L0,x⟩:PS).expect 0 aJ).word.1 } }:PS).expect 2 [59]):=by
  rintro rfl;rfl
 unfold sF;simp only;change bL l (eF l 0 x aJ).1 (eF l 0 x aJ).2.1 ((⟨l,L0,x⟩:PS).expect 0 aJ) at a1;generalize eF l 0 x aJ=E at a1 k1 g1 ⊢;generalize (⟨l,L0,x⟩:PS).expect 0 aJ=q1 at a1 s1 hrd;obtain ⟨a2,b2⟩:=a1.word;have k2:=(dH (l:=l) (p:=E.1) (x:=E.2.1)).2.2 k1;have g2:=(dH (l:=l) (p:=E.1) (x:=E.2.1)).2.1;have s2:=ar q1;generalize wF l E.1 E.2.1=W at a2 b2 k2 g2 ⊢;generalize q1.word=V at a2 b2 s2 hrd;have a3:bL l W.1 W.2.1 ({ V.2 with L:={ V.2.L with name:=V.1 } }:PS):=a2;have a4:=a3.expect d2;have k4:=(dj (l:=l) (p:=W.1) (x:=W.2.1) (t:=[59])).2.2 k2;have g4:=(dj (l:=l) (p:=W.1) (x:=W.2.1) (t:=[59])).2.1;have s4:=ay ({ V.2 with L:={ V.2.L with name:=V.1 } }:PS) 2 [59];generalize eF l W.1 W.2.1 [59]=E2 at a4 k4 g4 ⊢;generalize ({ V.2 with L:={ V.2.L with name:=V.1 } }:PS).expect 2 [59]=q4 at a4 s4 hrd;have hq4:q4.L=⟨W.2.2,[],[],[]⟩:=by rw [s4.sameL];show ({ V.2.L with name:=V.1 }:ao)=_;rw [s2.sameL,s1.sameL,b2];rfl
 have hlen:q4.toks.length < l.length+1:=by
  have:=Nat.le_trans s4.1 (show V.2.toks.length≤l.length from Nat.le_trans s2.1 s1.1);omega
 obtain ⟨a5,b5⟩:=bL.items hg (l.length+1) (l.length+1) E2.1 E2.2.1 q4 ⟨W.2.2,[],[],[]⟩ a4 (fun _=>hq4.symm) (fun _=>hlen) (by omega) k4;generalize itemsF l (l.length+1) E2.1 E2.2.1 ⟨W.2.2,[],[],[]⟩=R at a5 b5 ⊢;by_cases hx:x=0
 ·subst hx
  have hrd:=hrd rfl;rw [← hrd] at a5 b5;by_cases hr:R.2.1=0
  ·have hr0:(cN l).x=0:=by rw [← a5.1];exact hr
   rw [if_pos hr,b5 hr];by_cases hc:dh (cN l).L=0
   ·rw [if_neg (by simpa using hc)]
    obtain ⟨e1,e2⟩:=h.uniq (ch.ok l hs hr0 hc rfl rfl);rw [e1,e2]
   rw [if_pos hc];obtain ⟨e1,e2⟩:=h.uniq (ch.check l hs hr0 rfl hc rfl);rw [e1,e2]
  rw [if_neg hr,if_pos hr];have hr0:(cN l).x≠0:=by rw [← a5.1];exact hr
  obtain ⟨e1,e2⟩:=h.uniq (ch.read l hs rfl hr0 rfl);rw [e1,e2,a5.1]
 ·have hR:R.2.1=x:=by
   have e1:q1=⟨l,L0,x⟩:=s1.2.1 hx;have e2:V.2=q1:=s2.2.1 (by rw [e1];exact hx)
   have e3:q4.x=x:=by
    have e4:=s4.2.1 (by show V.2.x≠0;rw [e2,e1];exact hx);rw [e4];show V.2.x=x;rw [e2,e1]
   rw [a5.1,gB (fun k=>hx (by rw [← e3];exact k.1)),e3]
  have hR0:R.2.1≠0:=by rw [hR];exact hx
  rw [if_neg hR0,if_pos hR0,hR];obtain ⟨e1,e2⟩:=h.uniq (ch.split l hs hx rfl);rw [e1,e2]
def jW (bs:List al) (nm:List UInt8):Int × Int:=match findB bs nm with | some i=>((i:Int),0) | none=>(0,5)
theorem yi (w:World) (k:Nat) (Ln:List UInt8) (B1:Option Addr) (m1 e1:Nat) (bs:List al) (hb:SlS (fD k) 2 w B1 m1 e1 bs) (hm:m1≤100000) (B2:Option Addr) (m2 e2:Nat) (B3:Option Addr) (m3 e3:Nat) (nm:List UInt8) (R:Int × Int) (hR:jW bs nm=R) :
 Calls Tryz.prog 121 #[.agg #[ae Ln,.slice B1 m1 e1,.slice B2 m2 e2,.slice B3 m3 e3],ae nm] w (av w (.tuple #[.int .i64 R.1,.int .i64 R.2])):=by
 have HR:=Qh hR;have HB:=Qh hb;clear hR hb;go_in;go_wp2_with fail;refine eP ?_;intro w1 hw1;have q1:Below w.heap.size w w1:=by rw [hw1];exact (aa w).alloc Qr _
 have x1:Blk w1 w.heap.size 36 #[ae Ln,.slice B1 m1 e1,.slice B2 m2 e2,.slice B3 m3 e3]:=by rw [hw1];exact Blk.new _ _ _
 clear hw1;go_loopw [6] (fun iv wr=>∃ i:Nat,iv=.int .i64 (i:Nat)∧i≤m1∧Hid (∀ a∈bs.take i,a.name≠nm)∧Below w1.heap.size w1 wr) (fun iv _=>m1 - (intOf iv).toNat)
 case atStart=>exact ⟨0,rfl,Nat.zero_le _,Qh (by simp),aa w1⟩
 case round =>
  obtain ⟨i,rfl,hi,HT,hb⟩:=hrel;rename World=>wr;have x2:=x1.below hb x1.lt;have q2:=q1.trans (hb.mono q1.size);have cx1:=x2.cell 1;rcases Nat.lt_or_ge i m1 with hlt | hge
  ·have hi1:((i:Int) < (m1:Int))=True:=by simp;omega
   obtain ⟨g,o,b,e,hg,_,hbi,hB⟩:=(HB.out.bd q2).at_ hlt;subst e;obtain ⟨A',n',c',d0,d1,hM,hnm⟩:=hB;clear hM hnm;have htl:=az b.name;have htn:=az nm;have HBI:=Qh hbi;clear hbi;by_cases heq:b.name=nm
   ·have hf:jW bs nm=((i:Int),0):=by
     unfold jW;rw [show findB bs nm=some i from kS (f:=al.name) HT.out HBI.out heq]
    have hR:=HR.out;rw [hf] at hR;subst hR;rw [heq] at d0 htl;have hee:(nm == nm)=true:=by simp
    clear HBI heq hf;go_wp2_with fail;refine bodyPost_ret (v:=.tuple #[.int .i64 (i:Nat),.int .i64 0]) (by simp [results,Tryz.results121,go_sem, *] <;> trivial) rfl ?_;exact ⟨rfl,q2⟩
   have hee:(b.name == nm)=false:=beq_eq_false_iff_ne.2 heq;have HT2:=Qh (iK (p:=fun a:al=>a.name≠nm) HT.out HBI.out heq);clear heq HT HBI;go_wp2_with fail;go_roundw
   case rel=>exact ⟨i+1,by go_num,by omega,HT2,hb⟩
   case measure=>simp [intOf];omega
  have hi1:((i:Int) < (m1:Int))=False:=by simp;omega
  obtain rfl:i=m1:=by omega
  have hl:bs.length=i:=HB.out.1
  have hf:jW bs nm=(0,5):=by
   unfold jW;rw [show findB bs nm=none from jS (f:=al.name) fun a ha=>HT.out a (by rw [List.take_of_length_le (by omega)];exact ha)]
  have hR:=HR.out;rw [hf] at hR;subst hR;clear hf hl HT;go_wp2_with fail;refine bodyPost_ret (v:=.tuple #[.int .i64 0,.int .i64 5]) (by simp [results,Tryz.results121,go_sem, *] <;> trivial) rfl ?_;exact ⟨rfl,q2⟩
theorem ub {l:List Tkn}{p:Nat}{x:Int}{bs:List al}:namedF l p x bs=if (wF l p x).2.1≠0 then ((wF l p x).1,(wF l p x).2.1,0) else ((wF l p x).1,(jW bs (wF l p x).2.2).2,(jW bs (wF l p x).2.2).1):=by
 unfold namedF jW;split
 ·rfl
 generalize findB bs (wF l p x).2.2=o;cases o <;> rfl
theorem qi (w:World) (A:Option Addr) (n c:Nat) (l:List Tkn) (h:TkS w A n c l) (hn:n≤65536) (p:Nat) (hp:p≤n) (x:Int) (Ln:List UInt8) (B1:Option Addr) (m1 e1:Nat) (bs:List al) (hb:SlS (fD 500) 2 w B1 m1 e1 bs) (hm:m1≤100000) (B2:Option Addr) (m2 e2:Nat) (B3:Option Addr) (m3 e3:Nat) (N:Nat × Int × Int) (hN:namedF l p x bs=N) :
 Calls Tryz.prog 86 #[.agg #[.slice A n c,.int .i64 (p:Nat),.int .i64 x,ae Ln,.slice B1 m1 e1,.slice B2 m2 e2,.slice B3 m3 e3]] w (av w (.tuple #[.agg #[.slice A n c,.int .i64 (N.1:Nat),.int .i64 N.2.1,ae Ln,.slice B1 m1 e1,.slice B2 m2 e2,.slice B3 m3 e3],.int .i64 N.2.2])):=by
 rw [ub] at hN;obtain ⟨W,hW⟩:∃ W,wF l p x=W:=⟨_,rfl⟩;rw [hW] at hN;obtain ⟨R,hR⟩:∃ R,jW bs W.2.2=R:=⟨_,rfl⟩;rw [hR] at hN;have HK:=Qh h;have HW:=Qh (show takeF l p x (bE l p x 0)=W from hW);have HR:=Qh hR;have HN:=Qh hN;have HB:=Qh hb;clear hN hW hR h hb;go_in;go_wp2_with fail;(with_reducible refine (gn _ A n c l ?_ hn p hp x Ln B1 m1 e1 B2 m2 e2 B3 m3 e3 W HW.out).mono ?_)
 ·exact HK.out.belw (((aa w).alloc Qr _).alloc (by simp) _)
 rintro e w1 ⟨rfl,hb1⟩;have q1:Below w.heap.size w w1:=(((aa w).alloc Qr _).alloc (by simp) _).trans (hb1.mono (by simp <;> omega));have xs:Blk w1 w.heap.size 94 #[.slice A n c,.int .i64 (p:Nat),.int .i64 x,ae Ln,.slice B1 m1 e1,.slice B2 m2 e2,.slice B3 m3 e3]:=((Blk.new w _ _).alloc _).below hb1 (by simp <;> omega);have xr:Blk w1 (w.heap.size+1) 94 #[.slice none 0 0,.int .i64 0,.int .i64 0,.string ⟨#[]⟩,.slice none 0 0,.slice none 0 0,.slice none 0 0]:=(ah _ _ _ (by simp)).below hb1 (by simp);clear hb1;obtain ⟨f0,f1,f2,f3,f4,f5,f6⟩:=xs.f7;obtain ⟨g0,g1,g2,g3,g4,g5,g6⟩:=xr.f7;obtain ⟨c0,c1,c2,c3,c4,c5,c6⟩:=xs.c7;obtain ⟨d0,d1,d2,d3,d4,d5,d6⟩:=xr.c7;obtain ⟨W1,W2,W3⟩:=W;simp only at HN HR ⊢;by_cases hx:W2=0
 ·subst hx
  have hN:=HN.out;rw [if_neg (by simp)] at hN;subst hN;go_wp2_with fail;(refine (yi _ 500 Ln B1 m1 e1 bs ?_ hm B2 m2 e2 B3 m3 e3 W3 R HR.out).mono ?_)
  ·exact HB.out.bd (dp q1 Qr _ _ _ _ _ _ _)
  rintro e w2 ⟨rfl,hb2⟩;have q1':=dp q1 (Nat.le_refl w.heap.size) (.slice A n c) (.int .i64 (W1:Nat)) (.int .i64 0) (ae Ln) (.slice B1 m1 e1) (.slice B2 m2 e2) (.slice B3 m3 e3);have q2:=q1'.trans (hb2.mono q1'.size);have xs1:=st7 xs (.slice A n c) (.int .i64 (W1:Nat)) (.int .i64 0) (ae Ln) (.slice B1 m1 e1) (.slice B2 m2 e2) (.slice B3 m3 e3);have xr1:=dF xr (g':=w.heap.size) (by omega) (.slice A n c) (.int .i64 (W1:Nat)) (.int .i64 0) (ae Ln) (.slice B1 m1 e1) (.slice B2 m2 e2) (.slice B3 m3 e3);have xs2:=xs1.below hb2 xs1.lt;have xr2:=xr1.below hb2 xr1.lt;clear hb2 q1' q1 xs1 xr1 xs xr c0 c1 c2 c3 c4 c5 c6 d0 d1 d2 d3 d4 d5 d6 f0 f1 f2 f3 f4 f5 f6 g0 g1 g2 g3 g4 g5 g6;obtain ⟨c0,c1,c2,c3,c4,c5,c6⟩:=xs2.c7;obtain ⟨d0,d1,d2,d3,d4,d5,d6⟩:=xr2.c7;obtain ⟨f0,f1,f2,f3,f4,f5,f6⟩:=xs2.f7;obtain ⟨g0,g1,g2,g3,g4,g5,g6⟩:=xr2.f7;go_wp2_with fail;refine bodyPost_ret (v:=.tuple #[.agg #[.slice A n c,.int .i64 (W1:Nat),.int .i64 R.2,ae Ln,.slice B1 m1 e1,.slice B2 m2 e2,.slice B3 m3 e3],.int .i64 R.1]) (by simp [results,Tryz.results86,go_sem, *] <;> trivial) rfl ?_;exact ⟨rfl,dp (q2.setCell (p:=⟨w.heap.size,2,none⟩) Qr _) (by omega) _ _ _ _ _ _ _⟩
 have t1:(W2 == 0)=false:=beq_eq_false_iff_ne.2 hx;have t2:(W2=0)=False:=eq_false hx;have t3:(W2 != 0)=true:=by unfold bne;rw [t1];rfl
 have hN:=HN.out;rw [if_pos hx] at hN;subst hN;clear hx HN;go_wp2_with fail;refine bodyPost_ret (v:=.tuple #[.agg #[.slice A n c,.int .i64 (W1:Nat),.int .i64 W2,ae Ln,.slice B1 m1 e1,.slice B2 m2 e2,.slice B3 m3 e3],.int .i64 0]) (by simp [results,Tryz.results86,go_sem, *] <;> trivial) rfl ?_;exact ⟨rfl,dp (dp q1 Qr _ _ _ _ _ _ _) (by omega) _ _ _ _ _ _ _⟩
theorem oM (w:World) (A:Option Addr) (n c:Nat) (l:List Tkn) (h:TkS w A n c l) (hn:n≤65536) (p:Nat) (hp:p≤n) (x:Int) (Ln:List UInt8) (B1:Option Addr) (m1 e1:Nat) (bs:List al) (hb:SlS (fD 500) 2 w B1 m1 e1 bs) (hm:m1≤100000) (hpt:∀ b∈bs,b.pts.length≤100000) (B2:Option Addr) (m2 e2:Nat) (B3:Option Addr) (m3 e3:Nat) (only:Int) (N:Nat × Int × Int × Int) (hN:fullF l p x bs only=N) :
 Calls Tryz.prog 120 #[.agg #[.slice A n c,.int .i64 (p:Nat),.int .i64 x,ae Ln,.slice B1 m1 e1,.slice B2 m2 e2,.slice B3 m3 e3],.int .i64 only] w (av w (.tuple #[.agg #[.slice A n c,.int .i64 (N.1:Nat),.int .i64 N.2.1,ae Ln,.slice B1 m1 e1,.slice B2 m2 e2,.slice B3 m3 e3],.int .i64 N.2.2.1,.int .i64 N.2.2.2])):=by
 have hnl:l.length=n:=h.1;obtain ⟨Q,hQ⟩:∃ Q,namedF l p x bs=Q:=⟨_,rfl⟩;have hQ1:Q.1≤n:=by rw [← hQ,← hnl];exact dQ.2.2 (by omega)
 have hQin:Q.2.1=0→∃ i:Nat,Q.2.2=(i:Int)∧i < bs.length:=by rw [← hQ];exact t8
 obtain ⟨y,hy⟩:∃ y,iV Q.2.1 Q.2.2 only=y:=⟨_,rfl⟩;obtain ⟨E,hE⟩:∃ E,eF l Q.1 y [46]=E:=⟨_,rfl⟩;have hE1:E.1≤n:=by rw [← hE,← hnl];exact dj.2.2 (by omega)
 have hE0:E.2.1=0→y=0:=by rw [← hE];exact fun k=>(dj.2.1 k).1
 obtain ⟨W,hW⟩:∃ W,wF l E.1 E.2.1=W:=⟨_,rfl⟩;have hW0:W.2.1=0→E.2.1=0:=by rw [← hW];exact fun k=>(dH.2.1 k).1
 have hNN:(if W.2.1≠0 then (W.1,W.2.1,0,0) else match findM (tZ bs Q.2.2) W.2.2 with | some i=>(W.1,0,Q.2.2,(i:Int)) | none=>(W.1,5,0,0))=N:=by
  rw [← hN];unfold fullF;simp only [hQ,hy,hE,hW] <;> rfl
 have hin:W.2.1=0→∃ i:Nat,Q.2.2=(i:Int)∧i < bs.length:=fun k=>hQin (rn (hy.trans (hE0 (hW0 k))))
 have HK:=Qh h;have HQ:=Qh hQ;have HY:=Qh hy;have HE:=Qh (show takeF l Q.1 y (aL l Q.1 y [46])=E from hE);have HW:=Qh (show takeF l E.1 E.2.1 (bE l E.1 E.2.1 0)=W from hW);have HN:=Qh hNN;have HB:=Qh hb;have HIN:=Qh hin;have HPT:=Qh hpt;clear hN hNN hW hE hy hQ h hb hin hE0 hW0 hQin hpt;go_in;go_wp2_with fail;(with_reducible refine (qi _ A n c l ?_ hn p hp x Ln B1 m1 e1 bs ?_ hm B2 m2 e2 B3 m3 e3 Q HQ.out).mono ?_)
 ·exact HK.out.belw (((aa w).alloc Qr _).alloc (by simp) _)
 ·exact HB.out.bd (((aa w).alloc Qr _).alloc (by simp) _)
 rintro e w1 ⟨rfl,hb1⟩;have q1:Below w.heap.size w w1:=(((aa w).alloc Qr _).alloc (by simp) _).trans (hb1.mono (by simp <;> omega));have xs1:Blk w1 w.heap.size 94 #[.slice A n c,.int .i64 (p:Nat),.int .i64 x,ae Ln,.slice B1 m1 e1,.slice B2 m2 e2,.slice B3 m3 e3]:=((Blk.new w _ _).alloc _).below hb1 (by simp <;> omega);have xr1:Blk w1 (w.heap.size+1) 94 #[.slice none 0 0,.int .i64 0,.int .i64 0,.string ⟨#[]⟩,.slice none 0 0,.slice none 0 0,.slice none 0 0]:=(ah _ _ _ (by simp)).below hb1 (by simp);clear hb1;obtain ⟨Q1,Q2,Q3⟩:=Q;simp only at HN HIN HY HE hQ1 ⊢;obtain ⟨f0,f1,f2,f3,f4,f5,f6⟩:=xs1.f7;obtain ⟨d0,d1,d2,d3,d4,d5,d6⟩:=xs1.c7;go_upto_region 2 with fail;refine eP ?_;intro w2 hw2;have xs2:Blk w2 w.heap.size 94 #[.slice A n c,.int .i64 (Q1:Nat),.int .i64 Q2,ae Ln,.slice B1 m1 e1,.slice B2 m2 e2,.slice B3 m3 e3]:=by rw [hw2];exact st7 xs1 (.slice A n c) (.int .i64 (Q1:Nat)) (.int .i64 Q2) (ae Ln) (.slice B1 m1 e1) (.slice B2 m2 e2) (.slice B3 m3 e3)
 have xr2:Blk w2 (w.heap.size+1) 94 #[.slice none 0 0,.int .i64 0,.int .i64 0,.string ⟨#[]⟩,.slice none 0 0,.slice none 0 0,.slice none 0 0]:=by rw [hw2];exact dF xr1 (g':=w.heap.size) (by omega) (.slice A n c) (.int .i64 (Q1:Nat)) (.int .i64 Q2) (ae Ln) (.slice B1 m1 e1) (.slice B2 m2 e2) (.slice B3 m3 e3)
 have q2:Below w.heap.size w w2:=by rw [hw2];exact dp q1 Qr (.slice A n c) (.int .i64 (Q1:Nat)) (.int .i64 Q2) (ae Ln) (.slice B1 m1 e1) (.slice B2 m2 e2) (.slice B3 m3 e3)
 clear hw2 xs1 xr1 q1 f0 f1 f2 f3 f4 f5 f6 d0 d1 d2 d3 d4 d5 d6;obtain ⟨d0,d1,d2,d3,d4,d5,d6⟩:=xs2.c7;obtain ⟨f0,f1,f2,f3,f4,f5,f6⟩:=xs2.f7;go_cut [26] (fun v wx=>v=.bool (decide (Q2=0∧0≤only∧Q3≠only))∧w2=wx)
 case first =>
  by_cases hx:Q2=0
  ·subst hx
   by_cases ho:0≤only
   ·have ho1:(0≤only)=True:=eq_true ho
    by_cases hq:Q3=only
    ·have HE9:=Qh (show decide ((0:Int)=0∧0≤only∧Q3≠only)=false from decide_eq_false (fun k=>k.2.2 hq))
     have t1:(Q3 == only)=true:=beq_iff_eq.2 hq;have t2:(Q3 != only)=false:=by unfold bne;rw [t1];rfl
     clear ho hq;go_wp2_with fail;go_meet;exact ⟨by rw [HE9.out],rfl⟩
    have HE9:=Qh (show decide ((0:Int)=0∧0≤only∧Q3≠only)=true from decide_eq_true ⟨rfl,ho,hq⟩);have t1:(Q3 == only)=false:=beq_eq_false_iff_ne.2 hq;have t2:(Q3 != only)=true:=by unfold bne;rw [t1];rfl
    clear ho hq;go_wp2_with fail;go_meet;exact ⟨by rw [HE9.out],rfl⟩
   have ho1:(0≤only)=False:=eq_false ho;have HE9:=Qh (show decide ((0:Int)=0∧0≤only∧Q3≠only)=false from decide_eq_false (fun k=>ho k.2.1));clear ho;go_wp2_with fail;go_meet;exact ⟨by rw [HE9.out],rfl⟩
  have HE9:=Qh (show decide (Q2=0∧0≤only∧Q3≠only)=false from decide_eq_false (fun k=>hx k.1));have t1:(Q2 == 0)=false:=beq_eq_false_iff_ne.2 hx;have t2:(Q2=0)=False:=eq_false hx;clear hx;go_wp2_with fail;go_meet;exact ⟨by rw [HE9.out],rfl⟩
 case rest =>
  obtain ⟨rfl,rfl⟩:=hcut;go_upto_if 26 with fail;go_cut [] (fun wx=>Blk wx w.heap.size 94 #[.slice A n c,.int .i64 (Q1:Nat),.int .i64 y,ae Ln,.slice B1 m1 e1,.slice B2 m2 e2,.slice B3 m3 e3]∧Blk wx (w.heap.size+1) 94 #[.slice none 0 0,.int .i64 0,.int .i64 0,.string ⟨#[]⟩,.slice none 0 0,.slice none 0 0,.slice none 0 0]∧Below w.heap.size w wx)
  case first =>
   by_cases hc:Q2=0∧0≤only∧Q3≠only
   ·rw [decide_eq_true hc]
    have e:y=7:=by rw [← HY.out];exact if_pos hc
    subst e;clear hc;go_wp2_with fail;go_meet;exact ⟨xs2.s72 _,xr2.far (p:=⟨w.heap.size,2,none⟩) (by show w.heap.size+1≠w.heap.size;omega) _,q2.setCell (p:=⟨w.heap.size,2,none⟩) Qr _⟩
   rw [decide_eq_false hc];have e:y=Q2:=by rw [← HY.out];exact if_neg hc
   subst e;clear hc;go_wp2_with fail;go_meet;exact ⟨xs2,xr2,q2⟩
  case rest =>
   obtain ⟨y3,z3,q3⟩:=hcut;rename World=>w3;clear xs2 xr2 q2 d0 d1 d2 d3 d4 d5 d6 f0 f1 f2 f3 f4 f5 f6;obtain ⟨d0,d1,d2,d3,d4,d5,d6⟩:=y3.c7;go_wp2_with fail;(with_reducible refine (de _ A n c l ?_ hn Q1 hQ1 y Ln B1 m1 e1 B2 m2 e2 B3 m3 e3 [46] E HE.out).mono ?_)
   ·exact HK.out.belw q3
   rintro e w4 ⟨rfl,hb4⟩;have q4:=q3.trans (hb4.mono q3.size);have y4:=y3.below hb4 y3.lt;have z4:=z3.below hb4 z3.lt;clear hb4 y3 z3 q3 d0 d1 d2 d3 d4 d5 d6;obtain ⟨E1,E2,E3⟩:=E;simp only at HW HN hE1 ⊢;obtain ⟨f0,f1,f2,f3,f4,f5,f6⟩:=y4.f7;obtain ⟨d0,d1,d2,d3,d4,d5,d6⟩:=y4.c7;go_wp2_with fail;(refine (gn _ A n c l ?_ hn E1 hE1 E2 Ln B1 m1 e1 B2 m2 e2 B3 m3 e3 W HW.out).mono ?_)
   ·exact HK.out.belw (dp q4 Qr (.slice A n c) (.int .i64 (E1:Nat)) (.int .i64 E2) (ae Ln) (.slice B1 m1 e1) (.slice B2 m2 e2) (.slice B3 m3 e3))
   rintro e w5 ⟨rfl,hb5⟩;have q5:=(dp q4 Qr (.slice A n c) (.int .i64 (E1:Nat)) (.int .i64 E2) (ae Ln) (.slice B1 m1 e1) (.slice B2 m2 e2) (.slice B3 m3 e3)).trans (hb5.mono (dp q4 Qr (.slice A n c) (.int .i64 (E1:Nat)) (.int .i64 E2) (ae Ln) (.slice B1 m1 e1) (.slice B2 m2 e2) (.slice B3 m3 e3)).size);have y5:=(st7 y4 (.slice A n c) (.int .i64 (E1:Nat)) (.int .i64 E2) (ae Ln) (.slice B1 m1 e1) (.slice B2 m2 e2) (.slice B3 m3 e3)).below hb5 (st7 y4 (.slice A n c) (.int .i64 (E1:Nat)) (.int .i64 E2) (ae Ln) (.slice B1 m1 e1) (.slice B2 m2 e2) (.slice B3 m3 e3)).lt;have z5:=(dF z4 (g':=w.heap.size) (by omega) (.slice A n c) (.int .i64 (E1:Nat)) (.int .i64 E2) (ae Ln) (.slice B1 m1 e1) (.slice B2 m2 e2) (.slice B3 m3 e3)).below hb5 (dF z4 (g':=w.heap.size) (by omega) (.slice A n c) (.int .i64 (E1:Nat)) (.int .i64 E2) (ae Ln) (.slice B1 m1 e1) (.slice B2 m2 e2) (.slice B3 m3 e3)).lt;clear hb5 y4 z4 q4 f0 f1 f2 f3 f4 f5 f6 d0 d1 d2 d3 d4 d5 d6;obtain ⟨W1,W2,W3⟩:=W;simp only at HN HIN ⊢;obtain ⟨f0,f1,f2,f3,f4,f5,f6⟩:=y5.f7;obtain ⟨d0,d1,d2,d3,d4,d5,d6⟩:=y5.c7;go_upto_region 6 with fail;refine eP ?_;intro w6 hw6;have y6:Blk w6 w.heap.size 94 #[.slice A n c,.int .i64 (W1:Nat),.int .i64 W2,ae Ln,.slice B1 m1 e1,.slice B2 m2 e2,.slice B3 m3 e3]:=by rw [hw6];exact st7 y5 (.slice A n c) (.int .i64 (W1:Nat)) (.int .i64 W2) (ae Ln) (.slice B1 m1 e1) (.slice B2 m2 e2) (.slice B3 m3 e3)
   have z6:Blk w6 (w.heap.size+1) 94 #[.slice none 0 0,.int .i64 0,.int .i64 0,.string ⟨#[]⟩,.slice none 0 0,.slice none 0 0,.slice none 0 0]:=by rw [hw6];exact dF z5 (g':=w.heap.size) (by omega) (.slice A n c) (.int .i64 (W1:Nat)) (.int .i64 W2) (ae Ln) (.slice B1 m1 e1) (.slice B2 m2 e2) (.slice B3 m3 e3)
   have q6:Below w.heap.size w w6:=by rw [hw6];exact dp q5 Qr (.slice A n c) (.int .i64 (W1:Nat)) (.int .i64 W2) (ae Ln) (.slice B1 m1 e1) (.slice B2 m2 e2) (.slice B3 m3 e3)
   clear hw6 y5 z5 q5 f0 f1 f2 f3 f4 f5 f6 d0 d1 d2 d3 d4 d5 d6;have g:=z6.f7;have hN:=HN.out;by_cases hx:W2=0
   ·subst hx
    rw [if_neg (by simp)] at hN;obtain ⟨ib,eb,hib⟩:=HIN.out rfl;subst eb;have hl:bs.length=m1:=HB.out.1;obtain ⟨gq,oq,bd,A',n',c',e,hbi,d1,hM⟩:=RdP.body_at (HB.out.bd q6) (show ib < m1 by omega);subst e
    have hp:tZ bs (ib:Int)=bd.pts:=by
     unfold tZ;rw [Int.toNat_natCast,hbi]
    rw [hp] at hN;have hi1:((ib:Int) < (m1:Int))=True:=by simp;omega
    have hi2:(0:Int)≤(ib:Int):=by omega
    have hn':n'≤100000:=by rw [← hM.1];exact HPT.out bd (List.mem_of_getElem? hbi)
    have HNN:=Qh hN;have HM:=Qh hM;have hmc:=HB.out.2.1;obtain ⟨b0,b1,b2,b3,b4,b5,b6⟩:=y6.c7;clear hN hp hbi hM hl HN;go_upto_region 9 with fail;have HD1:=Qh d1;clear b0 b1 b2 b3 b4 b5 b6 d1 g;go_loopw [9] (fun iv wr=>∃ i:Nat,iv=.int .i64 (i:Nat)∧i≤n'∧Hid (∀ a∈bd.pts.take i,a.name≠W3)∧Below w6.heap.size w6 wr) (fun iv _=>n' - (intOf iv).toNat)
    case atStart=>exact ⟨0,rfl,Nat.zero_le _,Qh (by simp),aa w6⟩
    case round =>
     obtain ⟨i,rfl,hi,HT,hb⟩:=hrel;rename World=>wr;have y7:=y6.below hb y6.lt;have z7:=z6.below hb z6.lt;have q7:=q6.trans (hb.mono q6.size);obtain ⟨b0,b1,b2,b3,b4,b5,b6⟩:=y7.c7;obtain ⟨f0,f1,f2,f3,f4,f5,f6⟩:=y7.f7;obtain ⟨g0,g1,g2,g3,g4,g5,g6⟩:=z7.f7;obtain ⟨h0,h1,h2,h3,h4,h5,h6⟩:=z7.c7;have d1:=aE HD1.out hb;rcases Nat.lt_or_ge i n' with hlt | hge
     ·have hj1:((i:Int) < (n':Int))=True:=by simp;omega
      obtain ⟨gm,om,pm,e,hg,_,hpi,hP⟩:=(HM.out.mk_ hb).at_ hlt;subst e;obtain ⟨k0,_,_,_⟩:=hP;have htl:=az pm.name;have htn:=az W3;have HPI:=Qh hpi;clear hpi;by_cases heq:pm.name=W3
      ·have hf:findM bd.pts W3=some i:=kS (f:=aq.name) HT.out HPI.out heq
       have hN:=HNN.out;rw [hf] at hN;simp only at hN;subst hN;rw [heq] at k0 htl;have hee:(W3 == W3)=true:=by simp
       clear HPI heq hf;go_wp2_with fail;refine bodyPost_ret (v:=.tuple #[.agg #[.slice A n c,.int .i64 (W1:Nat),.int .i64 0,ae Ln,.slice (some ⟨gq,oq,none⟩) m1 e1,.slice B2 m2 e2,.slice B3 m3 e3],.int .i64 (ib:Nat),.int .i64 (i:Nat)]) (by simp [results,Tryz.results120,go_sem, *] <;> trivial) rfl ?_;exact ⟨rfl,dp q7 (by omega) (.slice A n c) (.int .i64 (W1:Nat)) (.int .i64 0) (ae Ln) (.slice (some ⟨gq,oq,none⟩) m1 e1) (.slice B2 m2 e2) (.slice B3 m3 e3)⟩
      have hee:(pm.name == W3)=false:=beq_eq_false_iff_ne.2 heq;have HT2:=Qh (iK (p:=fun a:aq=>a.name≠W3) HT.out HPI.out heq);clear heq HT HPI;go_wp2_with fail;go_roundw
      case rel=>exact ⟨i+1,by go_num,by omega,HT2,hb⟩
      case measure=>simp [intOf];omega
     have hj1:((i:Int) < (n':Int))=False:=by simp;omega
     obtain rfl:i=n':=by omega
     have hl:bd.pts.length=i:=HM.out.1;have hf:findM bd.pts W3=none:=jS (f:=aq.name) fun a ha=>HT.out a (by rw [List.take_of_length_le (by omega)];exact ha)
     have hN:=HNN.out;rw [hf] at hN;simp only at hN;subst hN;clear hf hl HT;go_wp2_with fail;refine bodyPost_ret (v:=.tuple #[.agg #[.slice A n c,.int .i64 (W1:Nat),.int .i64 5,ae Ln,.slice (some ⟨gq,oq,none⟩) m1 e1,.slice B2 m2 e2,.slice B3 m3 e3],.int .i64 0,.int .i64 0]) (by simp [results,Tryz.results120,go_sem, *] <;> trivial) rfl ?_;exact ⟨rfl,dp (q7.setCell (p:=⟨w.heap.size,2,none⟩) Qr _) (by show w.heap.size≤w.heap.size+1;omega) (.slice A n c) (.int .i64 (W1:Nat)) (.int .i64 5) (ae Ln) (.slice (some ⟨gq,oq,none⟩) m1 e1) (.slice B2 m2 e2) (.slice B3 m3 e3)⟩
   have t1:(W2 == 0)=false:=beq_eq_false_iff_ne.2 hx;have t2:(W2=0)=False:=eq_false hx;have t3:(W2 != 0)=true:=by unfold bne;rw [t1];rfl
   rw [if_pos hx] at hN;subst hN;obtain ⟨b0,b1,b2,b3,b4,b5,b6⟩:=y6.c7;obtain ⟨g0,g1,g2,g3,g4,g5,g6⟩:=g;obtain ⟨h0,h1,h2,h3,h4,h5,h6⟩:=z6.c7;clear hx HN HIN;go_wp2_with fail;refine bodyPost_ret (v:=.tuple #[.agg #[.slice A n c,.int .i64 (W1:Nat),.int .i64 W2,ae Ln,.slice B1 m1 e1,.slice B2 m2 e2,.slice B3 m3 e3],.int .i64 0,.int .i64 0]) (by simp [results,Tryz.results120,go_sem, *] <;> trivial) rfl ?_;exact ⟨rfl,dp q6 (by omega) (.slice A n c) (.int .i64 (W1:Nat)) (.int .i64 W2) (ae Ln) (.slice B1 m1 e1) (.slice B2 m2 e2) (.slice B3 m3 e3)⟩
theorem Tch.own {T:TypeId→Bool}{w w' w2:World}(h:Tch T w w') (k:Below w.heap.size w' w2):Tch T w w2 :=
 ⟨Nat.le_trans h.1 k.size,fun g cur t fr x y=>(k.block g (lt_of_block x)).trans (h.2 g cur t fr x y)⟩
structure JnS (tj:TypeId) (W:World) (gs:Nat) (cs cj:Array Value) (w:World):Prop where
  s:Blk w gs 94 cs
  z:Blk w (gs+1) 94 #[.slice none 0 0,.int .i64 0,.int .i64 0,.string ⟨#[]⟩,.slice none 0 0,.slice none 0 0,.slice none 0 0]
  j:Blk w (gs+2) tj cj
  q:Below gs W w
section
variable {tj gs:Nat}{W w w':World}{cs cj:Array Value}{a0 a1 a2 a3 a4 a5 a6:Value}
theorem JnS.call (h:JnS tj W gs cs cj w) (hb:Below w.heap.size w w'):JnS tj W gs cs cj w':=⟨h.s.below hb h.s.lt,h.z.below hb h.z.lt,h.j.below hb h.j.lt,h.q.trans (hb.mono (by have:=h.s.lt;omega))⟩
theorem JnS.st (h:JnS tj W gs #[a0,a1,a2,a3,a4,a5,a6] cj w) (b0 b1 b2 b3 b4 b5 b6:Value):JnS tj W gs #[b0,b1,b2,b3,b4,b5,b6] cj (((((((w.setCell ⟨gs,0,none⟩ b0).setCell ⟨gs,1,none⟩ b1).setCell ⟨gs,2,none⟩ b2).setCell ⟨gs,3,none⟩ b3).setCell ⟨gs,4,none⟩ b4).setCell ⟨gs,5,none⟩ b5).setCell ⟨gs,6,none⟩ b6) :=
 ⟨st7 h.s b0 b1 b2 b3 b4 b5 b6,dF h.z (by omega) b0 b1 b2 b3 b4 b5 b6,dF h.j (by omega) b0 b1 b2 b3 b4 b5 b6,dp h.q Qr b0 b1 b2 b3 b4 b5 b6⟩
theorem JnS.put (h:JnS tj W gs cs cj w) (i:Nat) (u:Value):JnS tj W gs cs (cj.setIfInBounds i u) (w.setCell ⟨gs+2,i,none⟩ u) :=
 ⟨h.s.far (p:=⟨gs+2,i,none⟩) (by show gs≠gs+2;omega) u,h.z.far (p:=⟨gs+2,i,none⟩) (by show gs+1≠gs+2;omega) u,h.j.set_ i u,h.q.setCell (p:=⟨gs+2,i,none⟩) (by show gs≤gs+2;omega) u⟩
end
theorem JtC.any {w:World}{cs:List Value}{j:aN}(h:JtC w cs j) (w':World):JtC w' cs j:=⟨h.1,h.2⟩
theorem DrC.any {w:World}{cs:List Value}{j:bc}(h:DrC w cs j) (w':World):DrC w' cs j:=⟨h.1,h.2⟩
def BF (w:World) (B:Nat) (f:Value→Value) (j:aN) (m:Nat) (l:List aN) (e:Ending) (w':World):Prop :=
  ∃ A c,e=.returned (f (.slice A (m+1) c))∧bi 79 JtC 7 w' B (.slice A (m+1) c) (m+1) (l ++ [j])∧Below B w w'∧Tch (bK 79) w w'
theorem uc {l:List Tkn}(hl:∀ t∈l,NmL t.text) (p:Nat) (x:Int) (bs:List al) (slide:Bool):NmL (bU l p x bs slide).2.2.name:=nM hl p x
theorem qj (w:World) (B:Nat) (hBw:B≤w.heap.size) (A:Option Addr) (n c:Nat) (l:List Tkn) (h:TkS w A n c l) (hn:n≤65536) (htx:∀ t∈l,NmL t.text) (p:Nat) (hp:p≤n) (x:Int) (Ln:List UInt8) (B1:Option Addr) (m1 e1:Nat) (bs:List al) (hb:SlS (fD 500) 2 w B1 m1 e1 bs) (hm:m1≤100000) (hpt:∀ b∈bs,b.pts.length≤100000) (B2:Option Addr) (m2 e2:Nat) (js:List aN) (hj:bi 79 JtC 7 w B (.slice B2 m2 e2) m2 js) (hm2:m2≤100000) (B3:Option Addr) (m3 e3:Nat) (slide:Bool) (z:Int) (hz:z=if slide then 1 else 0) (N:Nat × Int × aN) (hN:bU l p x bs slide=N) :
 Calls Tryz.prog 85 #[.agg #[.slice A n c,.int .i64 (p:Nat),.int .i64 x,ae Ln,.slice B1 m1 e1,.slice B2 m2 e2,.slice B3 m3 e3],.int .i64 z] w (BF w B (fun v=>.agg #[.slice A n c,.int .i64 (N.1:Nat),.int .i64 N.2.1,ae Ln,.slice B1 m1 e1,v,.slice B3 m3 e3]) N.2.2 m2 js):=by
 have hnl:l.length=n:=h.1;obtain ⟨i0,hi0,hz0,hz1,hz2⟩:=info_parts iG;have HI:=Qh (And.intro hi0 (And.intro hz0 (And.intro hz1 hz2)));clear hi0 hz0 hz1 hz2;have HNM:=Qh (show NmL N.2.2.name by rw [← hN];exact uc htx p x bs slide);obtain ⟨W,hW⟩:∃ W,wF l p x=W:=⟨_,rfl⟩;have hW1:W.1≤n:=by rw [← hW,← hnl];exact dH.2.2 (by omega)
 obtain ⟨a,ha⟩:∃ a,fullF l W.1 W.2.1 bs (-1)=a:=⟨_,rfl⟩;have ha1:a.1≤n:=by rw [← ha,← hnl];exact cC.2.2 (by omega)
 obtain ⟨b,hb9⟩:∃ b,fullF l a.1 a.2.1 bs (-1)=b:=⟨_,rfl⟩;have hb1:b.1≤n:=by rw [← hb9,← hnl];exact cC.2.2 (by omega)
 obtain ⟨t,ht⟩:∃ t:Nat × Int × Int × Int,(if slide then fullF l b.1 b.2.1 bs b.2.2.1 else (b.1,b.2.1,0,0))=t:=⟨_,rfl⟩
 have ht1:t.1≤n:=by
  rw [← ht];split
  ·rw [← hnl];exact cC.2.2 (by omega)
  exact hb1
 obtain ⟨E,hE⟩:∃ E,eF l t.1 t.2.1 [59]=E:=⟨_,rfl⟩
 have hNN:N=(E.1,E.2.1,⟨W.2.2,if slide then 1 else 0,a.2.2.1,a.2.2.2,b.2.2.1,b.2.2.2,t.2.2.2⟩):=by
  rw [← hN];unfold bU;simp only [hW,ha,hb9,ht,hE]
 rw [← hz] at hNN;subst hNN;have HK:=Qh h;have HW:=Qh (show takeF l p x (bE l p x 0)=W from hW);have HA:=Qh ha;have HB9:=Qh hb9;have HT:=Qh ht;have HE:=Qh (show takeF l t.1 t.2.1 (aL l t.1 t.2.1 [59])=E from hE);have HB:=Qh hb;have HPT:=Qh hpt;have HJ:=Qh hj;have HZ:=Qh hz;clear hN hW ha hb9 ht hE h hb hpt hj hz;obtain ⟨W1,W2,W3⟩:=W;obtain ⟨a1,a2,a3,a4⟩:=a;obtain ⟨b1,b2,b3,b4⟩:=b;obtain ⟨t1,t2,t3,t4⟩:=t;obtain ⟨E1,E2,E3⟩:=E;simp only at HNM HW HA HB9 HT HE hW1 ha1 hb1 ht1 ⊢;go_in;go_upto_region 2 with fail;refine eP ?_;intro w1 hw1
 have k1:JnS 79 w w.heap.size #[.slice A n c,.int .i64 (p:Nat),.int .i64 x,ae Ln,.slice B1 m1 e1,.slice B2 m2 e2,.slice B3 m3 e3] #[.string ⟨#[]⟩,.int .i64 z,.int .i64 0,.int .i64 0,.int .i64 0,.int .i64 0,.int .i64 0] w1:=by
  rw [hw1];exact ⟨((Blk.new w _ _).alloc _).alloc _,(ah _ _ _ (by simp)).alloc _,ah _ _ _ (by simp),(((aa w).alloc Qr _).alloc (by simp) _).alloc (by simp;omega) _⟩
 clear hw1;obtain ⟨c0,c1,c2,c3,c4,c5,c6⟩:=k1.s.c7;obtain ⟨d0,d1,d2,d3,d4,d5,d6⟩:=k1.j.c7;go_wp2_with fail;(refine (gn _ A n c l ?_ hn p hp x Ln B1 m1 e1 B2 m2 e2 B3 m3 e3 (W1,W2,W3) HW.out).mono ?_)
 ·exact HK.out.belw k1.q
 rintro e w2 ⟨rfl,hb2⟩;replace k1:=k1.call hb2;clear hb2 c0 c1 c2 c3 c4 c5 c6 d0 d1 d2 d3 d4 d5 d6;obtain ⟨c0,c1,c2,c3,c4,c5,c6⟩:=k1.s.c7;obtain ⟨f0,f1,f2,f3,f4,f5,f6⟩:=k1.s.f7;obtain ⟨d0,d1,d2,d3,d4,d5,d6⟩:=k1.j.c7;obtain ⟨g0,g1,g2,g3,g4,g5,g6⟩:=k1.j.f7;go_upto_region 3 with fail;refine eP ?_;intro w3 hw3;replace k1:JnS 79 w w.heap.size #[.slice A n c,.int .i64 (W1:Nat),.int .i64 W2,ae Ln,.slice B1 m1 e1,.slice B2 m2 e2,.slice B3 m3 e3] #[ae W3,.int .i64 z,.int .i64 0,.int .i64 0,.int .i64 0,.int .i64 0,.int .i64 0] w3:=by rw [hw3];exact (k1.st (.slice A n c) (.int .i64 (W1:Nat)) (.int .i64 W2) (ae Ln) (.slice B1 m1 e1) (.slice B2 m2 e2) (.slice B3 m3 e3)).put 0 (ae W3)
 clear hw3;clear c0 c1 c2 c3 c4 c5 c6 d0 d1 d2 d3 d4 d5 d6 f0 f1 f2 f3 f4 f5 f6 g0 g1 g2 g3 g4 g5 g6;have k3:=k1;clear k1;obtain ⟨c0,c1,c2,c3,c4,c5,c6⟩:=k3.s.c7;obtain ⟨d0,d1,d2,d3,d4,d5,d6⟩:=k3.j.c7;go_wp2_with fail;(refine (oM _ A n c l ?_ hn W1 hW1 W2 Ln B1 m1 e1 bs ?_ hm HPT.out B2 m2 e2 B3 m3 e3 (-1) (a1,a2,a3,a4) HA.out).mono ?_)
 ·exact HK.out.belw k3.q
 ·exact HB.out.bd k3.q
 rintro e w4 ⟨rfl,hb4⟩;replace k3:=k3.call hb4;clear hb4 c0 c1 c2 c3 c4 c5 c6 d0 d1 d2 d3 d4 d5 d6;obtain ⟨c0,c1,c2,c3,c4,c5,c6⟩:=k3.s.c7;obtain ⟨f0,f1,f2,f3,f4,f5,f6⟩:=k3.s.f7;obtain ⟨d0,d1,d2,d3,d4,d5,d6⟩:=k3.j.c7;obtain ⟨g0,g1,g2,g3,g4,g5,g6⟩:=k3.j.f7;go_upto_region 4 with fail;refine eP ?_;intro w5 hw5;replace k3:JnS 79 w w.heap.size #[.slice A n c,.int .i64 (a1:Nat),.int .i64 a2,ae Ln,.slice B1 m1 e1,.slice B2 m2 e2,.slice B3 m3 e3] #[ae W3,.int .i64 z,.int .i64 a3,.int .i64 a4,.int .i64 0,.int .i64 0,.int .i64 0] w5:=by rw [hw5];exact ((k3.st (.slice A n c) (.int .i64 (a1:Nat)) (.int .i64 a2) (ae Ln) (.slice B1 m1 e1) (.slice B2 m2 e2) (.slice B3 m3 e3)).put 2 (.int .i64 a3)).put 3 (.int .i64 a4)
 clear hw5;clear c0 c1 c2 c3 c4 c5 c6 d0 d1 d2 d3 d4 d5 d6 f0 f1 f2 f3 f4 f5 f6 g0 g1 g2 g3 g4 g5 g6;have k5:=k3;clear k3;obtain ⟨c0,c1,c2,c3,c4,c5,c6⟩:=k5.s.c7;obtain ⟨d0,d1,d2,d3,d4,d5,d6⟩:=k5.j.c7;go_wp2_with fail;(refine (oM _ A n c l ?_ hn a1 ha1 a2 Ln B1 m1 e1 bs ?_ hm HPT.out B2 m2 e2 B3 m3 e3 (-1) (b1,b2,b3,b4) HB9.out).mono ?_)
 ·exact HK.out.belw k5.q
 ·exact HB.out.bd k5.q
 rintro e w6 ⟨rfl,hb6⟩;replace k5:=k5.call hb6;clear hb6 c0 c1 c2 c3 c4 c5 c6 d0 d1 d2 d3 d4 d5 d6;obtain ⟨c0,c1,c2,c3,c4,c5,c6⟩:=k5.s.c7;obtain ⟨f0,f1,f2,f3,f4,f5,f6⟩:=k5.s.f7;obtain ⟨d0,d1,d2,d3,d4,d5,d6⟩:=k5.j.c7;obtain ⟨g0,g1,g2,g3,g4,g5,g6⟩:=k5.j.f7;go_upto_region 5 with fail;refine eP ?_;intro w7 hw7;replace k5:JnS 79 w w.heap.size #[.slice A n c,.int .i64 (b1:Nat),.int .i64 b2,ae Ln,.slice B1 m1 e1,.slice B2 m2 e2,.slice B3 m3 e3] #[ae W3,.int .i64 z,.int .i64 a3,.int .i64 a4,.int .i64 b3,.int .i64 b4,.int .i64 0] w7:=by rw [hw7];exact ((k5.st (.slice A n c) (.int .i64 (b1:Nat)) (.int .i64 b2) (ae Ln) (.slice B1 m1 e1) (.slice B2 m2 e2) (.slice B3 m3 e3)).put 4 (.int .i64 b3)).put 5 (.int .i64 b4)
 clear hw7;clear c0 c1 c2 c3 c4 c5 c6 d0 d1 d2 d3 d4 d5 d6 f0 f1 f2 f3 f4 f5 f6 g0 g1 g2 g3 g4 g5 g6;have k7:=k5;clear k5;go_upto_if 31 with fail;go_cut [] (fun wx=>JnS 79 w w.heap.size #[.slice A n c,.int .i64 (t1:Nat),.int .i64 t2,ae Ln,.slice B1 m1 e1,.slice B2 m2 e2,.slice B3 m3 e3] #[ae W3,.int .i64 z,.int .i64 a3,.int .i64 a4,.int .i64 b3,.int .i64 b4,.int .i64 t4] wx)
 case first =>
  cases slide
  ·obtain rfl:z=0:=HZ.out
   have hT:=HT.out;simp only [Bool.false_eq_true,if_false,Prod.mk.injEq] at hT;obtain ⟨rfl,rfl,rfl,rfl⟩:=hT;go_wp2_with fail;go_meet;exact k7
  obtain rfl:z=1:=HZ.out;have hT:=HT.out;simp only [if_true] at hT;have HT2:=Qh hT;clear hT;obtain ⟨c0,c1,c2,c3,c4,c5,c6⟩:=k7.s.c7;obtain ⟨d0,d1,d2,d3,d4,d5,d6⟩:=k7.j.c7;go_wp2_with fail;(refine (oM _ A n c l ?_ hn b1 hb1 b2 Ln B1 m1 e1 bs ?_ hm HPT.out B2 m2 e2 B3 m3 e3 b3 (t1,t2,t3,t4) HT2.out).mono ?_)
  ·exact HK.out.belw k7.q
  ·exact HB.out.bd k7.q
  rintro e w8 ⟨rfl,hb8⟩;replace k7:=k7.call hb8;clear hb8 c0 c1 c2 c3 c4 c5 c6 d0 d1 d2 d3 d4 d5 d6;obtain ⟨c0,c1,c2,c3,c4,c5,c6⟩:=k7.s.c7;obtain ⟨f0,f1,f2,f3,f4,f5,f6⟩:=k7.s.f7;obtain ⟨d0,d1,d2,d3,d4,d5,d6⟩:=k7.j.c7;obtain ⟨g0,g1,g2,g3,g4,g5,g6⟩:=k7.j.f7;go_wp2_with fail;go_meet;exact (k7.st (.slice A n c) (.int .i64 (t1:Nat)) (.int .i64 t2) (ae Ln) (.slice B1 m1 e1) (.slice B2 m2 e2) (.slice B3 m3 e3)).put 6 (.int .i64 t4)
 case rest =>
  rename World=>w9;have k9:JnS 79 w w.heap.size #[.slice A n c,.int .i64 (t1:Nat),.int .i64 t2,ae Ln,.slice B1 m1 e1,.slice B2 m2 e2,.slice B3 m3 e3] #[ae W3,.int .i64 z,.int .i64 a3,.int .i64 a4,.int .i64 b3,.int .i64 b4,.int .i64 t4] w9:=hcut;clear hcut k7;obtain ⟨c0,c1,c2,c3,c4,c5,c6⟩:=k9.s.c7;obtain ⟨d0,d1,d2,d3,d4,d5,d6⟩:=k9.j.c7;go_wp2_with fail;(refine (de _ A n c l ?_ hn t1 ht1 t2 Ln B1 m1 e1 B2 m2 e2 B3 m3 e3 [59] (E1,E2,E3) HE.out).mono ?_)
  ·exact HK.out.belw k9.q
  rintro e w10 ⟨rfl,hb10⟩;replace k9:=k9.call hb10;clear hb10 c0 c1 c2 c3 c4 c5 c6 d0 d1 d2 d3 d4 d5 d6;obtain ⟨c0,c1,c2,c3,c4,c5,c6⟩:=k9.s.c7;obtain ⟨f0,f1,f2,f3,f4,f5,f6⟩:=k9.s.f7;obtain ⟨d0,d1,d2,d3,d4,d5,d6⟩:=k9.j.c7;obtain ⟨g0,g1,g2,g3,g4,g5,g6⟩:=k9.j.f7;go_upto_region 8 with fail;refine eP ?_;intro w11 hw11;replace k9:JnS 79 w w.heap.size #[.slice A n c,.int .i64 (E1:Nat),.int .i64 E2,ae Ln,.slice B1 m1 e1,.slice B2 m2 e2,.slice B3 m3 e3] #[ae W3,.int .i64 z,.int .i64 a3,.int .i64 a4,.int .i64 b3,.int .i64 b4,.int .i64 t4] w11:=by rw [hw11];exact k9.st (.slice A n c) (.int .i64 (E1:Nat)) (.int .i64 E2) (ae Ln) (.slice B1 m1 e1) (.slice B2 m2 e2) (.slice B3 m3 e3)
  clear hw11;clear c0 c1 c2 c3 c4 c5 c6 d0 d1 d2 d3 d4 d5 d6 f0 f1 f2 f3 f4 f5 f6 g0 g1 g2 g3 g4 g5 g6;have k11:=k9;clear k9;have t11:Tch (bK 79) w w11:=Tch.below k11.q;have hj:=HJ.out.tch (T:=fun _=>false) (Tch.below k11.q) rfl (fun _ _ x=>x);obtain ⟨hjl,xs,hown,hrow⟩:=hj;have HO:=Qh hown;have HWR:=Qh hrow;have hq11:=k11.q.size;have hs11:=k11.s.lt;have hz11:=k11.z.lt;have hj11:=k11.j.lt;have hne1:¬ w.heap.size=w11.heap.size:=by omega
  have hne2:¬ w.heap.size+2=w11.heap.size:=by omega
  have K11:=Qh k11;obtain ⟨c0,c1,c2,c3,c4,c5,c6⟩:=k11.s.c7;obtain ⟨f0,f1,f2,f3,f4,f5,f6⟩:=k11.s.f7;obtain ⟨d0,d1,d2,d3,d4,d5,d6⟩:=k11.j.c7;obtain ⟨g0,g1,g2,g3,g4,g5,g6⟩:=k11.z.c7;obtain ⟨h0,h1,h2,h3,h4,h5,h6⟩:=k11.z.f7;clear hown hrow k11;go_wp2_with (at_builtin;(refine ce _ rfl noW _ _ _ rfl B 79 i0 (.agg #[.string ⟨#[]⟩,.int .i64 0,.int .i64 0,.int .i64 0,.int .i64 0,.int .i64 0,.int .i64 0]) 7 64 Tryz.underlying33 HI.out.1 HI.out.2.1 HI.out.2.2.1 HI.out.2.2.2 rfl (by omega) rfl _ m2 xs rfl (HO.out.belw ((Below.refl _ _).alloc Qr _)) ⟨w11.heap.size,0,none⟩ 1 1 [_,_,_,_,_,_,_] rfl rfl (kY rfl _ _) (by simp [Value.oneCell']) rfl (by omega) (by unfold maxLen;omega) (by omega) (by simp;omega) ?_);intro gx cap w12 hown12 hgrow hat;have s12:=(K11.out.s.alloc (.cells #[ae W3,.int .i64 z,.int .i64 a3,.int .i64 a4,.int .i64 b3,.int .i64 b4,.int .i64 t4] 79)).grown hgrow (fE HO.out K11.out.s (by decide));have z12:=(K11.out.z.alloc (.cells #[ae W3,.int .i64 z,.int .i64 a3,.int .i64 a4,.int .i64 b3,.int .i64 b4,.int .i64 t4] 79)).grown hgrow (fE HO.out K11.out.z (by decide));obtain ⟨cs0,cs1,cs2,cs3,cs4,cs5,cs6⟩:=s12.c7;obtain ⟨fs0,fs1,fs2,fs3,fs4,fs5,fs6⟩:=s12.f7;obtain ⟨cz0,cz1,cz2,cz3,cz4,cz5,cz6⟩:=z12.c7;obtain ⟨fz0,fz1,fz2,fz3,fz4,fz5,fz6⟩:=z12.f7);have hpu:=fh hjl HO.out HWR.out (show JtC w11 [ae W3,.int .i64 z,.int .i64 a3,.int .i64 a4,.int .i64 b3,.int .i64 b4,.int .i64 t4] ⟨W3,z,a3,a4,b3,b4,t4⟩ from ⟨rfl,HNM.out⟩) rfl hown12 hgrow (by omega) (fun _ _ _ _ h=>h);obtain ⟨hr,ht12,hb12⟩:=hpu;refine bodyPost_ret (v:=.agg #[.slice A n c,.int .i64 (E1:Nat),.int .i64 E2,ae Ln,.slice B1 m1 e1,.slice (some ⟨gx,0,none⟩) (m2+1) cap,.slice B3 m3 e3]) (by simp [results,Tryz.results85,go_sem, *] <;> trivial) rfl ?_;clear cs0 cs1 cs2 cs3 cs4 cs5 cs6 fs0 fs1 fs2 fs3 fs4 fs5 fs6 cz0 cz1 cz2 cz3 cz4 cz5 cz6 fz0 fz1 fz2 fz3 fz4 fz5 fz6 c0 c1 c2 c3 c4 c5 c6 f0 f1 f2 f3 f4 f5 f6 d0 d1 d2 d3 d4 d5 d6 g0 g1 g2 g3 g4 g5 g6 h0 h1 h2 h3 h4 h5 h6;have z13:=z12.far (p:=⟨w.heap.size,5,none⟩) (by show w.heap.size+1≠w.heap.size;omega) (.slice (some ⟨gx,0,none⟩) (m2+1) cap);have te:=(Tch.set s12 (T:=bK 94) (by simp [bK]) rfl 5 (.slice (some ⟨gx,0,none⟩) (m2+1) cap)).trans (fi z13 (by simp [bK]) rfl (.slice A n c) (.int .i64 (E1:Nat)) (.int .i64 E2) (.string ⟨Ln.toArray⟩) (.slice B1 m1 e1) (.slice (some ⟨gx,0,none⟩) (m2+1) cap) (.slice B3 m3 e3));have be:Below w.heap.size w12 _:=dp ((Below.refl w.heap.size w12).setCell (p:=⟨w.heap.size,5,none⟩) Qr (.slice (some ⟨gx,0,none⟩) (m2+1) cap)) (show w.heap.size≤w.heap.size+1 by omega) (.slice A n c) (.int .i64 (E1:Nat)) (.int .i64 E2) (.string ⟨Ln.toArray⟩) (.slice B1 m1 e1) (.slice (some ⟨gx,0,none⟩) (m2+1) cap) (.slice B3 m3 e3);exact ⟨_,_,rfl,hr.tch te (by decide) (fun _ _ x=>x.any _),((K11.out.q.mono hBw).trans hb12).trans (be.mono hBw),(t11.trans ht12).own be⟩
structure SzS (W:World) (gs:Nat) (cs:Array Value) (w:World):Prop where
  s:Blk w gs 94 cs
  z:Blk w (gs+1) 94 #[.slice none 0 0,.int .i64 0,.int .i64 0,.string ⟨#[]⟩,.slice none 0 0,.slice none 0 0,.slice none 0 0]
  q:Below gs W w
section
variable {gs:Nat}{W w w':World}{cs:Array Value}{a0 a1 a2 a3 a4 a5 a6:Value}
theorem SzS.call (h:SzS W gs cs w) (hb:Below w.heap.size w w'):SzS W gs cs w':=⟨h.s.below hb h.s.lt,h.z.below hb h.z.lt,h.q.trans (hb.mono (by have:=h.s.lt;omega))⟩
theorem SzS.alloc (h:SzS W gs cs w) (ob:Obj):SzS W gs cs (w.alloc ob):=h.call ((aa w).alloc Qr ob)
theorem SzS.st (h:SzS W gs #[a0,a1,a2,a3,a4,a5,a6] w) (b0 b1 b2 b3 b4 b5 b6:Value):SzS W gs #[b0,b1,b2,b3,b4,b5,b6] (((((((w.setCell ⟨gs,0,none⟩ b0).setCell ⟨gs,1,none⟩ b1).setCell ⟨gs,2,none⟩ b2).setCell ⟨gs,3,none⟩ b3).setCell ⟨gs,4,none⟩ b4).setCell ⟨gs,5,none⟩ b5).setCell ⟨gs,6,none⟩ b6) :=
 ⟨st7 h.s b0 b1 b2 b3 b4 b5 b6,dF h.z (by omega) b0 b1 b2 b3 b4 b5 b6,dp h.q Qr b0 b1 b2 b3 b4 b5 b6⟩
theorem SzS.far (h:SzS W gs cs w) {g:Nat}(hg:gs+2≤g) (i:Nat) (u:Value):SzS W gs cs (w.setCell ⟨g,i,none⟩ u) :=
 ⟨h.s.far (p:=⟨g,i,none⟩) (by show gs≠g;omega) u,h.z.far (p:=⟨g,i,none⟩) (by show gs+1≠g;omega) u,h.q.setCell (p:=⟨g,i,none⟩) (by show gs≤g;omega) u⟩
end
def TI:TypeId→Bool:=fun t=>t == 62 || t == 79 || t == 81
structure RfL (B:Nat) (w:World) (A1:Option Addr) (n1 c1:Nat) (A2:Option Addr) (n2 c2:Nat) (A3:Option Addr) (n3 c3:Nat) (L:ao):Prop where
  bd:bi 62 (BdC 500) 2 w B (.slice A1 n1 c1) n1 L.bodies
  jt:bi 79 JtC 7 w B (.slice A2 n2 c2) n2 L.joints
  dr:bi 81 DrC 2 w B (.slice A3 n3 c3) n3 L.drivers
  pts:∀ b∈L.bodies,b.pts.length≤100000
theorem RfL.tch {T:TypeId→Bool}{B:Nat}{w w':World}{A1 A2 A3:Option Addr}{n1 c1 n2 c2 n3 c3:Nat}{L:ao}(h:RfL B w A1 n1 c1 A2 n2 c2 A3 n3 c3 L) (t:Tch T w w') (h1:T 62=false) (h2:T 79=false) (h3:T 81=false) (h4:T 67=false):RfL B w' A1 n1 c1 A2 n2 c2 A3 n3 c3 L :=
 ⟨h.bd.tch t h1 fun _ _ x=>x.tch t h4,h.jt.tch t h2 fun _ _ x=>x.any _,h.dr.tch t h3 fun _ _ x=>x.any _,h.pts⟩
def Bd (w:World) (B:Nat) (f:Value→Value→Value→Value) (m:Nat) (L:ao) (e:Ending) (w':World):Prop :=
  ∃ A1 n1 c1 A2 n2 c2 A3 n3 c3,e=.returned (f (.slice A1 n1 c1) (.slice A2 n2 c2) (.slice A3 n3 c3))∧RfL B w' A1 n1 c1 A2 n2 c2 A3 n3 c3 L∧n1+n2+n3≤m+1∧Below B w w'∧Tch TI w w'
theorem mg {l:List Tkn}:∀ (f p:Nat) (x:Int) (a:List aq),(cB l f p x a).2.2.length≤a.length+f
 | 0,p,x,a=>Qr
 | f+1,p,x,a=>by
  by_cases h:x=0∧aL l p x [125]=false
  ·rw [dc (by omega) h]
   have:=mg (l:=l) (f+1 - 1) (mkF l p x).1 (mkF l p x).2.1 (a ++ [(mkF l p x).2.2]);rw [List.length_append,List.length_singleton] at this;omega
  rw [bO h];show a.length≤_;omega
theorem ud {l:List Tkn}(hl:l.length≤65536) (p:Nat) (x:Int):(dv l p x).2.2.pts.length≤100000:=by
 have h:(dv l p x).2.2.pts.length≤([]:List aq).length+(l.length+1):=mg _ _ _ _;simp only [List.length_nil] at h;omega
theorem wH {l:List Tkn}(hl:∀ t∈l,NmL t.text) (p:Nat) (x:Int):NmL (dv l p x).2.2.name:=nM hl p x
theorem jX {T:TypeId→Bool}{w w':World}{g t:Nat}{cs:Array Value}(x:Blk w g t cs) (h:Tch T w w') (hT:T t=false):Blk w' g t cs:=h.2 g _ _ _ x (.inl hT)
theorem yj (w:World) (B:Nat) (hBw:B≤w.heap.size) (A:Option Addr) (n c:Nat) (l:List Tkn) (h:TkS w A n c l) (hn:n≤65536) (htx:∀ t∈l,NmL t.text) (p:Nat) (hp:p≤n) (x:Int) (Ln:List UInt8) (B1:Option Addr) (m1 e1:Nat) (B2:Option Addr) (m2 e2:Nat) (B3:Option Addr) (m3 e3:Nat) (L:ao) (hL:RfL B w B1 m1 e1 B2 m2 e2 B3 m3 e3 L) (hm:m1+m2+m3≤70000) (N:Nat × Int × ao) (hN:cS l p x L=N) :
 Calls Tryz.prog 46 #[.agg #[.slice A n c,.int .i64 (p:Nat),.int .i64 x,ae Ln,.slice B1 m1 e1,.slice B2 m2 e2,.slice B3 m3 e3]] w (Bd w B (fun v1 v2 v3=>.agg #[.slice A n c,.int .i64 (N.1:Nat),.int .i64 N.2.1,ae Ln,v1,v2,v3]) (m1+m2+m3) N.2.2):=by
 have hnl:l.length=n:=h.1;obtain ⟨T,hT⟩:∃ T,takeF l p x (fG l p x)=T:=⟨_,rfl⟩;have hT1:T.1≤n:=by rw [← hT,← hnl];exact bT (by omega)
 unfold cS at hN;simp only [hT] at hN;have HK:=Qh h;have HT:=Qh hT;have HN:=Qh hN;have HL:=Qh hL;clear h hT hN hL;obtain ⟨T1,T2,T3⟩:=T;simp only at HN hT1;obtain ⟨may,hmay⟩:∃ may,fG l p x=may:=⟨_,rfl⟩;rw [hmay] at HT;have HMAY:=Qh hmay;clear hmay;go_in;go_upto_region 1 with fail;refine eP ?_;intro w1 hw1;have k1:SzS w w.heap.size #[.slice A n c,.int .i64 (p:Nat),.int .i64 x,ae Ln,.slice B1 m1 e1,.slice B2 m2 e2,.slice B3 m3 e3] w1:=by rw [hw1];exact ⟨(Blk.new w _ _).alloc _,ah _ _ _ (by simp),((aa w).alloc Qr _).alloc (by simp) _⟩
 clear hw1;go_cut [3] (fun v wx=>v=.bool may∧SzS w w.heap.size #[.slice A n c,.int .i64 (p:Nat),.int .i64 x,ae Ln,.slice B1 m1 e1,.slice B2 m2 e2,.slice B3 m3 e3] wx)
 case first =>
  obtain ⟨v0,hv0⟩:∃ v,aL l p x [98,111,100,121]=v:=⟨_,rfl⟩;have HV0:=Qh hv0;clear hv0;obtain ⟨c0,c1,c2,c3,c4,c5,c6⟩:=k1.s.c7;go_wp2_with fail;(refine (iP _ A n c l ?_ hn p hp x Ln B1 m1 e1 B2 m2 e2 B3 m3 e3 [98,111,100,121] v0 HV0.out).mono ?_)
  ·exact HK.out.belw k1.q
  rintro e w2 ⟨rfl,hb2⟩;have k2:=k1.call hb2;clear hb2 c0 c1 c2 c3 c4 c5 c6;cases v0;rotate_left
  ·obtain rfl:may=true:=by rw [← HMAY.out];unfold fG;rw [show aL l p x cY=true from HV0.out];rfl
   go_wp2_with fail;go_meet;exact ⟨rfl,k2⟩
  obtain ⟨v1,hv1⟩:∃ v,aL l p x [112,105,110]=v:=⟨_,rfl⟩;have HV1:=Qh hv1;clear hv1;obtain ⟨c0,c1,c2,c3,c4,c5,c6⟩:=k2.s.c7;go_wp2_with fail;(refine (iP _ A n c l ?_ hn p hp x Ln B1 m1 e1 B2 m2 e2 B3 m3 e3 [112,105,110] v1 HV1.out).mono ?_)
  ·exact HK.out.belw k2.q
  rintro e w3 ⟨rfl,hb3⟩;have k3:=k2.call hb3;clear hb3 c0 c1 c2 c3 c4 c5 c6;cases v1;rotate_left
  ·obtain rfl:may=true:=by rw [← HMAY.out];unfold fG;rw [show aL l p x cY=false from HV0.out,show aL l p x gh=true from HV1.out];rfl
   go_wp2_with fail;go_meet;exact ⟨rfl,k3⟩
  obtain ⟨v2,hv2⟩:∃ v,aL l p x [115,108,105,100,101]=v:=⟨_,rfl⟩;have HV2:=Qh hv2;clear hv2;obtain ⟨c0,c1,c2,c3,c4,c5,c6⟩:=k3.s.c7;go_wp2_with fail;(refine (iP _ A n c l ?_ hn p hp x Ln B1 m1 e1 B2 m2 e2 B3 m3 e3 [115,108,105,100,101] v2 HV2.out).mono ?_)
  ·exact HK.out.belw k3.q
  rintro e w4 ⟨rfl,hb4⟩;have k4:=k3.call hb4;clear hb4 c0 c1 c2 c3 c4 c5 c6;cases v2;rotate_left
  ·obtain rfl:may=true:=by rw [← HMAY.out];unfold fG;rw [show aL l p x cY=false from HV0.out,show aL l p x gh=false from HV1.out,show aL l p x cZ=true from HV2.out];rfl
   go_wp2_with fail;go_meet;exact ⟨rfl,k4⟩
  obtain ⟨v3,hv3⟩:∃ v,aL l p x [100,114,105,118,101,114]=v:=⟨_,rfl⟩;have HV3:=Qh hv3;clear hv3;obtain ⟨c0,c1,c2,c3,c4,c5,c6⟩:=k4.s.c7;go_wp2_with fail;(refine (iP _ A n c l ?_ hn p hp x Ln B1 m1 e1 B2 m2 e2 B3 m3 e3 [100,114,105,118,101,114] v3 HV3.out).mono ?_)
  ·exact HK.out.belw k4.q
  rintro e w5 ⟨rfl,hb5⟩;have k5:=k4.call hb5;clear hb5 c0 c1 c2 c3 c4 c5 c6;cases v3
  ·obtain rfl:may=false:=by rw [← HMAY.out];unfold fG;rw [show aL l p x cY=false from HV0.out,show aL l p x gh=false from HV1.out,show aL l p x cZ=false from HV2.out,show aL l p x cI=false from HV3.out];rfl
   go_wp2_with fail;go_meet;exact ⟨rfl,k5⟩
  obtain rfl:may=true:=by rw [← HMAY.out];unfold fG;rw [show aL l p x cY=false from HV0.out,show aL l p x gh=false from HV1.out,show aL l p x cZ=false from HV2.out,show aL l p x cI=true from HV3.out];rfl
  go_wp2_with fail;go_meet;exact ⟨rfl,k5⟩
 case rest =>
  obtain ⟨rfl,k6⟩:=hcut;rename World=>w6;clear k1;obtain ⟨c0,c1,c2,c3,c4,c5,c6⟩:=k6.s.c7;obtain ⟨f0,f1,f2,f3,f4,f5,f6⟩:=k6.s.f7;go_wp2_with fail;(refine (kW _ A n c l ?_ hn p hp x Ln B1 m1 e1 B2 m2 e2 B3 m3 e3 may).mono ?_)
  ·exact HK.out.belw k6.q
  rintro e w7 ⟨he,hb7⟩;rw [HT.out] at he;simp only at he;subst he;have k7:=k6.call hb7;clear hb7 c0 c1 c2 c3 c4 c5 c6 f0 f1 f2 f3 f4 f5 f6 k6;obtain ⟨c0,c1,c2,c3,c4,c5,c6⟩:=k7.s.c7;obtain ⟨f0,f1,f2,f3,f4,f5,f6⟩:=k7.s.f7;go_upto_region 3 with fail;refine eP ?_;intro w8 hw8;have k8:SzS w w.heap.size #[.slice A n c,.int .i64 (T1:Nat),.int .i64 T2,ae Ln,.slice B1 m1 e1,.slice B2 m2 e2,.slice B3 m3 e3] w8:=by rw [hw8];exact k7.st (.slice A n c) (.int .i64 (T1:Nat)) (.int .i64 T2) (ae Ln) (.slice B1 m1 e1) (.slice B2 m2 e2) (.slice B3 m3 e3)
  clear hw8;clear c0 c1 c2 c3 c4 c5 c6 f0 f1 f2 f3 f4 f5 f6;clear k7;have htl:=az T3;have hgs8:=k8.s.lt;have hgz8:=k8.z.lt;by_cases e0:T3=cY;rotate_left;by_cases e1:T3=gh;rotate_left;by_cases e2:T3=cZ;rotate_left;by_cases e3:T3=cI;rotate_left
  ·have hN:=HN.out
   rw [if_neg e0,if_neg e1,if_neg e2,if_neg e3] at hN;subst hN;have t0:(T3 == [98,111,100,121])=false:=beq_eq_false_iff_ne.2 e0;have t1:(T3 == [112,105,110])=false:=beq_eq_false_iff_ne.2 e1;have t2:(T3 == [115,108,105,100,101])=false:=beq_eq_false_iff_ne.2 e2;have t3:(T3 == [100,114,105,118,101,114])=false:=beq_eq_false_iff_ne.2 e3;have ks:=k8.s;have kz:=k8.z;clear e0 e1 e2 e3 HN HT HMAY;obtain ⟨c0,c1,c2,c3,c4,c5,c6⟩:=ks.c7;obtain ⟨d0,d1,d2,d3,d4,d5,d6⟩:=kz.c7;obtain ⟨g0,g1,g2,g3,g4,g5,g6⟩:=kz.f7;go_wp2_with fail;refine bodyPost_ret (v:=.agg #[.slice A n c,.int .i64 (T1:Nat),.int .i64 T2,ae Ln,.slice B1 m1 e1,.slice B2 m2 e2,.slice B3 m3 e3]) (by simp [results,Tryz.results46,go_sem, *] <;> trivial) rfl ?_;clear c0 c1 c2 c3 c4 c5 c6 d0 d1 d2 d3 d4 d5 d6 g0 g1 g2 g3 g4 g5 g6;have te:Tch (bK 94) w8 _:=fi kz (by simp [bK]) rfl (.slice A n c) (.int .i64 (T1:Nat)) (.int .i64 T2) (.string ⟨Ln.toArray⟩) (.slice B1 m1 e1) (.slice B2 m2 e2) (.slice B3 m3 e3);have be:Below w.heap.size w8 _:=dp (Below.refl w.heap.size w8) (show w.heap.size≤w.heap.size+1 by omega) (.slice A n c) (.int .i64 (T1:Nat)) (.int .i64 T2) (.string ⟨Ln.toArray⟩) (.slice B1 m1 e1) (.slice B2 m2 e2) (.slice B3 m3 e3);exact ⟨_,_,_,_,_,_,_,_,_,rfl,(HL.out.tch (T:=fun _=>false) (Tch.below k8.q) rfl rfl rfl rfl).tch te (by decide) (by decide) (by decide) (by decide),Nat.le_succ _,(k8.q.mono hBw).trans (be.mono hBw),(Tch.below k8.q).own be⟩
  ·have hN:=HN.out
   rw [if_pos e0] at hN;have t0:(T3 == [98,111,100,121])=true:=by rw [e0];decide
   have t1:(T3 == [112,105,110])=false:=by rw [e0];decide
   have t2:(T3 == [115,108,105,100,101])=false:=by rw [e0];decide
   have t3:(T3 == [100,114,105,118,101,114])=false:=by rw [e0];decide
   obtain ⟨Nb,hNb⟩:∃ Nb,dv l T1 T2=Nb:=⟨_,rfl⟩;have hNm:NmL Nb.2.2.name:=by rw [← hNb];exact wH htx _ _
   have hPt:Nb.2.2.pts.length≤100000:=by rw [← hNb];exact ud (by omega) _ _
   rw [hNb] at hN;subst hN;have HNb:=Qh hNb;clear hNb e0 HN HT HMAY;go_upto_region 6 with fail;refine eP ?_;intro w9 hw9;have k9:SzS w w.heap.size #[.slice A n c,.int .i64 (T1:Nat),.int .i64 T2,ae Ln,.slice B1 m1 e1,.slice B2 m2 e2,.slice B3 m3 e3] w9:=by rw [hw9];exact k8.alloc _
   have j9:Blk w9 w8.heap.size 62 #[.string ⟨#[]⟩,.slice none 0 0]:=by rw [hw9];exact Blk.new w8 _ _
   clear hw9 k8;obtain ⟨c0,c1,c2,c3,c4,c5,c6⟩:=k9.s.c7;go_wp2_with fail;(refine (yg _ A n c l ?_ hn T1 hT1 T2 Ln B1 m1 e1 B2 m2 e2 B3 m3 e3 htx Nb HNb.out).mono ?_)
   ·exact HK.out.belw k9.q
   rintro e w10 ⟨Ab,nb,cb,rfl,hM,_,hb10⟩;have k10:=k9.call hb10;have j10:=j9.below hb10 j9.lt;clear hb10 c0 c1 c2 c3 c4 c5 c6 k9 j9;obtain ⟨c0,c1,c2,c3,c4,c5,c6⟩:=k10.s.c7;obtain ⟨f0,f1,f2,f3,f4,f5,f6⟩:=k10.s.f7;obtain ⟨d0,d1⟩:=j10.c2;obtain ⟨g0,g1⟩:=j10.f2;go_upto_region 7 with fail;refine eP ?_;intro w11 hw11;have k11:SzS w w.heap.size #[.slice A n c,.int .i64 (Nb.1:Nat),.int .i64 Nb.2.1,ae Ln,.slice B1 m1 e1,.slice B2 m2 e2,.slice B3 m3 e3] w11:=by rw [hw11];exact ((k10.st (.slice A n c) (.int .i64 (Nb.1:Nat)) (.int .i64 Nb.2.1) (ae Ln) (.slice B1 m1 e1) (.slice B2 m2 e2) (.slice B3 m3 e3)).far (by omega) 0 (ae Nb.2.2.name)).far (by omega) 1 (.slice Ab nb cb)
   have kj:Blk w11 w8.heap.size 62 #[ae Nb.2.2.name,.slice Ab nb cb]:=by rw [hw11];exact ((dF j10 (g':=w.heap.size) (by omega) (.slice A n c) (.int .i64 (Nb.1:Nat)) (.int .i64 Nb.2.1) (ae Ln) (.slice B1 m1 e1) (.slice B2 m2 e2) (.slice B3 m3 e3)).set_ 0 (ae Nb.2.2.name)).set_ 1 (.slice Ab nb cb)
   have hM11:km 500 w11 Ab nb cb Nb.2.2.pts:=by
    rw [hw11];exact hM.tch (((fi (T:=fun t=>t == 94 || t == 62) k10.s (by simp) rfl (.slice A n c) (.int .i64 (Nb.1:Nat)) (.int .i64 Nb.2.1) (ae Ln) (.slice B1 m1 e1) (.slice B2 m2 e2) (.slice B3 m3 e3))).trans ((AX (dF j10 (g':=w.heap.size) (by omega) (.slice A n c) (.int .i64 (Nb.1:Nat)) (.int .i64 Nb.2.1) (ae Ln) (.slice B1 m1 e1) (.slice B2 m2 e2) (.slice B3 m3 e3)) ⟨rfl,rfl⟩ (ae Nb.2.2.name) (.slice Ab nb cb)).mono fun t ht=>by simp [bK] at ht;simp [ht])) (by decide)
   clear hw11 c0 c1 c2 c3 c4 c5 c6 f0 f1 f2 f3 f4 f5 f6 d0 d1 g0 g1 k10 j10 hM;have hL11:=HL.out.tch (T:=fun _=>false) (Tch.below k11.q) rfl rfl rfl rfl;have H11:=Qh hL11;have ks:=k11.s;have kz:=k11.z;have kb:=k11.q;have HM11:=Qh hM11;clear hL11 k11 hM11;have hq11:=kb.size;obtain ⟨hjl,xs,hown,hrow⟩:=H11.out.bd;have HO:=Qh hown;have HWR:=Qh hrow;have KS:=Qh ks;have KZ:=Qh kz;have hgs9:=ks.lt;have hgz9:=kz.lt;have hne1:¬ w.heap.size=w11.heap.size:=by omega
   have hne2:¬ w8.heap.size=w11.heap.size:=by have:=kj.lt;omega
   obtain ⟨c0,c1,c2,c3,c4,c5,c6⟩:=ks.c7;obtain ⟨f0,f1,f2,f3,f4,f5,f6⟩:=ks.f7;obtain ⟨d0,d1⟩:=kj.c2;obtain ⟨i0,hi0,hz0,hz1,hz2⟩:=info_parts iE;have HI:=Qh (And.intro hi0 (And.intro hz0 (And.intro hz1 hz2)));clear hown hrow ks kz hi0 hz0 hz1 hz2;go_upto_region 18 with (at_builtin;(refine ce _ rfl noW _ _ _ rfl B 62 i0 (.agg #[.string ⟨#[]⟩,.slice none 0 0]) 2 40 Tryz.underlying32 HI.out.1 HI.out.2.1 HI.out.2.2.1 HI.out.2.2.2 rfl (by omega) rfl _ m1 xs rfl (HO.out.belw ((Below.refl _ _).alloc Qr _)) ⟨w11.heap.size,0,none⟩ 1 1 [_,_] rfl rfl (kY rfl _ _) (by simp [Value.oneCell']) rfl (by omega) (by unfold maxLen;omega) (by omega) (by simp;omega) ?_);intro gx cap w50 hown12 hgrow hat;have s12:=(KS.out.alloc (.cells #[ae Nb.2.2.name,.slice Ab nb cb] 62)).grown hgrow (fE HO.out KS.out (by decide));have z12:=(KZ.out.alloc (.cells #[ae Nb.2.2.name,.slice Ab nb cb] 62)).grown hgrow (fE HO.out KZ.out (by decide));obtain ⟨cs0,cs1,cs2,cs3,cs4,cs5,cs6⟩:=s12.c7;obtain ⟨fs0,fs1,fs2,fs3,fs4,fs5,fs6⟩:=s12.f7);have hpu:=fh hjl HO.out HWR.out (show BdC 500 w11 [ae Nb.2.2.name,.slice Ab nb cb] Nb.2.2 from ⟨Ab,nb,cb,rfl,HM11.out,hNm⟩) rfl hown12 hgrow (by omega) (fun _ _ _ ht x=>x.tch ht (by decide));obtain ⟨hr,ht12,hb12⟩:=hpu;have VS:∃ vs:Value,vs=.slice (some ⟨gx,0,none⟩) (m1+1) cap:=⟨_,rfl⟩;refine eP ?_;intro w51 hw51;have ks:Blk w51 w.heap.size 94 #[.slice A n c,.int .i64 (Nb.1:Nat),.int .i64 Nb.2.1,ae Ln,.slice (some ⟨gx,0,none⟩) (m1+1) cap,.slice B2 m2 e2,.slice B3 m3 e3]:=by rw [hw51];exact s12.s74 _
   have kz:Blk w51 (w.heap.size+1) 94 #[.slice none 0 0,.int .i64 0,.int .i64 0,.string ⟨#[]⟩,.slice none 0 0,.slice none 0 0,.slice none 0 0]:=by rw [hw51];exact z12.far (p:=⟨w.heap.size,4,none⟩) (by show w.heap.size+1≠w.heap.size;omega) _
   have be0:Below w.heap.size w50 w51:=by rw [hw51];exact (Below.refl w.heap.size w50).setCell (p:=⟨w.heap.size,4,none⟩) Qr _
   have te0:Tch (bK 94) w50 w51:=by rw [hw51];exact Tch.set s12 (by simp [bK]) rfl 4 _
   have hl9:RfL B w51 (some ⟨gx,0,none⟩) (m1+1) cap B2 m2 e2 B3 m3 e3 (L.addB Nb.2.2):=by
    have h1:=hr.tch te0 (by decide) fun _ _ x=>x.tch te0 (by decide)
    have h2:=(H11.out.jt.tch ht12 (by decide) fun _ _ x=>x.any _).tch te0 (by decide) fun _ _ x=>x.any _
    have h3:=(H11.out.dr.tch ht12 (by decide) fun _ _ x=>x.any _).tch te0 (by decide) fun _ _ x=>x.any _
    refine ⟨h1,h2,h3,fun b hb=>?_⟩;rcases List.mem_append.1 hb with hb | hb
    ·exact H11.out.pts b hb
    rw [List.mem_singleton.1 hb];exact hPt
   have hb10:Below B w w51:=((kb.mono hBw).trans hb12).trans (be0.mono hBw);have ht10:Tch TI w w51:=((Tch.below (T:=TI) kb).trans (ht12.mono fun t ht=>by simp [bK] at ht;simp [TI,ht])).own be0;clear hw51 c0 c1 c2 c3 c4 c5 c6 f0 f1 f2 f3 f4 f5 f6 d0 d1 cs0 cs1 cs2 cs3 cs4 cs5 cs6 fs0 fs1 fs2 fs3 fs4 fs5 fs6 hr ht12 hb12 s12 z12 be0 te0 hown12 hgrow hat;obtain ⟨c0,c1,c2,c3,c4,c5,c6⟩:=ks.c7;obtain ⟨d0,d1,d2,d3,d4,d5,d6⟩:=kz.c7;obtain ⟨g0,g1,g2,g3,g4,g5,g6⟩:=kz.f7;go_wp2_with fail;refine bodyPost_ret (v:=.agg #[.slice A n c,.int .i64 (Nb.1:Nat),.int .i64 Nb.2.1,ae Ln,.slice (some ⟨gx,0,none⟩) (m1+1) cap,.slice B2 m2 e2,.slice B3 m3 e3]) (by simp [results,Tryz.results46,go_sem, *] <;> trivial) rfl ?_;clear c0 c1 c2 c3 c4 c5 c6 d0 d1 d2 d3 d4 d5 d6 g0 g1 g2 g3 g4 g5 g6;have te:Tch (bK 94) w51 _:=fi kz (by simp [bK]) rfl (.slice A n c) (.int .i64 (Nb.1:Nat)) (.int .i64 Nb.2.1) (.string ⟨Ln.toArray⟩) (.slice (some ⟨gx,0,none⟩) (m1+1) cap) (.slice B2 m2 e2) (.slice B3 m3 e3);have be:Below w.heap.size w51 _:=dp (Below.refl w.heap.size w51) (show w.heap.size≤w.heap.size+1 by omega) (.slice A n c) (.int .i64 (Nb.1:Nat)) (.int .i64 Nb.2.1) (.string ⟨Ln.toArray⟩) (.slice (some ⟨gx,0,none⟩) (m1+1) cap) (.slice B2 m2 e2) (.slice B3 m3 e3);exact ⟨_,_,_,_,_,_,_,_,_,rfl,(hl9).tch te (by decide) (by decide) (by decide) (by decide),by omega,(hb10).trans (be.mono hBw),(ht10).own be⟩
  ·have hN:=HN.out
   rw [if_neg e0,if_pos e1] at hN;have t0:(T3 == [98,111,100,121])=false:=by rw [e1];decide
   have t1:(T3 == [112,105,110])=true:=by rw [e1];decide
   have t2:(T3 == [115,108,105,100,101])=false:=by rw [e1];decide
   have t3:(T3 == [100,114,105,118,101,114])=false:=by rw [e1];decide
   obtain ⟨J,hJ⟩:∃ J,bU l T1 T2 L.bodies false=J:=⟨_,rfl⟩;rw [hJ] at hN;subst hN;have HJ:=Qh hJ;clear hJ e0 e1 HN HT HMAY;obtain ⟨c0,c1,c2,c3,c4,c5,c6⟩:=k8.s.c7;have hl8:=HL.out.tch (T:=fun _=>false) (Tch.below k8.q) rfl rfl rfl rfl;have H8:=Qh hl8;clear hl8;go_wp2_with fail;(refine (qj _ B ?_ A n c l ?_ hn htx T1 hT1 T2 Ln B1 m1 e1 L.bodies H8.out.bd.bds (by omega) H8.out.pts B2 m2 e2 L.joints H8.out.jt (by omega) B3 m3 e3 false 0 rfl J HJ.out).mono ?_)
   ·omega
   ·exact HK.out.belw k8.q
   rintro e w9 ⟨Aj,cj,rfl,hr,hb9,ht9⟩;have s9:=jX k8.s ht9 (by decide);have z9:=jX k8.z ht9 (by decide);clear c0 c1 c2 c3 c4 c5 c6;obtain ⟨c0,c1,c2,c3,c4,c5,c6⟩:=s9.c7;obtain ⟨f0,f1,f2,f3,f4,f5,f6⟩:=s9.f7;go_upto_region 18 with fail;refine eP ?_;intro w10 hw10;have ks:Blk w10 w.heap.size 94 #[.slice A n c,.int .i64 (J.1:Nat),.int .i64 J.2.1,ae Ln,.slice B1 m1 e1,.slice Aj (m2+1) cj,.slice B3 m3 e3]:=by rw [hw10];exact st7 s9 (.slice A n c) (.int .i64 (J.1:Nat)) (.int .i64 J.2.1) (ae Ln) (.slice B1 m1 e1) (.slice Aj (m2+1) cj) (.slice B3 m3 e3)
   have kz:Blk w10 (w.heap.size+1) 94 #[.slice none 0 0,.int .i64 0,.int .i64 0,.string ⟨#[]⟩,.slice none 0 0,.slice none 0 0,.slice none 0 0]:=by rw [hw10];exact dF z9 (g':=w.heap.size) (by omega) (.slice A n c) (.int .i64 (J.1:Nat)) (.int .i64 J.2.1) (ae Ln) (.slice B1 m1 e1) (.slice Aj (m2+1) cj) (.slice B3 m3 e3)
   have be0:Below w.heap.size w9 w10:=by rw [hw10];exact dp (Below.refl w.heap.size w9) Qr (.slice A n c) (.int .i64 (J.1:Nat)) (.int .i64 J.2.1) (ae Ln) (.slice B1 m1 e1) (.slice Aj (m2+1) cj) (.slice B3 m3 e3)
   have te0:Tch (bK 94) w9 w10:=by rw [hw10];exact fi s9 (by simp [bK]) rfl (.slice A n c) (.int .i64 (J.1:Nat)) (.int .i64 J.2.1) (ae Ln) (.slice B1 m1 e1) (.slice Aj (m2+1) cj) (.slice B3 m3 e3)
   have hl9:RfL B w10 B1 m1 e1 Aj (m2+1) cj B3 m3 e3 (L.addJ J.2.2):=by
    have h1:=(H8.out.bd.tch ht9 (by decide) fun _ _ x=>x.tch ht9 (by decide)).tch te0 (by decide) fun _ _ x=>x.tch te0 (by decide)
    have h2:=hr.tch te0 (by decide) fun _ _ x=>x.any _
    have h3:=(H8.out.dr.tch ht9 (by decide) fun _ _ x=>x.any _).tch te0 (by decide) fun _ _ x=>x.any _
    exact ⟨h1,h2,h3,H8.out.pts⟩
   have hb10:Below B w w10:=((k8.q.mono hBw).trans hb9).trans (be0.mono hBw);have ht10:Tch TI w w10:=((Tch.below (T:=TI) k8.q).trans (ht9.mono fun t ht=>by simp [bK] at ht;simp [TI,ht])).own be0;clear hw10 c0 c1 c2 c3 c4 c5 c6 f0 f1 f2 f3 f4 f5 f6 hr hb9 ht9 s9 z9 be0 te0 k8 hgs8 hgz8;obtain ⟨c0,c1,c2,c3,c4,c5,c6⟩:=ks.c7;obtain ⟨d0,d1,d2,d3,d4,d5,d6⟩:=kz.c7;obtain ⟨g0,g1,g2,g3,g4,g5,g6⟩:=kz.f7;go_wp2_with fail;refine bodyPost_ret (v:=.agg #[.slice A n c,.int .i64 (J.1:Nat),.int .i64 J.2.1,ae Ln,.slice B1 m1 e1,.slice Aj (m2+1) cj,.slice B3 m3 e3]) (by simp [results,Tryz.results46,go_sem, *] <;> trivial) rfl ?_;clear c0 c1 c2 c3 c4 c5 c6 d0 d1 d2 d3 d4 d5 d6 g0 g1 g2 g3 g4 g5 g6;have te:Tch (bK 94) w10 _:=fi kz (by simp [bK]) rfl (.slice A n c) (.int .i64 (J.1:Nat)) (.int .i64 J.2.1) (.string ⟨Ln.toArray⟩) (.slice B1 m1 e1) (.slice Aj (m2+1) cj) (.slice B3 m3 e3);have be:Below w.heap.size w10 _:=dp (Below.refl w.heap.size w10) (show w.heap.size≤w.heap.size+1 by omega) (.slice A n c) (.int .i64 (J.1:Nat)) (.int .i64 J.2.1) (.string ⟨Ln.toArray⟩) (.slice B1 m1 e1) (.slice Aj (m2+1) cj) (.slice B3 m3 e3);exact ⟨_,_,_,_,_,_,_,_,_,rfl,(hl9).tch te (by decide) (by decide) (by decide) (by decide),by omega,(hb10).trans (be.mono hBw),(ht10).own be⟩
  ·have hN:=HN.out
   rw [if_neg e0,if_neg e1,if_pos e2] at hN;have t0:(T3 == [98,111,100,121])=false:=by rw [e2];decide
   have t1:(T3 == [112,105,110])=false:=by rw [e2];decide
   have t2:(T3 == [115,108,105,100,101])=true:=by rw [e2];decide
   have t3:(T3 == [100,114,105,118,101,114])=false:=by rw [e2];decide
   obtain ⟨J,hJ⟩:∃ J,bU l T1 T2 L.bodies true=J:=⟨_,rfl⟩;rw [hJ] at hN;subst hN;have HJ:=Qh hJ;clear hJ e0 e1 e2 HN HT HMAY;obtain ⟨c0,c1,c2,c3,c4,c5,c6⟩:=k8.s.c7;have hl8:=HL.out.tch (T:=fun _=>false) (Tch.below k8.q) rfl rfl rfl rfl;have H8:=Qh hl8;clear hl8;go_wp2_with fail;(refine (qj _ B ?_ A n c l ?_ hn htx T1 hT1 T2 Ln B1 m1 e1 L.bodies H8.out.bd.bds (by omega) H8.out.pts B2 m2 e2 L.joints H8.out.jt (by omega) B3 m3 e3 true 1 rfl J HJ.out).mono ?_)
   ·omega
   ·exact HK.out.belw k8.q
   rintro e w9 ⟨Aj,cj,rfl,hr,hb9,ht9⟩;have s9:=jX k8.s ht9 (by decide);have z9:=jX k8.z ht9 (by decide);clear c0 c1 c2 c3 c4 c5 c6;obtain ⟨c0,c1,c2,c3,c4,c5,c6⟩:=s9.c7;obtain ⟨f0,f1,f2,f3,f4,f5,f6⟩:=s9.f7;go_upto_region 18 with fail;refine eP ?_;intro w10 hw10;have ks:Blk w10 w.heap.size 94 #[.slice A n c,.int .i64 (J.1:Nat),.int .i64 J.2.1,ae Ln,.slice B1 m1 e1,.slice Aj (m2+1) cj,.slice B3 m3 e3]:=by rw [hw10];exact st7 s9 (.slice A n c) (.int .i64 (J.1:Nat)) (.int .i64 J.2.1) (ae Ln) (.slice B1 m1 e1) (.slice Aj (m2+1) cj) (.slice B3 m3 e3)
   have kz:Blk w10 (w.heap.size+1) 94 #[.slice none 0 0,.int .i64 0,.int .i64 0,.string ⟨#[]⟩,.slice none 0 0,.slice none 0 0,.slice none 0 0]:=by rw [hw10];exact dF z9 (g':=w.heap.size) (by omega) (.slice A n c) (.int .i64 (J.1:Nat)) (.int .i64 J.2.1) (ae Ln) (.slice B1 m1 e1) (.slice Aj (m2+1) cj) (.slice B3 m3 e3)
   have be0:Below w.heap.size w9 w10:=by rw [hw10];exact dp (Below.refl w.heap.size w9) Qr (.slice A n c) (.int .i64 (J.1:Nat)) (.int .i64 J.2.1) (ae Ln) (.slice B1 m1 e1) (.slice Aj (m2+1) cj) (.slice B3 m3 e3)
   have te0:Tch (bK 94) w9 w10:=by rw [hw10];exact fi s9 (by simp [bK]) rfl (.slice A n c) (.int .i64 (J.1:Nat)) (.int .i64 J.2.1) (ae Ln) (.slice B1 m1 e1) (.slice Aj (m2+1) cj) (.slice B3 m3 e3)
   have hl9:RfL B w10 B1 m1 e1 Aj (m2+1) cj B3 m3 e3 (L.addJ J.2.2):=by
    have h1:=(H8.out.bd.tch ht9 (by decide) fun _ _ x=>x.tch ht9 (by decide)).tch te0 (by decide) fun _ _ x=>x.tch te0 (by decide)
    have h2:=hr.tch te0 (by decide) fun _ _ x=>x.any _
    have h3:=(H8.out.dr.tch ht9 (by decide) fun _ _ x=>x.any _).tch te0 (by decide) fun _ _ x=>x.any _
    exact ⟨h1,h2,h3,H8.out.pts⟩
   have hb10:Below B w w10:=((k8.q.mono hBw).trans hb9).trans (be0.mono hBw);have ht10:Tch TI w w10:=((Tch.below (T:=TI) k8.q).trans (ht9.mono fun t ht=>by simp [bK] at ht;simp [TI,ht])).own be0;clear hw10 c0 c1 c2 c3 c4 c5 c6 f0 f1 f2 f3 f4 f5 f6 hr hb9 ht9 s9 z9 be0 te0 k8 hgs8 hgz8;obtain ⟨c0,c1,c2,c3,c4,c5,c6⟩:=ks.c7;obtain ⟨d0,d1,d2,d3,d4,d5,d6⟩:=kz.c7;obtain ⟨g0,g1,g2,g3,g4,g5,g6⟩:=kz.f7;go_wp2_with fail;refine bodyPost_ret (v:=.agg #[.slice A n c,.int .i64 (J.1:Nat),.int .i64 J.2.1,ae Ln,.slice B1 m1 e1,.slice Aj (m2+1) cj,.slice B3 m3 e3]) (by simp [results,Tryz.results46,go_sem, *] <;> trivial) rfl ?_;clear c0 c1 c2 c3 c4 c5 c6 d0 d1 d2 d3 d4 d5 d6 g0 g1 g2 g3 g4 g5 g6;have te:Tch (bK 94) w10 _:=fi kz (by simp [bK]) rfl (.slice A n c) (.int .i64 (J.1:Nat)) (.int .i64 J.2.1) (.string ⟨Ln.toArray⟩) (.slice B1 m1 e1) (.slice Aj (m2+1) cj) (.slice B3 m3 e3);have be:Below w.heap.size w10 _:=dp (Below.refl w.heap.size w10) (show w.heap.size≤w.heap.size+1 by omega) (.slice A n c) (.int .i64 (J.1:Nat)) (.int .i64 J.2.1) (.string ⟨Ln.toArray⟩) (.slice B1 m1 e1) (.slice Aj (m2+1) cj) (.slice B3 m3 e3);exact ⟨_,_,_,_,_,_,_,_,_,rfl,(hl9).tch te (by decide) (by decide) (by decide) (by decide),by omega,(hb10).trans (be.mono hBw),(ht10).own be⟩
  have hN:=HN.out;rw [if_neg e0,if_neg e1,if_neg e2,if_pos e3] at hN;have t0:(T3 == [98,111,100,121])=false:=by rw [e3];decide
  have t1:(T3 == [112,105,110])=false:=by rw [e3];decide
  have t2:(T3 == [115,108,105,100,101])=false:=by rw [e3];decide
  have t3:(T3 == [100,114,105,118,101,114])=true:=by rw [e3];decide
  obtain ⟨W,hW⟩:∃ W,wF l T1 T2=W:=⟨_,rfl⟩;have hW1:W.1≤n:=by rw [← hW,← hnl];exact dH.2.2 (by omega)
  have hNm:NmL W.2.2:=by rw [← hW];exact nM htx _ _
  obtain ⟨Q,hQ⟩:∃ Q,namedF l W.1 W.2.1 L.bodies=Q:=⟨_,rfl⟩;have hQ1:Q.1≤n:=by rw [← hQ,← hnl];exact dQ.2.2 (by omega)
  obtain ⟨E,hE⟩:∃ E,eF l Q.1 Q.2.1 [59]=E:=⟨_,rfl⟩
  have hNN:N=(E.1,E.2.1,L.addD ⟨W.2.2,Q.2.2⟩):=by
   rw [← hN];unfold df;simp only [hW,hQ,hE]
  subst hNN;have HW:=Qh (show takeF l T1 T2 (bE l T1 T2 0)=W from hW);have HQ:=Qh hQ;have HE:=Qh (show takeF l Q.1 Q.2.1 (aL l Q.1 Q.2.1 [59])=E from hE);clear hW hQ hE hN e0 e1 e2 e3 HN HT HMAY;obtain ⟨W1,W2,W3⟩:=W;obtain ⟨Q1,Q2,Q3⟩:=Q;obtain ⟨E1,E2,E3⟩:=E;simp only at HW HQ HE hW1 hQ1 hNm ⊢;go_upto_region 14 with fail;refine eP ?_;intro w9 hw9;have k9:SzS w w.heap.size #[.slice A n c,.int .i64 (T1:Nat),.int .i64 T2,ae Ln,.slice B1 m1 e1,.slice B2 m2 e2,.slice B3 m3 e3] w9:=by rw [hw9];exact k8.alloc _
  have j9:Blk w9 w8.heap.size 81 #[.string ⟨#[]⟩,.int .i64 0]:=by rw [hw9];exact Blk.new w8 _ _
  clear hw9 k8;obtain ⟨c0,c1,c2,c3,c4,c5,c6⟩:=k9.s.c7;go_wp2_with fail;(refine (gn _ A n c l ?_ hn T1 hT1 T2 Ln B1 m1 e1 B2 m2 e2 B3 m3 e3 (W1,W2,W3) HW.out).mono ?_)
  ·exact HK.out.belw k9.q
  rintro e w10 ⟨rfl,hb10⟩;have k10:=k9.call hb10;have j10:=j9.below hb10 j9.lt;clear hb10 c0 c1 c2 c3 c4 c5 c6 k9 j9;obtain ⟨c0,c1,c2,c3,c4,c5,c6⟩:=k10.s.c7;obtain ⟨f0,f1,f2,f3,f4,f5,f6⟩:=k10.s.f7;obtain ⟨d0,d1⟩:=j10.c2;obtain ⟨g0,g1⟩:=j10.f2;go_upto_region 15 with fail;refine eP ?_;intro w11 hw11;have k11:SzS w w.heap.size #[.slice A n c,.int .i64 (W1:Nat),.int .i64 W2,ae Ln,.slice B1 m1 e1,.slice B2 m2 e2,.slice B3 m3 e3] w11:=by rw [hw11];exact (k10.st (.slice A n c) (.int .i64 (W1:Nat)) (.int .i64 W2) (ae Ln) (.slice B1 m1 e1) (.slice B2 m2 e2) (.slice B3 m3 e3)).far (by omega) 0 (ae W3)
  have j11:Blk w11 w8.heap.size 81 #[ae W3,.int .i64 0]:=by rw [hw11];exact (dF j10 (g':=w.heap.size) (by omega) (.slice A n c) (.int .i64 (W1:Nat)) (.int .i64 W2) (ae Ln) (.slice B1 m1 e1) (.slice B2 m2 e2) (.slice B3 m3 e3)).set_ 0 (ae W3)
  clear hw11 c0 c1 c2 c3 c4 c5 c6 f0 f1 f2 f3 f4 f5 f6 d0 d1 g0 g1 k10 j10;obtain ⟨c0,c1,c2,c3,c4,c5,c6⟩:=k11.s.c7;go_wp2_with fail;(refine (qi _ A n c l ?_ hn W1 hW1 W2 Ln B1 m1 e1 L.bodies ?_ (by omega) B2 m2 e2 B3 m3 e3 (Q1,Q2,Q3) HQ.out).mono ?_)
  ·exact HK.out.belw k11.q
  ·exact (HL.out.tch (T:=fun _=>false) (Tch.below k11.q) rfl rfl rfl rfl).bd.bds
  rintro e w12 ⟨rfl,hb12⟩;have k12:=k11.call hb12;have j12:=j11.below hb12 j11.lt;clear hb12 c0 c1 c2 c3 c4 c5 c6 k11 j11;obtain ⟨c0,c1,c2,c3,c4,c5,c6⟩:=k12.s.c7;obtain ⟨f0,f1,f2,f3,f4,f5,f6⟩:=k12.s.f7;obtain ⟨d0,d1⟩:=j12.c2;obtain ⟨g0,g1⟩:=j12.f2;go_upto_region 16 with fail;refine eP ?_;intro w13 hw13;have k13:SzS w w.heap.size #[.slice A n c,.int .i64 (Q1:Nat),.int .i64 Q2,ae Ln,.slice B1 m1 e1,.slice B2 m2 e2,.slice B3 m3 e3] w13:=by rw [hw13];exact (k12.st (.slice A n c) (.int .i64 (Q1:Nat)) (.int .i64 Q2) (ae Ln) (.slice B1 m1 e1) (.slice B2 m2 e2) (.slice B3 m3 e3)).far (by omega) 1 (.int .i64 Q3)
  have j13:Blk w13 w8.heap.size 81 #[ae W3,.int .i64 Q3]:=by rw [hw13];exact (dF j12 (g':=w.heap.size) (by omega) (.slice A n c) (.int .i64 (Q1:Nat)) (.int .i64 Q2) (ae Ln) (.slice B1 m1 e1) (.slice B2 m2 e2) (.slice B3 m3 e3)).set_ 1 (.int .i64 Q3)
  clear hw13 c0 c1 c2 c3 c4 c5 c6 f0 f1 f2 f3 f4 f5 f6 d0 d1 g0 g1 k12 j12;obtain ⟨c0,c1,c2,c3,c4,c5,c6⟩:=k13.s.c7;go_wp2_with fail;(refine (de _ A n c l ?_ hn Q1 hQ1 Q2 Ln B1 m1 e1 B2 m2 e2 B3 m3 e3 [59] (E1,E2,E3) HE.out).mono ?_)
  ·exact HK.out.belw k13.q
  rintro e w14 ⟨rfl,hb14⟩;have k14:=k13.call hb14;have j14:=j13.below hb14 j13.lt;clear hb14 c0 c1 c2 c3 c4 c5 c6 k13 j13;obtain ⟨c0,c1,c2,c3,c4,c5,c6⟩:=k14.s.c7;obtain ⟨f0,f1,f2,f3,f4,f5,f6⟩:=k14.s.f7;obtain ⟨d0,d1⟩:=j14.c2;obtain ⟨g0,g1⟩:=j14.f2;go_upto_region 17 with fail;refine eP ?_;intro w15 hw15;have k15:SzS w w.heap.size #[.slice A n c,.int .i64 (E1:Nat),.int .i64 E2,ae Ln,.slice B1 m1 e1,.slice B2 m2 e2,.slice B3 m3 e3] w15:=by rw [hw15];exact k14.st (.slice A n c) (.int .i64 (E1:Nat)) (.int .i64 E2) (ae Ln) (.slice B1 m1 e1) (.slice B2 m2 e2) (.slice B3 m3 e3)
  have j15:Blk w15 w8.heap.size 81 #[ae W3,.int .i64 Q3]:=by rw [hw15];exact dF j14 (g':=w.heap.size) (by omega) (.slice A n c) (.int .i64 (E1:Nat)) (.int .i64 E2) (ae Ln) (.slice B1 m1 e1) (.slice B2 m2 e2) (.slice B3 m3 e3)
  clear hw15 c0 c1 c2 c3 c4 c5 c6 f0 f1 f2 f3 f4 f5 f6 d0 d1 g0 g1 k14 j14;have hL15:=HL.out.tch (T:=fun _=>false) (Tch.below k15.q) rfl rfl rfl rfl;have H15:=Qh hL15;have ks:=k15.s;have kz:=k15.z;have kb:=k15.q;have kj:=j15;clear hL15 k15 j15;have hq15:=kb.size;obtain ⟨hjl,xs,hown,hrow⟩:=H15.out.dr;have HO:=Qh hown;have HWR:=Qh hrow;have KS:=Qh ks;have KZ:=Qh kz;have hgs9:=ks.lt;have hgz9:=kz.lt;have hne1:¬ w.heap.size=w15.heap.size:=by omega
  have hne2:¬ w8.heap.size=w15.heap.size:=by have:=kj.lt;omega
  obtain ⟨c0,c1,c2,c3,c4,c5,c6⟩:=ks.c7;obtain ⟨f0,f1,f2,f3,f4,f5,f6⟩:=ks.f7;obtain ⟨d0,d1⟩:=kj.c2;obtain ⟨i0,hi0,hz0,hz1,hz2⟩:=info_parts iI;have HI:=Qh (And.intro hi0 (And.intro hz0 (And.intro hz1 hz2)));clear hown hrow ks kz hi0 hz0 hz1 hz2;go_upto_region 18 with (at_builtin;(refine ce _ rfl noW _ _ _ rfl B 81 i0 (.agg #[.string ⟨#[]⟩,.int .i64 0]) 2 24 Tryz.underlying34 HI.out.1 HI.out.2.1 HI.out.2.2.1 HI.out.2.2.2 rfl (by omega) rfl _ m3 xs rfl (HO.out.belw ((Below.refl _ _).alloc Qr _)) ⟨w15.heap.size,0,none⟩ 1 1 [_,_] rfl rfl (kY rfl _ _) (by simp [Value.oneCell']) rfl (by omega) (by unfold maxLen;omega) (by omega) (by simp;omega) ?_);intro gx cap w50 hown12 hgrow hat;have s12:=(KS.out.alloc (.cells #[ae W3,.int .i64 Q3] 81)).grown hgrow (fE HO.out KS.out (by decide));have z12:=(KZ.out.alloc (.cells #[ae W3,.int .i64 Q3] 81)).grown hgrow (fE HO.out KZ.out (by decide));obtain ⟨cs0,cs1,cs2,cs3,cs4,cs5,cs6⟩:=s12.c7;obtain ⟨fs0,fs1,fs2,fs3,fs4,fs5,fs6⟩:=s12.f7);have hpu:=fh hjl HO.out HWR.out (show DrC w15 [ae W3,.int .i64 Q3] ⟨W3,Q3⟩ from ⟨rfl,hNm⟩) rfl hown12 hgrow (by omega) (fun _ _ _ _ x=>x.any _);obtain ⟨hr,ht12,hb12⟩:=hpu;have VS:∃ vs:Value,vs=.slice (some ⟨gx,0,none⟩) (m3+1) cap:=⟨_,rfl⟩;refine eP ?_;intro w51 hw51;have ks:Blk w51 w.heap.size 94 #[.slice A n c,.int .i64 (E1:Nat),.int .i64 E2,ae Ln,.slice B1 m1 e1,.slice B2 m2 e2,.slice (some ⟨gx,0,none⟩) (m3+1) cap]:=by rw [hw51];exact s12.s76 _
  have kz:Blk w51 (w.heap.size+1) 94 #[.slice none 0 0,.int .i64 0,.int .i64 0,.string ⟨#[]⟩,.slice none 0 0,.slice none 0 0,.slice none 0 0]:=by rw [hw51];exact z12.far (p:=⟨w.heap.size,6,none⟩) (by show w.heap.size+1≠w.heap.size;omega) _
  have be0:Below w.heap.size w50 w51:=by rw [hw51];exact (Below.refl w.heap.size w50).setCell (p:=⟨w.heap.size,6,none⟩) Qr _
  have te0:Tch (bK 94) w50 w51:=by rw [hw51];exact Tch.set s12 (by simp [bK]) rfl 6 _
  have hl9:RfL B w51 B1 m1 e1 B2 m2 e2 (some ⟨gx,0,none⟩) (m3+1) cap (L.addD ⟨W3,Q3⟩):=by
   have h1:=(H15.out.bd.tch ht12 (by decide) fun _ _ x=>x.tch ht12 (by decide)).tch te0 (by decide) fun _ _ x=>x.tch te0 (by decide)
   have h2:=(H15.out.jt.tch ht12 (by decide) fun _ _ x=>x.any _).tch te0 (by decide) fun _ _ x=>x.any _
   have h3:=hr.tch te0 (by decide) fun _ _ x=>x.any _
   exact ⟨h1,h2,h3,H15.out.pts⟩
  have hb10:Below B w w51:=((kb.mono hBw).trans hb12).trans (be0.mono hBw);have ht10:Tch TI w w51:=((Tch.below (T:=TI) kb).trans (ht12.mono fun t ht=>by simp [bK] at ht;simp [TI,ht])).own be0;clear hw51 c0 c1 c2 c3 c4 c5 c6 f0 f1 f2 f3 f4 f5 f6 d0 d1 cs0 cs1 cs2 cs3 cs4 cs5 cs6 fs0 fs1 fs2 fs3 fs4 fs5 fs6 hr ht12 hb12 s12 z12 be0 te0 hown12 hgrow hat;obtain ⟨c0,c1,c2,c3,c4,c5,c6⟩:=ks.c7;obtain ⟨d0,d1,d2,d3,d4,d5,d6⟩:=kz.c7;obtain ⟨g0,g1,g2,g3,g4,g5,g6⟩:=kz.f7;go_wp2_with fail;refine bodyPost_ret (v:=.agg #[.slice A n c,.int .i64 (E1:Nat),.int .i64 E2,ae Ln,.slice B1 m1 e1,.slice B2 m2 e2,.slice (some ⟨gx,0,none⟩) (m3+1) cap]) (by simp [results,Tryz.results46,go_sem, *] <;> trivial) rfl ?_;clear c0 c1 c2 c3 c4 c5 c6 d0 d1 d2 d3 d4 d5 d6 g0 g1 g2 g3 g4 g5 g6;have te:Tch (bK 94) w51 _:=fi kz (by simp [bK]) rfl (.slice A n c) (.int .i64 (E1:Nat)) (.int .i64 E2) (.string ⟨Ln.toArray⟩) (.slice B1 m1 e1) (.slice B2 m2 e2) (.slice (some ⟨gx,0,none⟩) (m3+1) cap);have be:Below w.heap.size w51 _:=dp (Below.refl w.heap.size w51) (show w.heap.size≤w.heap.size+1 by omega) (.slice A n c) (.int .i64 (E1:Nat)) (.int .i64 E2) (.string ⟨Ln.toArray⟩) (.slice B1 m1 e1) (.slice B2 m2 e2) (.slice (some ⟨gx,0,none⟩) (m3+1) cap);exact ⟨_,_,_,_,_,_,_,_,_,rfl,(hl9).tch te (by decide) (by decide) (by decide) (by decide),by omega,(hb10).trans (be.mono hBw),(ht10).own be⟩
def LkY (k:Nat) (w:World) (A:Option Addr) (n c:Nat) (B:Option Addr) (p d:Nat) (C:Option Addr) (q e:Nat) (L:ao):Prop :=
  ∀ (T:TypeId→Bool) (w2:World),Tch T w w2→T 62=false→T 79=false→T 81=false→T 67=false→LkS k w2 A n c B p d C q e L
theorem LkY.out {k:Nat}{w:World}{A B C:Option Addr}{n c p d q e:Nat}{L:ao}(h:LkY k w A n c B p d C q e L):LkS k w A n c B p d C q e L:=h (fun _=>false) w (Tch.refl w) rfl rfl rfl rfl
theorem LkY.tch {T:TypeId→Bool}{k:Nat}{w w':World}{A B C:Option Addr}{n c p d q e:Nat}{L:ao}(h:LkY k w A n c B p d C q e L) (t:Tch T w w') (h1:T 62=false) (h2:T 79=false) (h3:T 81=false) (h4:T 67=false):LkY k w' A n c B p d C q e L:=by
 intro T2 w2 t2 g1 g2 g3 g4;refine h (fun t=>T t || T2 t) w2 ((t.mono fun _ ht=>by simp [ht]).trans (t2.mono fun _ ht=>by simp [ht])) ?_ ?_ ?_ ?_ <;> simp [h1,h2,h3,h4,g1,g2,g3,g4]
theorem LkY.zero (k:Nat) (w:World):LkY k w none 0 0 none 0 0 none 0 0 L0:=fun _ w2 _ _ _ _ _=>kT w2 k
theorem RfL.lkY {B:Nat}{w:World}{A1 A2 A3:Option Addr}{n1 c1 n2 c2 n3 c3:Nat}{L:ao}(h:RfL B w A1 n1 c1 A2 n2 c2 A3 n3 c3 L) (hn:NmL L.name):LkY 500 w A1 n1 c1 A2 n2 c2 A3 n3 c3 L:=by
 intro T w2 t h1 h2 h3 h4;have g:=h.tch t h1 h2 h3 h4;exact ⟨hn,g.bd.bds,g.jt.jts,g.dr.drs⟩
def zX (w:World) (x:Int) (L:ao) (e:Ending) (w':World):Prop :=
  ∃ A n c A' n' c' A'' n'' c'',e=.returned (.tuple #[.agg #[ae L.name,.slice A n c,.slice A' n' c',.slice A'' n'' c''],.int .i64 x])∧LkY 500 w' A n c A' n' c' A'' n'' c'' L∧Below w.heap.size w w'
theorem nQ {l:List Tkn}:∀ (f p:Nat) (x:Int) (a:List aq),p≤(cB l f p x a).1∧((cB l f p x a).2.1=0→x=0)
 | 0,p,x,a=>⟨Qr,fun h=>h⟩
 | f+1,p,x,a=>by
  by_cases h:x=0∧aL l p x [125]=false
  ·rw [dc (by omega) h]
   have h1:=nQ (l:=l) (f+1 - 1) (mkF l p x).1 (mkF l p x).2.1 (a ++ [(mkF l p x).2.2]);have h2:=oL (l:=l) (p:=p) (x:=x);exact ⟨Nat.le_trans h2.1 h1.1,fun _=>h.1⟩
  rw [bO h];exact ⟨Qr,fun h=>h⟩
theorem ql {l:List Tkn}{p:Nat}{x:Int}:p≤(dv l p x).1∧((dv l p x).2.1=0→x=0):=by
 have h1:=dH (l:=l) (p:=p) (x:=x);have h2:=dj (l:=l) (p:=(wF l p x).1) (x:=(wF l p x).2.1) (t:=[123]);have h3:=nQ (l:=l) (l.length+1) (eF l (wF l p x).1 (wF l p x).2.1 [123]).1 (eF l (wF l p x).1 (wF l p x).2.1 [123]).2.1 [];have h4:=dj (l:=l) (p:=(cB l (l.length+1) (eF l (wF l p x).1 (wF l p x).2.1 [123]).1 (eF l (wF l p x).1 (wF l p x).2.1 [123]).2.1 []).1) (x:=(cB l (l.length+1) (eF l (wF l p x).1 (wF l p x).2.1 [123]).1 (eF l (wF l p x).1 (wF l p x).2.1 [123]).2.1 []).2.1) (t:=[125]);refine ⟨Nat.le_trans h1.1 (Nat.le_trans h2.1 (Nat.le_trans h3.1 h4.1)),fun k=>?_⟩;exact (h1.2.1 (h2.2.1 (h3.2 (h4.2.1 k).1)).1).1
theorem iQ {l:List Tkn}{p:Nat}{x:Int}{bs:List al}{slide:Bool}:p≤(bU l p x bs slide).1∧((bU l p x bs slide).2.1=0→x=0):=by
 unfold bU;simp only;have h0:=dH (l:=l) (p:=p) (x:=x);generalize wF l p x=W at h0 ⊢;have h1:=cC (l:=l) (p:=W.1) (x:=W.2.1) (bs:=bs) (only:=-1);generalize fullF l W.1 W.2.1 bs (-1)=FA at h1 ⊢;have h2:=cC (l:=l) (p:=FA.1) (x:=FA.2.1) (bs:=bs) (only:=-1);generalize fullF l FA.1 FA.2.1 bs (-1)=FB at h2 ⊢
 have key:∀ F:Nat × Int × Int × Int,FB.1≤F.1→(F.2.1=0→FB.2.1=0)→p≤(eF l F.1 F.2.1 [59]).1∧((eF l F.1 F.2.1 [59]).2.1=0→x=0):=by
  intro F g1 g2;have h4:=dj (l:=l) (p:=F.1) (x:=F.2.1) (t:=[59]);exact ⟨by omega,fun k=>(h0.2.1 (h1.2.1 (h2.2.1 (g2 (h4.2.1 k).1)).1).1).1⟩
 cases slide
 ·exact key (FB.1,FB.2.1,0,0) Qr id
 have h3:=cC (l:=l) (p:=FB.1) (x:=FB.2.1) (bs:=bs) (only:=FB.2.2.1);exact key _ h3.1 fun k=>(h3.2.1 k).1
theorem mh {l:List Tkn}{p:Nat}{x:Int}{bs:List al}:p≤(df l p x bs).1∧((df l p x bs).2.1=0→x=0):=by
 have h0:=dH (l:=l) (p:=p) (x:=x);have h1:=dQ (l:=l) (p:=(wF l p x).1) (x:=(wF l p x).2.1) (bs:=bs);have h2:=dj (l:=l) (p:=(namedF l (wF l p x).1 (wF l p x).2.1 bs).1) (x:=(namedF l (wF l p x).1 (wF l p x).2.1 bs).2.1) (t:=[59]);exact ⟨Nat.le_trans h0.1 (Nat.le_trans h1.1 h2.1),fun k=>(h0.2.1 (h1.2.1 (h2.2.1 k).1).1).1⟩
theorem wI {l:List Tkn}{p:Nat}{x:Int}{L:ao}:p≤(cS l p x L).1∧((cS l p x L).2.1=0→p < (cS l p x L).1):=by
 have h:=eG (l:=l) (p:=p) (x:=x) (may:=fG l p x);unfold cS;simp only;generalize takeF l p x (fG l p x)=T at h ⊢;have key:∀ (q:Nat) (y:Int),T.1≤q→(y=0→T.2.1=0)→p≤q∧(y=0→p < q):=fun q y g1 g2=>⟨by omega,fun k=>by have:=(h.2 (g2 k)).2;omega⟩
 split
 ·exact key _ _ ql.1 ql.2
 split
 ·exact key _ _ iQ.1 iQ.2
 split
 ·exact key _ _ iQ.1 iQ.2
 split
 ·exact key _ _ mh.1 mh.2
 exact key _ _ Qr id
theorem rq {l:List Tkn}{p:Nat}{x:Int}{L:ao}:(cS l p x L).2.2.name=L.name:=by
 unfold cS;simp only;split
 ·rfl
 split
 ·rfl
 split
 ·rfl
 split <;> rfl
structure LpS (w1:World) (gs gr:Nat) (A:Option Addr) (n c:Nat) (nm:List UInt8) (wr:World) (p:Nat) (x:Int) (L:ao) (A1:Option Addr) (n1 c1:Nat) (A2:Option Addr) (n2 c2:Nat) (A3:Option Addr) (n3 c3:Nat):Prop where
  s:Blk wr gs 94 #[.slice A n c,.int .i64 (p:Nat),.int .i64 x,ae nm,.slice A1 n1 c1,.slice A2 n2 c2,.slice A3 n3 c3]
  r:Blk wr gr 36 #[.string ⟨#[]⟩,.slice none 0 0,.slice none 0 0,.slice none 0 0]
  f:RfL gs wr A1 n1 c1 A2 n2 c2 A3 n3 c3 L
  cnt:n1+n2+n3≤p+1∧(x=0→n1+n2+n3≤p)
  p:p≤n
  q:Below gs w1 wr
  nm:L.name=nm
theorem rt (w:World) (s:List UInt8) (x:Int) (l:List Tkn) (hs:aR s x l) (R:Int × ao) (hR:sF l x=R):Calls Tryz.prog 16 #[ae s] w (zX w R.1 R.2):=by
 obtain ⟨E,hE⟩:∃ E,eF l 0 x aJ=E:=⟨_,rfl⟩;obtain ⟨W,hW⟩:∃ W,wF l E.1 E.2.1=W:=⟨_,rfl⟩;obtain ⟨E2,hE2⟩:∃ E2,eF l W.1 W.2.1 [59]=E2:=⟨_,rfl⟩;obtain ⟨I,hI⟩:∃ I,itemsF l (l.length+1) E2.1 E2.2.1 ⟨W.2.2,[],[],[]⟩=I:=⟨_,rfl⟩;unfold sF at hR;simp only [hE,hW,hE2,hI] at hR;have hl6:=hs.len;have HTX:=Qh (rm hs);have hE1:E.1≤l.length:=by rw [← hE];exact dj.2.2 (Nat.zero_le _)
 have hW1:W.1≤l.length:=by rw [← hW];exact dH.2.2 hE1
 have hE21:E2.1≤l.length:=by rw [← hE2];exact dj.2.2 hW1
 have HNM:=Qh (show NmL W.2.2 by rw [← hW];exact nM HTX.out _ _);have HS:=Qh hs;have HR:=Qh hR;have HE:=Qh (show takeF l 0 x (aL l 0 x [108,105,110,107,97,103,101])=E from hE);have HW:=Qh (show takeF l E.1 E.2.1 (bE l E.1 E.2.1 0)=W from hW);have HE2:=Qh (show takeF l W.1 W.2.1 (aL l W.1 W.2.1 [59])=E2 from hE2);have HII:=Qh hI;clear hs hR hE hW hE2 hI;go_in;go_wp2_with fail;have x0:=Blk.new w 36 #[.string ⟨#[]⟩,.slice none 0 0,.slice none 0 0,.slice none 0 0];have q0:=(aa w).alloc Qr (.cells #[.string ⟨#[]⟩,.slice none 0 0,.slice none 0 0,.slice none 0 0] 36);generalize w.alloc (.cells #[.string ⟨#[]⟩,.slice none 0 0,.slice none 0 0,.slice none 0 0] 36)=w0 at x0 q0 ⊢;(refine (tP w0 s x l HS.out).mono ?_);rintro e w1 ⟨A,n,c,rfl,hT,hb1⟩;have q1:=q0.trans (hb1.mono q0.size);have x1:=x0.below hb1 x0.lt;have hTn:=hT.1;have HK:=Qh hT;clear hb1 q0 x0 hT;go_upto_region 3 with fail;refine eP ?_;intro w2 hw2;have k2:Below w1.heap.size w1 w2:=by rw [hw2];exact (aa w1).alloc Qr _
 have s2:Blk w2 w1.heap.size 94 #[.slice A n c,.int .i64 (0:Nat),.int .i64 x,.string ⟨#[]⟩,.slice none 0 0,.slice none 0 0,.slice none 0 0]:=by rw [hw2];exact Blk.new w1 _ _
 have r2:Blk w2 w.heap.size 36 #[.string ⟨#[]⟩,.slice none 0 0,.slice none 0 0,.slice none 0 0]:=by rw [hw2];exact x1.alloc _
 clear hw2;obtain ⟨gs,hgs⟩:∃ g,w1.heap.size=g:=⟨_,rfl⟩;have hgg:w.heap.size < gs:=by have:=x1.lt;omega
 clear x1;rw [hgs] at k2 s2 ⊢;have HK:Hid (∀ wr,Below gs w1 wr→TkS wr A n c l):=Qh fun wr hb=>HK.out.belw (by rw [hgs];exact hb)
 obtain ⟨E0,E1,E9⟩:=E;obtain ⟨W0,W1,W2⟩:=W;obtain ⟨F0,F1,F9⟩:=E2;simp only at HE HW HE2 HII HNM hE1 hW1 hE21;rw [hTn] at hl6 hE1 hW1 hE21;obtain ⟨c0,c1,c2,c3,c4,c5,c6⟩:=s2.c7;go_wp2_with fail;(refine (de w2 A n c l ?_ hl6 0 (Nat.zero_le _) x [] none 0 0 none 0 0 none 0 0 [108,105,110,107,97,103,101] (E0,E1,E9) HE.out).mono ?_)
 ·exact HK.out _ k2
 rintro e w3 ⟨rfl,hb3⟩;have k3:=k2.trans (hb3.mono (by have:=s2.lt;omega));have s3:=s2.below hb3 s2.lt;have r3:=r2.below hb3 r2.lt;clear hb3 c0 c1 c2 c3 c4 c5 c6 s2 r2 k2;obtain ⟨c0,c1,c2,c3,c4,c5,c6⟩:=s3.c7;obtain ⟨f0,f1,f2,f3,f4,f5,f6⟩:=s3.f7;go_upto_region 4 with fail;refine eP ?_;intro w4 hw4;have k4:Below gs w1 w4:=by rw [hw4];exact dp k3 (Nat.le_refl gs) (.slice A n c) (.int .i64 (E0:Nat)) (.int .i64 E1) (ae []) (.slice none 0 0) (.slice none 0 0) (.slice none 0 0)
 have s4:Blk w4 gs 94 #[.slice A n c,.int .i64 (E0:Nat),.int .i64 E1,ae [],.slice none 0 0,.slice none 0 0,.slice none 0 0]:=by rw [hw4];exact st7 s3 (.slice A n c) (.int .i64 (E0:Nat)) (.int .i64 E1) (ae []) (.slice none 0 0) (.slice none 0 0) (.slice none 0 0)
 have r4:Blk w4 w.heap.size 36 #[.string ⟨#[]⟩,.slice none 0 0,.slice none 0 0,.slice none 0 0]:=by rw [hw4];exact dF r3 (g':=gs) (by omega) (.slice A n c) (.int .i64 (E0:Nat)) (.int .i64 E1) (ae []) (.slice none 0 0) (.slice none 0 0) (.slice none 0 0)
 clear hw4 c0 c1 c2 c3 c4 c5 c6 f0 f1 f2 f3 f4 f5 f6 s3 r3 k3;obtain ⟨c0,c1,c2,c3,c4,c5,c6⟩:=s4.c7;go_wp2_with fail;(refine (gn _ A n c l ?_ hl6 E0 hE1 E1 [] none 0 0 none 0 0 none 0 0 (W0,W1,W2) HW.out).mono ?_)
 ·exact HK.out _ k4
 rintro e w5 ⟨rfl,hb5⟩;have k5:=k4.trans (hb5.mono (by have:=s4.lt;omega));have s5:=s4.below hb5 s4.lt;have r5:=r4.below hb5 r4.lt;clear hb5 c0 c1 c2 c3 c4 c5 c6 s4 r4 k4;obtain ⟨c0,c1,c2,c3,c4,c5,c6⟩:=s5.c7;obtain ⟨f0,f1,f2,f3,f4,f5,f6⟩:=s5.f7;go_upto_region 5 with fail;refine eP ?_;intro w6 hw6;have k6:Below gs w1 w6:=by rw [hw6];exact (dp k5 (Nat.le_refl gs) (.slice A n c) (.int .i64 (W0:Nat)) (.int .i64 W1) (ae []) (.slice none 0 0) (.slice none 0 0) (.slice none 0 0)).setCell (p:=⟨gs,3,none⟩) Qr (ae W2)
 have s6:Blk w6 gs 94 #[.slice A n c,.int .i64 (W0:Nat),.int .i64 W1,ae W2,.slice none 0 0,.slice none 0 0,.slice none 0 0]:=by rw [hw6];exact (st7 s5 (.slice A n c) (.int .i64 (W0:Nat)) (.int .i64 W1) (ae []) (.slice none 0 0) (.slice none 0 0) (.slice none 0 0)).set_ 3 (ae W2)
 have r6:Blk w6 w.heap.size 36 #[.string ⟨#[]⟩,.slice none 0 0,.slice none 0 0,.slice none 0 0]:=by rw [hw6];exact (dF r5 (g':=gs) (by omega) (.slice A n c) (.int .i64 (W0:Nat)) (.int .i64 W1) (ae []) (.slice none 0 0) (.slice none 0 0) (.slice none 0 0)).far (p:=⟨gs,3,none⟩) (by show w.heap.size≠gs;omega) (ae W2)
 clear hw6 c0 c1 c2 c3 c4 c5 c6 f0 f1 f2 f3 f4 f5 f6 s5 r5 k5;obtain ⟨c0,c1,c2,c3,c4,c5,c6⟩:=s6.c7;go_wp2_with fail;(refine (de _ A n c l ?_ hl6 W0 hW1 W1 W2 none 0 0 none 0 0 none 0 0 [59] (F0,F1,F9) HE2.out).mono ?_)
 ·exact HK.out _ k6
 rintro e w7 ⟨rfl,hb7⟩;have k7:=k6.trans (hb7.mono (by have:=s6.lt;omega));have s7:=s6.below hb7 s6.lt;have r7:=r6.below hb7 r6.lt;clear hb7 c0 c1 c2 c3 c4 c5 c6 s6 r6 k6;obtain ⟨c0,c1,c2,c3,c4,c5,c6⟩:=s7.c7;obtain ⟨f0,f1,f2,f3,f4,f5,f6⟩:=s7.f7;go_upto_region 6 with fail;refine eP ?_;intro w8 hw8;have k8:Below gs w1 w8:=by rw [hw8];exact dp k7 (Nat.le_refl gs) (.slice A n c) (.int .i64 (F0:Nat)) (.int .i64 F1) (ae W2) (.slice none 0 0) (.slice none 0 0) (.slice none 0 0)
 have s8:Blk w8 gs 94 #[.slice A n c,.int .i64 (F0:Nat),.int .i64 F1,ae W2,.slice none 0 0,.slice none 0 0,.slice none 0 0]:=by rw [hw8];exact st7 s7 (.slice A n c) (.int .i64 (F0:Nat)) (.int .i64 F1) (ae W2) (.slice none 0 0) (.slice none 0 0) (.slice none 0 0)
 have r8:Blk w8 w.heap.size 36 #[.string ⟨#[]⟩,.slice none 0 0,.slice none 0 0,.slice none 0 0]:=by rw [hw8];exact dF r7 (g':=gs) (by omega) (.slice A n c) (.int .i64 (F0:Nat)) (.int .i64 F1) (ae W2) (.slice none 0 0) (.slice none 0 0) (.slice none 0 0)
 clear hw8 c0 c1 c2 c3 c4 c5 c6 f0 f1 f2 f3 f4 f5 f6 s7 r7 k7;go_loopw [] (fun wr=>∃ f p x L A1 n1 c1 A2 n2 c2 A3 n3 c3,LpS w1 gs w.heap.size A n c W2 wr p x L A1 n1 c1 A2 n2 c2 A3 n3 c3∧Hid (itemsF l f p x L=I)∧(x=0→n < f+p)) (fun wr=>mS gs n wr)
 case atStart=>exact ⟨l.length+1,F0,F1,⟨W2,[],[],[]⟩,none,0,0,none,0,0,none,0,0,⟨s8,r8,⟨bi.nil,bi.nil,bi.nil,fun b hb=>by cases hb⟩,⟨by omega,fun _=>by omega⟩,hE21,k8,rfl⟩,HII,fun _=>by omega⟩
 case round =>
  clear s8 r8 k8 HII HE HW HE2 hE1 hW1 hE21;rename World=>wr;obtain ⟨f,p,x,L,A1,n1,c1,A2,n2,c2,A3,n3,c3,HP,HI,hf⟩:=hrel;obtain ⟨s9,r9,f9,hcnt,hp,q9,hnm⟩:=HP;have HF:=Qh f9;have HS9:=Qh s9;have HR9:=Qh r9;have HNL:=Qh hnm;have hgs9:=s9.lt;obtain ⟨y0,y1,y2,y3,y4,y5,y6⟩:=s9.c7;obtain ⟨g0,g1,g2,g3,g4,g5,g6⟩:=s9.f7;clear s9 r9 f9 hnm;by_cases hx:x=0
  ·subst hx
   by_cases hlt:p < n
   ·have u1:((p:Int) < (n:Int))=True:=by simp;omega
    obtain ⟨Q,hQ⟩:∃ Q,cS l p 0 L=Q:=⟨_,rfl⟩
    have hI2:itemsF l (f - 1) Q.1 Q.2.1 Q.2.2=I:=by
     rw [← hQ,← nP (by omega) ⟨rfl,by rw [hTn];exact hlt⟩];exact HI.out
    have HI2:=Qh hI2;have hge:=wI (l:=l) (p:=p) (x:=0) (L:=L);have hle:=qh (l:=l) (p:=p) (x:=0) (L:=L) (by rw [hTn];exact hp);have hQn:Q.2.2.name=W2:=by rw [← hQ,rq];exact HNL.out
    rw [hQ] at hge hle;rw [hTn] at hle;have HQ:=Qh hQ;clear hQ hI2 HI;go_wp2_with fail;(refine (yj _ gs (by omega) A n c l ?_ hl6 HTX.out p hp 0 W2 A1 n1 c1 A2 n2 c2 A3 n3 c3 L HF.out (by omega) Q HQ.out).mono ?_)
    ·exact HK.out _ q9
    rintro e w10 ⟨B1,m1,d1,B2,m2,d2,B3,m3,d3,rfl,hf10,hc10,hb10,ht10⟩;have s10:=jX HS9.out ht10 (by decide);have r10:=HR9.out.below hb10 (by omega);clear y0 y1 y2 y3 y4 y5 y6 g0 g1 g2 g3 g4 g5 g6;obtain ⟨y0,y1,y2,y3,y4,y5,y6⟩:=s10.c7;obtain ⟨g0,g1,g2,g3,g4,g5,g6⟩:=s10.f7;go_wp2_with fail;have hs11:=st7 s10 (.slice A n c) (.int .i64 (Q.1:Nat)) (.int .i64 Q.2.1) (.string ⟨W2.toArray⟩) (.slice B1 m1 d1) (.slice B2 m2 d2) (.slice B3 m3 d3);go_roundw
    case rel =>
     have hc0:=hcnt.2 (by trivial);have hf0:=hf (by trivial);have hg1:=hge.1;refine ⟨f - 1,Q.1,Q.2.1,Q.2.2,B1,m1,d1,B2,m2,d2,B3,m3,d3,⟨hs11,dF r10 (g':=gs) (by omega) (.slice A n c) (.int .i64 (Q.1:Nat)) (.int .i64 Q.2.1) (.string ⟨W2.toArray⟩) (.slice B1 m1 d1) (.slice B2 m2 d2) (.slice B3 m3 d3),hf10.tch (fi (T:=bK 94) s10 (by simp [bK]) rfl (.slice A n c) (.int .i64 (Q.1:Nat)) (.int .i64 Q.2.1) (.string ⟨W2.toArray⟩) (.slice B1 m1 d1) (.slice B2 m2 d2) (.slice B3 m3 d3)) (by decide) (by decide) (by decide) (by decide),⟨by omega,fun h=>by have:=hge.2 h;omega⟩,hle,dp (q9.trans hb10) (Nat.le_refl gs) (.slice A n c) (.int .i64 (Q.1:Nat)) (.int .i64 Q.2.1) (.string ⟨W2.toArray⟩) (.slice B1 m1 d1) (.slice B2 m2 d2) (.slice B3 m3 d3),hQn⟩,HI2,fun h=>by have:=hge.2 h;omega⟩
    case measure =>
     have e1:=sE (n:=n) hs11;have e2:=sE (n:=n) HS9.out;refine Nat.lt_of_lt_of_eq (Nat.lt_of_le_of_lt (Nat.le_of_eq e1) ?_) e2.symm;rw [if_pos rfl];by_cases hz:Q.2.1=0
     ·have h9:=hge.2 hz
      rw [if_pos hz];omega
     rw [if_neg hz];omega
   have u1:((p:Int) < (n:Int))=False:=by simp;omega
   have hIe:I=(p,0,L):=by rw [← HI.out];exact eH (fun k=>by rw [hTn] at k;omega)
   subst hIe;have hR:=HR.out;simp only [if_true] at hR;have hLk:=HF.out.lkY (by rw [HNL.out];exact HNM.out);have HLk:=Qh hLk;obtain ⟨y,hy⟩:∃ y,dh L=y:=⟨_,rfl⟩;rw [hy] at hR;have HY:=Qh hy;have HRR:=Qh hR;obtain ⟨Ln,Lb,Lj,Ld⟩:=L;have hnm:Ln=W2:=HNL.out;subst hnm;clear HI HR hLk hy hR hlt;go_wp2_with fail;(refine (yc _ A1 n1 c1 A2 n2 c2 A3 n3 c3 ⟨Ln,Lb,Lj,Ld⟩ 500 HLk.out.out (by decide) (by decide) y HY.out).mono ?_);rintro e w10 ⟨rfl,hb10⟩;have s10:=HS9.out.below hb10 HS9.out.lt;have r10:=HR9.out.below hb10 HR9.out.lt;have q10:=q9.trans (hb10.mono (by omega));have l10:=HLk.out.tch (T:=fun _=>false) (Tch.below hb10) rfl rfl rfl rfl;have HL10:=Qh l10;clear y0 y1 y2 y3 y4 y5 y6 g0 g1 g2 g3 g4 g5 g6 hb10 l10;obtain ⟨y0,y1,y2,y3,y4,y5,y6⟩:=s10.c7;obtain ⟨g0,g1,g2,g3,g4,g5,g6⟩:=s10.f7;obtain ⟨c0,c1_,c2_,c3_⟩:=r10.c4;obtain ⟨f0,f1,f2,f3⟩:=r10.f4;have hgs10:=s10.lt;by_cases hyz:y=0
   ·subst hyz
    have hR:=HRR.out;rw [if_neg (by simp)] at hR;subst hR;go_wp2_with fail;refine bodyPost_ret (v:=.tuple #[.agg #[ae Ln,.slice A1 n1 c1,.slice A2 n2 c2,.slice A3 n3 c3],.int .i64 0]) (by simp [results,Tryz.results16,go_sem, *] <;> trivial) rfl ?_;have te:=Tch.set s10 (T:=bK 94) (by simp [bK]) rfl 2 (.int .i64 0);have r11:=r10.far (p:=⟨gs,2,none⟩) (by show w.heap.size≠gs;omega) (.int .i64 0);have tr:=AW r11 ⟨rfl,rfl,rfl,rfl⟩ (.string ⟨Ln.toArray⟩) (.slice A1 n1 c1) (.slice A2 n2 c2) (.slice A3 n3 c3);exact ⟨_,_,_,_,_,_,_,_,_,rfl,(HL10.out.tch te (by decide) (by decide) (by decide) (by decide)).tch tr (by decide) (by decide) (by decide) (by decide),re ((q1.trans (q10.mono (by omega))).setCell (p:=⟨gs,2,none⟩) (by show w.heap.size≤gs;omega) (.int .i64 0)) Qr (.string ⟨Ln.toArray⟩) (.slice A1 n1 c1) (.slice A2 n2 c2) (.slice A3 n3 c3)⟩
   have t1:(y == 0)=false:=beq_eq_false_iff_ne.2 hyz;have t2:(y=0)=False:=eq_false hyz;have t3:(y != 0)=true:=by unfold bne;rw [t1];rfl
   have hR:=HRR.out;rw [if_pos hyz] at hR;subst hR;clear hyz;go_wp2_with fail;go_region
   all_goals
    go_wp2_with fail;refine bodyPost_ret (v:=.tuple #[.agg #[.string ⟨#[]⟩,.slice none 0 0,.slice none 0 0,.slice none 0 0],.int .i64 y]) (by simp [results,Tryz.results16,go_sem, *] <;> trivial) rfl ?_;have be:=re ((q1.trans (q10.mono (by omega))).setCell (p:=⟨gs,2,none⟩) (by show w.heap.size≤gs;omega) (.int .i64 y)) Qr (.string ⟨#[]⟩) (.slice none 0 0) (.slice none 0 0) (.slice none 0 0);exact ⟨none,0,0,none,0,0,none,0,0,rfl,LkY.zero _ _,by first | exact be.drew | exact be⟩
  have t1:(x == 0)=false:=beq_eq_false_iff_ne.2 hx;have t2:(x=0)=False:=eq_false hx;have t3:(x != 0)=true:=by unfold bne;rw [t1];rfl
  have hIe:I=(p,x,L):=by rw [← HI.out];exact eH (fun k=>hx k.1)
  subst hIe;have hR:=HR.out;simp only at hR;rw [if_neg hx,if_pos hx] at hR;subst hR;obtain ⟨c0,c1_,c2_,c3_⟩:=HR9.out.c4;obtain ⟨f0,f1,f2,f3⟩:=HR9.out.f4;clear hx HR HI;go_wp2_with fail;go_region
  all_goals
   go_wp2_with fail;refine bodyPost_ret (v:=.tuple #[.agg #[.string ⟨#[]⟩,.slice none 0 0,.slice none 0 0,.slice none 0 0],.int .i64 x]) (by simp [results,Tryz.results16,go_sem, *] <;> trivial) rfl ?_;have be:=re (q1.trans (q9.mono (by omega))) Qr (.string ⟨#[]⟩) (.slice none 0 0) (.slice none 0 0) (.slice none 0 0);exact ⟨none,0,0,none,0,0,none,0,0,rfl,LkY.zero _ _,by first | exact be.drew | exact be⟩
theorem kI (w:World) (s:List UInt8) (_:s.length < 9223372036854775808) (_:Tab w) (hmx:Mx w):Calls Tryz.prog 4 #[ae s] w (av w (.bool true)):=by
 by_cases h1:3000 < s.length
 ·have f1:((3000:Int) < (s.length:Int))=True:=eq_true (by omega)
  go_in;go_wp2_with fail;(with_reducible refine (kr w hmx).mono ?_);rintro e w1 ⟨rfl,hb1⟩;have hmx1:=hmx.belw hb1;go_wp2_with fail;(with_reducible refine (kr w1 hmx1).mono ?_);rintro e w2 ⟨rfl,hb2⟩;have bw2:=hb1.trans (hb2.mono hb1.size);go_wp2;go_ret;exact bj rfl bw2
 have f1:((3000:Int) < (s.length:Int))=False:=eq_false (by omega);obtain ⟨x,L,hR⟩:=xU s;obtain ⟨y,l,hS⟩:=pR s;have HF:=Qh (ua hS hR);have HS:=Qh hS;have HR:=Qh hR;have HM:=Qh hmx;clear hR hmx h1 hS;go_in;go_wp2_with fail;(with_reducible refine (kr w HM.out).mono ?_);rintro e w1 ⟨rfl,hb1⟩;go_wp2_with fail;(with_reducible refine (l8 w1 s x L (HM.out.belw hb1) HR.out).mono ?_);rintro e w3 ⟨A1,n1,c1,B1,p1,d1,C1,q1,f1',rfl,hL1,hb3⟩;have bw4:=hb1.trans (hb3.mono hb1.size);have HL1:=Qh hL1;clear hL1 hb3 hb1;obtain ⟨v,hv⟩:∃ v,cD x=v:=⟨_,rfl⟩;rw [hv];go_wp2_with fail;have hq:=(aa w3).alloc Qr (.cells #[ae L.name,.slice A1 n1 c1,.slice B1 p1 d1,.slice C1 q1 f1'] 36);have z1:=Blk.new w3 36 #[ae L.name,.slice A1 n1 c1,.slice B1 p1 d1,.slice C1 q1 f1'];have bw5:=bw4.trans (hq.mono bw4.size);have HL2:=Qh (HL1.out.belw hq);generalize (w3.alloc (.cells #[ae L.name,.slice A1 n1 c1,.slice B1 p1 d1,.slice C1 q1 f1'] 36))=w4 at bw5 z1 HL2 ⊢;clear hq bw4 HL1;(with_reducible refine (rt w4 s y l HS.out (x,L) HF.out).mono ?_);rintro e w5 ⟨A2,n2,c2,B2,p2,d2,C2,q2,f2,rfl,hL2,hb5⟩;have bw6:=bw5.trans (hb5.mono bw5.size);have HL3:=Qh (HL2.out.belw hb5);have z2:=z1.below hb5 z1.lt;have HL4:=Qh hL2.out;have hlz:w3.heap.size < w5.heap.size:=z2.lt;have hnz:¬ w3.heap.size=w5.heap.size:=by omega
 clear hL2 hb5 HL2 z1 bw5;obtain ⟨c0,c1',c2',c3⟩:=z2.c4;go_wp2_with fail;have hq:=(aa w5).alloc Qr (.cells #[ae L.name,.slice A2 n2 c2,.slice B2 p2 d2,.slice C2 q2 f2] 36);have z3:=Blk.new w5 36 #[ae L.name,.slice A2 n2 c2,.slice B2 p2 d2,.slice C2 q2 f2];have z4:=z2.below hq z2.lt;have bw7:=bw6.trans (hq.mono bw6.size);have HL5:=Qh (HL3.out.belw hq);have HL6:=Qh (HL4.out.belw hq);clear c0 c1' c2' c3 HL3 HL4 z2;generalize (w5.alloc (.cells #[ae L.name,.slice A2 n2 c2,.slice B2 p2 d2,.slice C2 q2 f2] 36))=w6 at bw7 z3 z4 HL5 HL6 ⊢;clear hq bw6;have hnum:∀ w:World,Calls Tryz.prog 13 #[v] w (av w (.int .i64 x)):=fun w=>by rw [← hv];exact xM w x
 (with_reducible refine (hnum w6).mono ?_);rintro e w7 ⟨rfl,hb7⟩;have bw8:=bw7.trans (hb7.mono bw7.size);have z5:=z3.below hb7 z3.lt;have z6:=z4.below hb7 z4.lt;have HL7:=Qh (HL5.out.belw hb7);have HL8:=Qh (HL6.out.belw hb7);obtain ⟨c0,c1',c2',c3⟩:=z5.c4;obtain ⟨d0,d1',d2',d3⟩:=z6.c4;have hxx:(x == x)=true:=by simp
 obtain ⟨hps,hn,hp,hqq⟩:=HR.out.small;rw [HL7.out.bodies.1] at hn;rw [HL7.out.joints.1] at hp;rw [HL7.out.drivers.1] at hqq;have HPS:=Qh hps;clear hps hb7 z3 z4 HL5 HL6;go_wp2_with fail;(with_reducible refine (wz w7 A1 n1 c1 B1 p1 d1 C1 q1 f1' L (HL7.out.mono (by decide)) A2 n2 c2 B2 p2 d2 C2 q2 f2 L (HL8.out.mono (by decide)) HPS.out hn hp hqq true (by simp)).mono ?_);rintro e w9 ⟨rfl,hb10⟩;have bw10:=bw8.trans (hb10.mono bw8.size);go_wp2;go_ret;exact bj rfl bw10
end Go.Proofs.YtfilnhompchciaaGreatDoor
namespace Go.Proofs.YtfilnhompchciaaGreatDoor
open Go Go.RowKit Bn Go.ChangeShapes Go.WideShapes
attribute [local go_sem ↓] Go.wp_at_zero Go.wp_at_succ

theorem mi {H:Type}{enc:TypeId × Value→H}{W:World}{P:Program}(hl:laidOutB P=true) {W':World}(hb:Below W.heap.size W W'):∀ {ts:List TypeId}{vs:List Value}{ds:List (DataW H)}{ps:List MemPlace},(ts.all fun t=>P.readableRec t && decide (t < P.types.size))=true →
 DataW.TrodAll enc P W 0 (fun _=>true) true ts vs ds ps→DataW.TrodAll enc P W' 0 (fun b=>decide (b < W.heap.size)) true ts vs ds ps
 | [],[],[],_,_,h=>h
 | _ :: _,_ :: _,_ :: _,_,hr,h=>by
  have hlt:=h.lt;obtain ⟨p,q,h1,h2,e⟩:=h;rw [List.all_cons,Bool.and_eq_true,Bool.and_eq_true,decide_eq_true_eq] at hr;exact ⟨p,q,Below.trod hl hr.1.1 hr.1.2 h1 hb (fun x hx=>hlt x (by rw [e];exact List.mem_append_left _ hx)),mi hl hb hr.2 h2,e⟩
 | [],[],_ :: _,_,_,h=>h.elim
 | [],_ :: _,_,_,_,h=>h.elim
 | _ :: _,[],_,_,_,h=>h.elim
 | _ :: _,_ :: _,[],_,_,h=>h.elim
theorem wJ {H:Type}{enc:TypeId × Value→H}{W:World}{P:Program}{B:TypeId}{f:Func}{s:ChangeSpec}{W':World}{args:Array Value}{ds:List (DataW H)}{before:List MemPlace}(hl:laidOutB P=true) (hB:P.underlying B=some .bool)
 (hW:DataW.Whole enc P f.params.toList s.vars false W args.toList ds [] before) (hv:s.vars=[]) (hr:f.resultTypes=#[B]) (hp:(f.params.toList.all fun t=>P.readableRec t && decide (t < P.types.size))=true)
 (hres:(s.fn H (ds ++ [])).results=[.lit (.bool true)]) (hargs:(s.fn H (ds ++ [])).args=ds) (hvars:(s.fn H (ds ++ [])).vars=[]) (hb:Below W.heap.size W W') :
 s.post enc P f false true false false W args (.bool true) W':=by
 have hW':=hW;obtain ⟨p,q,hA,hV,rfl,_,_⟩:=hW;have hV':=hV;rw [hv] at hV';obtain ⟨_,rfl⟩:=trodVars_none hV';refine ⟨ds,[],_,[],p,[],hW',?_,?_,?_,hb.frame _,fun h=>by cases h⟩
 ·rw [hr,hres]
  exact trodAll_mk1 (shut_bool hB _)
 ·rw [hargs]
  exact mi hl hb hp hA
 rw [hv,hvars];rfl
theorem oO {P:Program}{f:FuncId}{fn:Func}{s:ChangeSpec}{c:OpenClaim}
 (h1:(c.wf (OpenSpec.ofChange s) && laidOutB P && mapsRowed P && fn.params.all (P.readableRec ·) && namedTie P c.named s.vars && (c.stops == []) && (P.stops == []) && (c.knobs == []) && (P.stopKnobs == []))=true)
 (h2:(c.inPlace == P.inPlace f)=true) (h3:(c.unfollowed == P.unfollowed f)=true) (h4:(c.recurses == P.recurses f)=true) (h5:(c.named == P.varsNamed f)=true)
 (h6:((c.maps == (fn.params.toList ++ s.plain.varTypes P).any (P.mapsRec ·)) && (c.ifaces == (fn.params.toList ++ s.plain.varTypes P).any (P.ifacesRec ·)) && (c.mapsOut == P.mapsAmong fn.resultTypes.toList) &&
  (c.loops == (fn.params.toList ++ s.plain.varTypes P).any (P.loopsFrom ·)) && (c.wideKeys == (fn.params.toList ++ s.plain.varTypes P ++ fn.resultTypes.toList).any (P.wideKeysFrom ·)) &&
  s.vars.all (P.varReadable ·) && fn.resultTypes.all (fun t=>P.readableRec t && decide (t < P.types.size)) && (c.ifacesOut == fn.resultTypes.toList.any (P.ifacesRec ·)) && (c.loopsOut == fn.resultTypes.toList.any (P.loopsFrom ·)) && (c.plainKeys == P.plainKeys) && c.shortTexts.isNone && P.stopsHeard && P.mayEnter && (c.lifted == P.liftsFinal) && (P.make == some c.make) && (c.kinds == (if c.domain.isEmpty then [] else fn.params.toList.map fun t=>match P.underlying t with | some (.int k)=>some k | _=>none)) && (c.pinned == c.pinnedBy) &&
  (c.veiled == (fn.params.toList ++ s.plain.varTypes P ++ fn.resultTypes.toList).any (P.veiledRec ·)) && c.veiledFits P fn.params.toList (fn.params.toList ++ s.plain.varTypes P ++ fn.resultTypes.toList))=true):joinedFacts P f fn s c=true:=by
 unfold joinedFacts;simp only [Bool.and_eq_true] at h1 h6 ⊢;obtain ⟨⟨⟨⟨⟨⟨⟨⟨a0,a1⟩,a2⟩,a3⟩,a4⟩,a5⟩,a6⟩,a7⟩,a8⟩:=h1;obtain ⟨⟨⟨⟨⟨⟨⟨⟨⟨⟨⟨⟨⟨⟨⟨⟨⟨⟨b0,b1⟩,b2⟩,b3⟩,b4⟩,b5⟩,b6⟩,b7⟩,b8⟩,b9⟩,b10⟩,b11⟩,b12⟩,b13⟩,b14⟩,b15⟩,b16⟩,b17⟩,b18⟩:=h6;exact ⟨⟨⟨⟨⟨⟨⟨⟨⟨⟨⟨⟨⟨⟨⟨⟨⟨⟨⟨⟨⟨⟨⟨⟨⟨⟨⟨⟨⟨⟨⟨a0,a1⟩,a2⟩,a3⟩,a4⟩,a5⟩,a6⟩,a7⟩,a8⟩,h2⟩,h3⟩,h4⟩,h5⟩,b0⟩,b1⟩,b2⟩,b3⟩,b4⟩,b5⟩,b6⟩,b7⟩,b8⟩,b9⟩,b10⟩,b11⟩,b12⟩,b13⟩,b14⟩,b15⟩,b16⟩,b17⟩,b18⟩
section
variable {H:Type}{enc:TypeId × Value→H}{W:World}{base:Nat}
end
theorem oQ {W:World}(h:W.ShapedOpen Tryz.prog):∃ m,W.cell? ⟨0,0,none⟩=some (.int .i64 m) :=
 Go.Proofs.cell_of_shapedOpen_int (P:=Tryz.prog) (g:=0) (t:=3) (zero:=#[.int .i64 0]) h (of_decide_eq_true (by kernel_rfl)) (by kernel_rfl) rfl (by kernel_rfl) (by kernel_rfl) Tryz.underlying3
theorem Be : Tryz.prog.globalNamed "internal/strconv.uint64pow10" = some 1 := by kernel_rfl
theorem zY:(Tryz.prog.globals[1]?).map (·.type)=some 214:=by kernel_rfl
theorem ue:Tryz.prog.cellsOf 214=20:=by kernel_rfl
theorem uf:Tryz.prog.cellsOf 117=1:=by kernel_rfl
theorem wK {H:Type}:(Rows.laid_internal_strconv_uint64pow10:DataW H)=Lib.tabData .u64 Lib.pow10Tab:=by kernel_rfl
theorem qm {rest : List (String × DataW Unit)} {W : World} (h : laidMet Tryz.prog (("math/bits.deBruijn32tab", Rows.laid_math_bits_deBruijn32tab) :: ("math/bits.deBruijn64tab", Rows.laid_math_bits_deBruijn64tab) :: ("internal/strconv.uint64pow10", Rows.laid_internal_strconv_uint64pow10) :: rest) W) : Tab W := by
 obtain ⟨ps,⟨_,_,_,_,_,_,_,_,_,_,⟨_,_,_,_,_,_,_,_,_,_,⟨g,t,cs,f,p,q,hg,ht,hv,hd,_,_⟩,_⟩,_⟩,_,_⟩:=h;obtain rfl:=Option.some.inj (Be.symm.trans hg);obtain rfl:=Option.some.inj (zY.symm.trans ht);rw [wK] at hd;unfold Tab Lib.TabIs;rw [hv,← Lib.cells_of_tab Tryz.underlying214 Tryz.underlying117 uf ue hd]
noncomputable def low:Nat:=(World.holding Tryz.prog default ⟨#[],#[],[]⟩).heap.size
noncomputable def ku (os:Os):World :=
  let w0:=World.holding Tryz.prog os ⟨#[.cells #[.string ⟨#[118,97,108,117,101,32,111,117,116,32,111,102,32,114,97,110,103,101]⟩] 258,.cells #[.string ⟨#[105,110,118,97,108,105,100,32,115,121,110,116,97,120]⟩] 258],#[],[]⟩
  { w0 with heap:=(((((((w0.heap.modify 1 fun
      | .cells _ t frozen=>.cells (#[.int .u64 1,.int .u64 10,.int .u64 100,.int .u64 1000,.int .u64 10000,.int .u64 100000,.int .u64 1000000,.int .u64 10000000,.int .u64 100000000,.int .u64 1000000000,.int .u64 10000000000,.int .u64 100000000000,.int .u64 1000000000000,.int .u64 10000000000000,.int .u64 100000000000000,.int .u64 1000000000000000,.int .u64 10000000000000000,.int .u64 100000000000000000,.int .u64 1000000000000000000,.int .u64 10000000000000000000]) t frozen
      | o=>o).modify 6 fun
      | .cells _ t frozen=>.cells (#[.int .u8 0,.int .u8 1,.int .u8 28,.int .u8 2,.int .u8 29,.int .u8 14,.int .u8 24,.int .u8 3,.int .u8 30,.int .u8 22,.int .u8 20,.int .u8 15,.int .u8 25,.int .u8 17,.int .u8 4,.int .u8 8,.int .u8 31,.int .u8 27,.int .u8 13,.int .u8 23,.int .u8 21,.int .u8 19,.int .u8 16,.int .u8 7,.int .u8 26,.int .u8 12,.int .u8 18,.int .u8 6,.int .u8 11,.int .u8 5,.int .u8 10,.int .u8 9]) t frozen
      | o=>o).modify 7 fun
      | .cells _ t frozen=>.cells (#[.int .u8 0,.int .u8 1,.int .u8 56,.int .u8 2,.int .u8 57,.int .u8 49,.int .u8 28,.int .u8 3,.int .u8 61,.int .u8 58,.int .u8 42,.int .u8 50,.int .u8 38,.int .u8 29,.int .u8 17,.int .u8 4,.int .u8 62,.int .u8 47,.int .u8 59,.int .u8 36,.int .u8 45,.int .u8 43,.int .u8 51,.int .u8 22,.int .u8 53,.int .u8 39,.int .u8 33,.int .u8 30,.int .u8 24,.int .u8 18,.int .u8 12,.int .u8 5,.int .u8 63,.int .u8 55,.int .u8 48,.int .u8 27,.int .u8 60,.int .u8 41,.int .u8 37,.int .u8 16,.int .u8 46,.int .u8 35,.int .u8 44,.int .u8 21,.int .u8 52,.int .u8 32,.int .u8 23,.int .u8 11,.int .u8 54,.int .u8 26,.int .u8 40,.int .u8 15,.int .u8 34,.int .u8 20,.int .u8 31,.int .u8 10,.int .u8 25,.int .u8 14,.int .u8 19,.int .u8 9,.int .u8 13,.int .u8 8,.int .u8 7,.int .u8 6]) t frozen
      | o=>o).modify 5 fun
      | .cells _ t frozen=>.cells (#[.int .u8 128,.int .u8 191,.int .u8 160,.int .u8 191,.int .u8 128,.int .u8 159,.int .u8 144,.int .u8 191,.int .u8 128,.int .u8 143,.int .u8 0,.int .u8 0,.int .u8 0,.int .u8 0,.int .u8 0,.int .u8 0,.int .u8 0,.int .u8 0,.int .u8 0,.int .u8 0,.int .u8 0,.int .u8 0,.int .u8 0,.int .u8 0,.int .u8 0,.int .u8 0,.int .u8 0,.int .u8 0,.int .u8 0,.int .u8 0,.int .u8 0,.int .u8 0]) t frozen
      | o=>o).modify 4 fun
      | .cells _ t frozen=>.cells ((Go.Pinned.utf8FirstZ.map fun z:Nat=>Value.int .u8 (z:Int)).toArray) t frozen
      | o=>o).modify 3 fun
      | .cells _ t frozen=>.cells (#[.iface 256 (.pointer (some ⟨low,0,none⟩))]) t frozen
      | o=>o).modify 2 fun
      | .cells _ t frozen=>.cells (#[.iface 256 (.pointer (some ⟨low+1,0,none⟩))]) t frozen
      | o=>o) }
theorem wL:ownKnob Tryz.prog.godebug=none:=by kernel_rfl
theorem wM:laidOutB Tryz.prog=true:=by kernel_rfl
end Go.Proofs.YtfilnhompchciaaGreatDoor
