import Derived.Deep.RegionHeld3
import Derived.Deep.DrawnRows
import Derived.Laws.StructEq
import Derived.Test.YtfilnhompchciaaGreatDoorCards
import Derived.Test.YtfilnhompchciaaGreatDoorTie
import Derived.ProofKit
import Derived.WalkKit
import Derived.OpenShut
import Derived.Deep.DeepHandedRow
import Derived.Lib.LaidTab
import Derived.Shelf.Vars
import Derived.Deep.Slices
import Derived.SizedLaws
import Derived.Lib.TrailingZeros
import Derived.ChangeMaps5
import Derived.Test.YtfilnhompchciaaGreatDoorRN4
set_option linter.unusedVariables false
set_option maxHeartbeats 8000000
set_option maxRecDepth 100000
/- Reading what was printed, plain: a linkage's text is read as the linkage. -/
namespace Go.Proofs.YtfilnhompchciaaGreatDoor
open Go Go.RowKit Bn
attribute [local go_sem ↓] Go.wp_at_zero Go.wp_at_succ
/-! The tokens of a linkage. -/
def ig (m:ar):List (Nat × List UInt8):=[(0,m.name),(1,aE m.x.q),(1,aE m.y.q),(2,[59])]
def iO (b:ai):List (Nat × List UInt8):=(0,jS) :: (0,b.name) :: (2,[123]) :: (b.pts.flatMap ig ++ [(2,[125])])
def j5 (bs:List ai) (i j:Int):List (Nat × List UInt8):=match bs[i.toNat]? with
  | some b=>(match b.pts[j.toNat]? with | some m=>[(0,b.name),(2,[46]),(0,m.name)] | none=>[])
  | none=>[]
def fl (bs:List ai) (j:aM):List (Nat × List UInt8) :=
  (0,if j.kind=1 then iC else rE) :: (0,j.name) :: (j5 bs j.a j.point ++ (j5 bs j.b j.on ++ ((if j.kind=1 then j5 bs j.b j.to_ else []) ++ [(2,[59])])))
def dj (bs:List ai) (d:aV):List (Nat × List UInt8):=[(0,fD),(0,d.name),(0,kX bs d.body),(2,[59])]
def iI (L:ag):List (Nat × List UInt8):=(0,bi) :: (0,L.name) :: (2,[59]) :: (L.bodies.flatMap iO ++ (L.joints.flatMap (fl L.bodies) ++ L.drivers.flatMap (dj L.bodies)))
theorem qj {bs:List ai}{i j:Nat}{b:ai}{m:ar}(hb:bs[i]?=some b) (hm:b.pts[j]?=some m):j5 bs (i:Nat) (j:Nat)=[(0,b.name),(2,[46]),(0,m.name)]:=by
 unfold j5;show (match bs[i]? with | some b=>(match b.pts[j]? with | some m=>[(0,b.name),(2,[46]),(0,m.name)] | none=>[]) | none=>[])=_;rw [hb];show (match b.pts[j]? with | some m=>[(0,b.name),(2,[46]),(0,m.name)] | none=>[])=_;rw [hm]
/-! Splitting. -/
theorem d9 {p:UInt8→Prop}{c:UInt8}{t:List UInt8}(h:p c):∀ c' t',c :: t=c' :: t'→p c':=fun c' t' e=>by injection e with e _;subst e;exact h
def MkN (m:ar):Prop:=(aE m.x.q).length≤60∧(aE m.y.q).length≤60
theorem Spl.mark {m:ar}{s:List UInt8}{K:List (Nat × List UInt8)}(hm:aQ m.name=true) (hn:MkN m) (h:Spl s K):Spl (aU m ++ s) (ig m ++ K):=by
 unfold aU ig;simp only [List.cons_append,List.append_assoc,List.nil_append];exact .blank (.word hm (d9 (by decide)) (.blank (.num hn.1 (d9 (.inl rfl)) (.blank (.num hn.2 (d9 (.inr rfl)) (.sign (by decide) h))))))
theorem Spl.marks {s:List UInt8}{K:List (Nat × List UInt8)}(h:Spl s K):∀ {l:List ar},(∀ m∈l,aQ m.name=true∧MkN m)→Spl (l.flatMap aU ++ s) (l.flatMap ig ++ K)
 | [],_=>h
 | m :: l,hl=>by
  rw [List.flatMap_cons,List.flatMap_cons,List.append_assoc,List.append_assoc];have:=hl m (by simp);exact .mark this.1 this.2 (Spl.marks h fun x hx=>hl x (by simp [hx]))
theorem Spl.body {b:ai}{s:List UInt8}{K:List (Nat × List UInt8)}(hb:aQ b.name=true) (hp:∀ m∈b.pts,aQ m.name=true∧MkN m) (h:Spl s K):Spl (dV b ++ s) (iO b ++ K):=by
 unfold dV iO;simp only [List.cons_append,List.append_assoc,List.nil_append];have hm:Spl (b.pts.flatMap aU ++ 32 :: 125 :: s) (b.pts.flatMap ig ++ (2,[125]) :: K):=Spl.marks (.blank (.sign (by decide) h)) hp;exact Spl.word (x:=jS) (by decide) (d9 (by decide)) (.blank (.word hb (d9 (by decide)) (.blank (.sign (by decide) hm))))
theorem Spl.full {bs:List ai}{i j:Nat}{b:ai}{m:ar}(hb:bs[i]?=some b) (hm:b.pts[j]?=some m) (n1:aQ b.name=true) (n2:aQ m.name=true) {s:List UInt8}{K:List (Nat × List UInt8)}(hs:∀ c t,s=c :: t→aP c=false) (h:Spl s K):Spl (eN bs (i:Nat) (j:Nat) ++ s) (j5 bs (i:Nat) (j:Nat) ++ K):=by
 rw [jd hb hm,qj hb hm];simp only [List.cons_append,List.append_assoc,List.nil_append];exact .word n1 (d9 (by decide)) (.sign (by decide) (.word n2 hs h))
theorem Spl.joint {bs:List ai}(hB:∀ b∈bs,BdF b) {j:aM}(hn:aQ j.name=true) (hj:iZ bs j) {s:List UInt8}{K:List (Nat × List UInt8)}(h:Spl s K):Spl (aG bs j ++ s) (fl bs j ++ K):=by
 obtain ⟨_,a,b,p,o,x,y,m1,m2,ea,eb,ep,eo,hx,hy,hm1,hm2,hk⟩:=hj;have bx:=hB x (List.mem_of_getElem? hx);have by_:=hB y (List.mem_of_getElem? hy);have n1:=(bx.pts m1 (List.mem_of_getElem? hm1)).name;have n2:=(by_.pts m2 (List.mem_of_getElem? hm2)).name;unfold aG fl co;rcases hk with ⟨k0,_⟩ | ⟨k1,t,m3,et,hm3⟩
 ·rw [if_neg (by omega),if_neg (by omega),if_neg (by omega),ea,eb,ep,eo]
  simp only [eK,List.cons_append,List.append_assoc,List.nil_append];exact Spl.word (x:=rE) (by decide) (d9 (by decide)) (.blank (.word hn (d9 (by decide)) (.blank (.full hx hm1 bx.name n1 (d9 (by decide)) (.blank (.full hy hm2 by_.name n2 (d9 (by decide)) (.sign (by decide) (.line h))))))))
 have n3:=(by_.pts m3 (List.mem_of_getElem? hm3)).name;rw [if_pos k1,if_pos k1,if_pos k1,ea,eb,ep,eo,et];simp only [eK,List.cons_append,List.append_assoc,List.nil_append];exact Spl.word (x:=iC) (by decide) (d9 (by decide)) (.blank (.word hn (d9 (by decide)) (.blank (.full hx hm1 bx.name n1 (d9 (by decide)) (.blank (.full hy hm2 by_.name n2 (d9 (by decide)) (.blank (.full hy hm3 by_.name n3 (d9 (by decide)) (.sign (by decide) (.line h))))))))))
theorem Spl.driver {bs:List ai}(hB:∀ b∈bs,BdF b) {d:aV}(hn:aQ d.name=true) (hd:gR bs d) {s:List UInt8}{K:List (Nat × List UInt8)}(h:Spl s K):Spl (aK bs d ++ s) (dj bs d ++ K):=by
 obtain ⟨_,i,b,ei,hb⟩:=hd;have bb:=hB b (List.mem_of_getElem? hb);unfold aK dj;rw [ei,lY hb];simp only [List.cons_append,List.append_assoc,List.nil_append];exact Spl.word (x:=fD) (by decide) (d9 (by decide)) (.blank (.word hn (d9 (by decide)) (.blank (.word bb.name (d9 (by decide)) (.sign (by decide) (.line h))))))
theorem Spl.list {α:Type}{f:α→List UInt8}{g:α→List (Nat × List UInt8)}{s:List UInt8}{K:List (Nat × List UInt8)}(h:Spl s K):∀ {l:List α},(∀ a∈l,∀ s K,Spl s K→Spl (f a ++ s) (g a ++ K))→Spl (l.flatMap f ++ s) (l.flatMap g ++ K)
 | [],_=>h
 | a :: l,hl=>by
  rw [List.flatMap_cons,List.flatMap_cons,List.append_assoc,List.append_assoc];exact hl a (by simp) _ _ (Spl.list h fun x hx=>hl x (by simp [hx]))
theorem nW {l:List ai}(h:eM l≠true):∀ b∈l,∀ m∈b.pts,MkN m:=by
 intro b hb m hm
 have h1:¬ eL m=true:=fun h2=>h (by
  unfold eM;rw [List.any_eq_true]
  exact ⟨b,hb,List.any_eq_true.2 ⟨m,hm,h2⟩⟩)
 unfold eL at h1;simp only [Bool.or_eq_true,decide_eq_true_eq,not_or] at h1;exact ⟨by omega,by omega⟩
theorem ul {L:ag}(hF:LkF L) (h60:eM L.bodies≠true):Spl (bO L) (iI L):=by
 have hN:=nW h60;unfold bO iI jH;simp only [List.cons_append,List.append_assoc,List.nil_append]
 have h3:Spl (L.drivers.flatMap (aK L.bodies)) (L.drivers.flatMap (dj L.bodies)):=by
  have:=Spl.list (f:=aK L.bodies) (g:=dj L.bodies) (l:=L.drivers) Spl.nil fun d hd s K h=>Spl.driver hF.body (hF.driver d hd) (hF.ok.driver d hd) h
  simpa using this
 have h2:=Spl.list (f:=aG L.bodies) (g:=fl L.bodies) (l:=L.joints) h3 fun j hj s K h=>Spl.joint hF.body (hF.joint j hj) (hF.ok.joint j hj) h
 have h1:=Spl.list (f:=bp) (g:=iO) (l:=L.bodies) h2 fun b hb s K h=>by
  unfold bp;rw [List.append_assoc];exact Spl.body (hF.body b hb).name (fun m hm=>⟨((hF.body b hb).pts m hm).name,hN b hb m hm⟩) (.line h)
 exact Spl.word (x:=bi) (by decide) (d9 (by decide)) (.blank (.word hF.name (d9 (by decide)) (.sign (by decide) (.line h1))))
theorem Spl.out {s:List UInt8}{K:List (Nat × List UInt8)}(h:Spl s K) (hl:s.length≤65536):∃ l,aY s 0 l∧kt l=K:=by
 have h1:=h 1 1;have e:tk s 1 1=du s:=rfl;rw [e] at h1
 cases ht:du s with
 | err x=>rw [ht] at h1;cases h1
 | ok l =>
  rw [ht] at h1;injection h1 with h1;exact ⟨l,.ok hl ht rfl,h1⟩
/-! Reading. -/
theorem AtK.mark {s:PS}{m:ar}{K:List (Nat × List UInt8)}{L:ag}(h:AtK s (ig m ++ K) L) (hn:MkN m) (hF:MkF m) (hW:MkW m):s.mark.1=m∧AtK s.mark.2 K L:=by
 obtain ⟨e1,h1⟩:=AtK.word h;obtain ⟨vx,vq⟩:=qi hn.1;obtain ⟨wx,wq⟩:=qi hn.2;obtain ⟨e2,h2⟩:=h1.number vx;obtain ⟨e3,h3⟩:=h2.number wx;unfold PS.mark;refine ⟨?_,h3.expect⟩;rw [e1,e2,e3,vq,wq,gh hW.1.1 hW.1.2 hF.x,gh hW.2.1 hW.2.2 hF.y]
theorem AtK.marks:∀ {l:List ar}{f:Nat}{s:PS}{p:List ar}{K:List (Nat × List UInt8)}{L:ag},(∀ m∈l,MkN m∧MkF m∧MkW m)→l.length < f→AtK s (l.flatMap ig ++ (2,[125]) :: K) L→(PS.marks f s p).1=p ++ l∧AtK (PS.marks f s p).2 K L
 | [],f,s,p,K,L,_,hf,h=>by
  have hs:s.signHead=true:=by
   obtain ⟨u,r,e,e1,_,_⟩:=AtK.head (k:=2) (t:=[125]) (K:=K) h;unfold PS.signHead;rw [e];show (u.kind == 2)=true;rw [e1];rfl
  rw [fF (by omega) h.x hs];exact ⟨by simp,AtK.expect h⟩
 | m :: l,f,s,p,K,L,hl,hf,h=>by
  rw [List.flatMap_cons,List.append_assoc] at h
  have hs:s.signHead=false:=by
   obtain ⟨u,r,e,e1,_,_⟩:=AtK.head (k:=0) (t:=m.name) h;unfold PS.signHead;rw [e];show (u.kind == 2)=false;rw [e1];rfl
  rw [List.length_cons] at hf;rw [dA (by omega) h.x hs];obtain ⟨h1,h2,h3⟩:=hl m (by simp);obtain ⟨e1,h4⟩:=AtK.mark h h1 h2 h3;obtain ⟨e2,h5⟩:=AtK.marks (l:=l) (f:=f - 1) (p:=p ++ [s.mark.1]) (fun x hx=>hl x (by simp [hx])) (by omega) h4;refine ⟨?_,h5⟩;rw [e2,e1];simp
theorem pj (l:List Tkn):(kt l).length=l.length:=by unfold kt;simp
theorem j6:∀ (l:List ar),l.length≤(l.flatMap ig).length
 | []=>by simp
 | m :: l=>by
  have:=j6 l;rw [List.flatMap_cons,List.length_append,List.length_cons];show _≤4+_;omega
theorem AtK.body {s:PS}{b:ai}{K:List (Nat × List UInt8)}{L:ag}(h:AtK s ((0,b.name) :: (2,[123]) :: (b.pts.flatMap ig ++ (2,[125]) :: K)) L) (hb:∀ m∈b.pts,MkN m∧MkF m∧MkW m):s.body.1=b∧AtK s.body.2 K L:=by
 have hlen:b.pts.length < s.toks.length+1:=by
  have h1:=congrArg List.length h.k;rw [pj] at h1;have:=j6 b.pts;simp only [List.length_cons,List.length_append] at h1;omega
 obtain ⟨e1,h1⟩:=h.word;obtain ⟨e2,h2⟩:=AtK.marks (p:=[]) hb hlen h1.expect;refine ⟨?_,h2⟩;show (⟨s.word.1,(PS.marks (s.toks.length+1) (s.word.2.expect 2 [123]) []).1⟩:ai)=b;rw [e1,e2];rfl
theorem fL {α:Type}{nm:α→List UInt8}{l:List α}(hd:∀ {i j:Nat}{a b:α},l[i]?=some a→l[j]?=some b→nm a=nm b→i=j) {i:Nat}{a:α}(ha:l[i]?=some a):l.findIdx? (fun b=>nm b == nm a)=some i:=by
 obtain ⟨hi,e⟩:=List.getElem?_eq_some_iff.1 ha;rw [List.findIdx?_eq_some_iff_getElem];refine ⟨hi,by rw [e];simp,fun j hj=>?_⟩;intro h;have h2:nm l[j]=nm a:=by simpa using h
 have:=hd (List.getElem?_eq_getElem (by omega:j < l.length)) ha h2;omega
theorem AtK.named {s:PS}{K:List (Nat × List UInt8)}{L:ag}{nm:List UInt8}{i:Nat}{only:Int}(h:AtK s ((0,nm) :: K) L) (hf:fT L.bodies nm=some i) (ho:only < 0∨only=(i:Int)):(s.named only).1=(i:Int)∧AtK (s.named only).2 K L:=by
 obtain ⟨e1,h1⟩:=h.word;unfold PS.named;simp only;rw [if_neg (by rw [h1.x];simp),e1,h1.l,hf];show (i:Int)=(i:Int)∧AtK (if 0≤only∧(i:Int)≠only then s.word.2.fail 7 else s.word.2) K L;rw [if_neg (by rcases ho with h | h;omega;rw [h];simp)];exact ⟨rfl,h1⟩
theorem AtK.full {s:PS}{K:List (Nat × List UInt8)}{L:ag}{i j:Nat}{b:ai}{m:ar}{only:Int}(hb:L.bodies[i]?=some b) (hm:b.pts[j]?=some m) (h:AtK s (j5 L.bodies (i:Nat) (j:Nat) ++ K) L) (hf:fT L.bodies b.name=some i) (hg:jR b.pts m.name=some j) (ho:only < 0∨only=(i:Int)):(s.full only).1=(i:Int)∧(s.full only).2.1=(j:Int)∧AtK (s.full only).2.2 K L:=by
 rw [qj hb hm] at h;obtain ⟨e1,h1⟩:=AtK.named (K:=(2,[46]) :: (0,m.name) :: K) h hf ho;obtain ⟨e2,h2⟩:=h1.expect.word;unfold PS.full;simp only;rw [if_neg (by rw [h2.x];simp),e1,e2,h2.l,jc (n:=i) rfl hb,hg];exact ⟨rfl,rfl,h2⟩
theorem AtK.addJ {s:PS}{K:List (Nat × List UInt8)}{L:ag}(h:AtK s K L) (j:aM):AtK (s.addJ j) K { L with joints:=L.joints ++ [j] }:=⟨h.x,h.k,by
 show ({ s.L with joints:=s.L.joints ++ [j] }:ag)=_
 rw [h.l]⟩
theorem AtK.joint {s:PS}{K:List (Nat × List UInt8)}{L:ag}(hB:∀ b∈L.bodies,BdF b) (hd:∀ {i j:Nat}{a b:ai},L.bodies[i]?=some a→L.bodies[j]?=some b→a.name=b.name→i=j) {j:aM}(hj:iZ L.bodies j) (h:AtK s (fl L.bodies j ++ K) L):AtK s.item K { L with joints:=L.joints ++ [j] }:=by
 obtain ⟨_,a,b,p,o,x,y,m1,m2,ea,eb,ep,eo,hx,hy,hm1,hm2,hk⟩:=hj;have bx:=hB x (List.mem_of_getElem? hx);have by_:=hB y (List.mem_of_getElem? hy);have fx:fT L.bodies x.name=some a:=fL (nm:=ai.name) hd hx;have fy:fT L.bodies y.name=some b:=fL (nm:=ai.name) hd hy;have g1:jR x.pts m1.name=some p:=fL (nm:=ar.name) bx.dist hm1;have g2:jR y.pts m2.name=some o:=fL (nm:=ar.name) by_.dist hm2;unfold fl at h;rcases hk with ⟨k0,t0⟩ | ⟨k1,t,m3,et,hm3⟩
 ·rw [if_neg (by omega),if_neg (by omega),ea,eb,ep,eo] at h
  simp only [List.cons_append,List.append_assoc,List.nil_append] at h;obtain ⟨e0,h0⟩:=h.word;obtain ⟨e1,h1⟩:=h0.word;obtain ⟨e2,e3,h2⟩:=AtK.full (only:=-1) hx hm1 h1 fx g1 (.inl (by decide));obtain ⟨e4,e5,h3⟩:=AtK.full (only:=-1) hy hm2 h2 fy g2 (.inl (by decide));unfold PS.item;simp only;rw [e0,if_neg (by decide),if_pos rfl];unfold PS.joint;simp only [Bool.false_eq_true,if_false]
  have hj:(⟨j.name,0,(a:Int),(p:Int),(b:Int),(o:Int),0⟩:aM)=j:=by
   obtain ⟨jn,jk,ja,jp,jb,jo,jt⟩:=j;simp only at ea eb ep eo k0 t0;subst ea eb ep eo k0 t0;rfl
  rw [e1,e2,e3,e4,e5,hj];exact h3.expect.addJ j
 have g3:jR y.pts m3.name=some t:=fL (nm:=ar.name) by_.dist hm3;rw [if_pos k1,if_pos k1,ea,eb,ep,eo,et] at h;simp only [List.cons_append,List.append_assoc,List.nil_append] at h;obtain ⟨e0,h0⟩:=h.word;obtain ⟨e1,h1⟩:=h0.word;obtain ⟨e2,e3,h2⟩:=AtK.full (only:=-1) hx hm1 h1 fx g1 (.inl (by decide));obtain ⟨e4,e5,h3⟩:=AtK.full (only:=-1) hy hm2 h2 fy g2 (.inl (by decide));obtain ⟨e6,e7,h4⟩:=AtK.full (only:=(b:Int)) hy hm3 h3 fy g3 (.inr rfl);unfold PS.item;simp only;rw [e0,if_neg (by decide),if_neg (by decide),if_pos rfl];unfold PS.joint;simp only [if_true]
 have hj:(⟨j.name,1,(a:Int),(p:Int),(b:Int),(o:Int),(t:Int)⟩:aM)=j:=by
  obtain ⟨jn,jk,ja,jp,jb,jo,jt⟩:=j;simp only at ea eb ep eo k1 et;subst ea eb ep eo k1 et;rfl
 rw [e4,e1,e2,e3,e5,e7,hj];exact h4.expect.addJ j
theorem AtK.driver {s:PS}{K:List (Nat × List UInt8)}{L:ag}(hd:∀ {i j:Nat}{a b:ai},L.bodies[i]?=some a→L.bodies[j]?=some b→a.name=b.name→i=j) {d:aV}(hj:gR L.bodies d) (h:AtK s (dj L.bodies d ++ K) L):AtK s.item K { L with drivers:=L.drivers ++ [d] }:=by
 obtain ⟨_,i,b,ei,hb⟩:=hj;have fb:fT L.bodies b.name=some i:=fL (nm:=ai.name) hd hb;unfold dj at h;rw [ei,lY hb] at h;simp only [List.cons_append,List.nil_append] at h;obtain ⟨e0,h0⟩:=h.word;obtain ⟨e1,h1⟩:=h0.word;obtain ⟨e2,h2⟩:=AtK.named (only:=-1) h1 fb (.inl (by decide));unfold PS.item;simp only;rw [e0,if_neg (by decide),if_neg (by decide),if_neg (by decide),if_pos rfl];unfold PS.driver;simp only;refine ⟨h2.expect.x,h2.expect.k,?_⟩;show ({ (PS.expect _ 2 [59]).L with drivers:=_ }:ag)=_;rw [h2.expect.l,e1,e2];obtain ⟨dn,db⟩:=d;simp only at ei;subst ei;rfl
theorem AtK.bodyI {s:PS}{K:List (Nat × List UInt8)}{L:ag}{b:ai}(hb:∀ m∈b.pts,MkN m∧MkF m∧MkW m) (h:AtK s (iO b ++ K) L):AtK s.item K { L with bodies:=L.bodies ++ [b] }:=by
 unfold iO at h;simp only [List.cons_append,List.append_assoc,List.nil_append] at h;obtain ⟨e0,h0⟩:=h.word;obtain ⟨e1,h1⟩:=AtK.body h0 hb;unfold PS.item;simp only;rw [e0,if_pos rfl];refine ⟨h1.x,h1.k,?_⟩;show ({ s.word.2.body.2.L with bodies:=_ }:ag)=_;rw [h1.l,e1]
def f9 (s:PS) (L:ag):Prop:=∀ f,s.toks.length < f→(PS.items f s).x=0∧(PS.items f s).L=L
theorem f9.nil {s:PS}{L:ag}(h:AtK s [] L):f9 s L:=fun f _=>by
 have e:s.toks=[]:=List.eq_nil_of_length_eq_zero (by have:=congrArg List.length h.k;rw [pj] at this;simpa using this);rw [lg (by rw [e];simp)];exact ⟨h.x,h.l⟩
theorem f9.step {s:PS}{p:Nat × List UInt8}{K K':List (Nat × List UInt8)}{M M' L:ag}(h:AtK s (p :: K) M) (h':AtK s.item K' M') (k:f9 s.item L):f9 s L:=fun f hf=>by
 obtain ⟨u,r,e,_,_,_⟩:=AtK.head (k:=p.1) (t:=p.2) h;have h1:=(nJ s).2 h'.x;rw [jU (by omega) ⟨h.x,by rw [e];simp⟩];exact k _ (by omega)
theorem f9.list {α:Type}{g:α→List (Nat × List UInt8)}(add:ag→α→ag) (P:ag→Prop) {K:List (Nat × List UInt8)}{L:ag}:∀ (l:List α) (s:PS) (M:ag),(∀ a∈l,∃ p q,g a=p :: q)→(∀ a∈l,∀ s K M,P M→AtK s (g a ++ K) M→AtK s.item K (add M a)∧P (add M a))→P M→(∀ s,AtK s K (l.foldl add M)→P (l.foldl add M)→f9 s L)→AtK s (l.flatMap g ++ K) M→f9 s L
 | [],s,M,_,_,hp,hk,h=>hk s h hp
 | a :: l,s,M,hne,hs,hp,hk,h=>by
  rw [List.flatMap_cons,List.append_assoc] at h;obtain ⟨h1,h2⟩:=hs a (by simp) s _ M hp h;obtain ⟨p,q,e⟩:=hne a (by simp);rw [e,List.cons_append] at h;exact f9.step h h1 (f9.list add P l s.item (add M a) (fun x hx=>hne x (by simp [hx])) (fun x hx=>hs x (by simp [hx])) h2 hk h1)
theorem xC (l:List ai):∀ M:ag,l.foldl (fun M b=>{ M with bodies:=M.bodies ++ [b] }) M={ M with bodies:=M.bodies ++ l }:=by
 induction l with
 | nil=>intro M;simp
 | cons a l ih=>intro M;rw [List.foldl_cons,ih];simp
theorem xF (l:List aM):∀ M:ag,l.foldl (fun M b=>{ M with joints:=M.joints ++ [b] }) M={ M with joints:=M.joints ++ l }:=by
 induction l with
 | nil=>intro M;simp
 | cons a l ih=>intro M;rw [List.foldl_cons,ih];simp
theorem xG (l:List aV):∀ M:ag,l.foldl (fun M b=>{ M with drivers:=M.drivers ++ [b] }) M={ M with drivers:=M.drivers ++ l }:=by
 induction l with
 | nil=>intro M;simp
 | cons a l ih=>intro M;rw [List.foldl_cons,ih];simp
theorem rK {l:List Tkn}{L:ag}(hk:kt l=iI L) (hF:LkF L) (hW:LkW L) (h60:eM L.bodies≠true):(cF l).x=0∧(cF l).L=L:=by
 have hN:=nW h60;have h0:AtK (⟨l,L0,0⟩:PS) (iI L) L0:=⟨rfl,hk,rfl⟩;unfold iI at h0;obtain ⟨e1,h1⟩:=h0.expect.word;unfold cF;simp only
 have h2:AtK ({ (((⟨l,L0,0⟩:PS).expect 0 bi).word.2) with L:={ (((⟨l,L0,0⟩:PS).expect 0 bi).word.2).L with name:=(((⟨l,L0,0⟩:PS).expect 0 bi).word.1) } }:PS) ((2,[59]) :: (L.bodies.flatMap iO ++ (L.joints.flatMap (fl L.bodies) ++ L.drivers.flatMap (dj L.bodies)))) ⟨L.name,[],[],[]⟩:=⟨h1.x,h1.k,by
  show ({ (((⟨l,L0,0⟩:PS).expect 0 bi).word.2).L with name:=(((⟨l,L0,0⟩:PS).expect 0 bi).word.1) }:ag)=_
  rw [h1.l,e1];rfl⟩
 have h3:=h2.expect
 have hl:(({ (((⟨l,L0,0⟩:PS).expect 0 bi).word.2) with L:={ (((⟨l,L0,0⟩:PS).expect 0 bi).word.2).L with name:=(((⟨l,L0,0⟩:PS).expect 0 bi).word.1) } }:PS).expect 2 [59]).toks.length < l.length+1:=by
  have a1:=congrArg List.length h3.k;have a2:=congrArg List.length hk;unfold iI at a2;rw [pj] at a1 a2;rw [a1,a2];simp only [List.length_cons];omega
 generalize ({ (((⟨l,L0,0⟩:PS).expect 0 bi).word.2) with L:={ (((⟨l,L0,0⟩:PS).expect 0 bi).word.2).L with name:=(((⟨l,L0,0⟩:PS).expect 0 bi).word.1) } }:PS).expect 2 [59]=s at h3 hl ⊢
 have key:f9 s L:=by
  refine f9.list (g:=iO) (fun M b=>{ M with bodies:=M.bodies ++ [b] }) (fun _=>True) L.bodies s _ (fun b _=>⟨_,_,rfl⟩) (fun b hb s K M _ h=>⟨AtK.bodyI (fun m hm=>⟨hN b hb m hm,(hF.body b hb).pts m hm,hW b hb m hm⟩) h,trivial⟩) trivial (fun s h _=>?_) h3;rw [xC,List.nil_append] at h;refine f9.list (g:=fl L.bodies) (fun M b=>{ M with joints:=M.joints ++ [b] }) (fun M=>M.bodies=L.bodies) L.joints s ⟨L.name,L.bodies,[],[]⟩ (fun b _=>⟨_,_,rfl⟩) (fun j hj s K M hM h=>⟨?_,hM⟩) rfl (fun s h hM=>?_) h
  ·rw [← hM] at h
   exact AtK.joint (by rw [hM];exact hF.body) (by rw [hM];exact hF.dist) (by rw [hM];exact hF.ok.joint j hj) h
  rw [xF,List.nil_append] at h;rw [← List.append_nil (L.drivers.flatMap _)] at h;refine f9.list (g:=dj L.bodies) (fun M b=>{ M with drivers:=M.drivers ++ [b] }) (fun M=>M.bodies=L.bodies) L.drivers s ⟨L.name,L.bodies,L.joints,[]⟩ (fun b _=>⟨_,_,rfl⟩) (fun d hd s K M hM h=>⟨?_,hM⟩) rfl (fun s h _=>?_) h
  ·rw [← hM] at h
   exact AtK.driver (by rw [hM];exact hF.dist) (by rw [hM];exact hF.ok.driver d hd) h
  rw [xG,List.nil_append] at h;exact f9.nil h
 exact key _ hl
theorem rL {L:ag}(h:be L=0) (hW:LkW L):fE (bO L) 0 L:=by
 have hlk:bT L=0:=by
  unfold be at h;split at h
  ·exact h
  rename_i h0;simpa using h0
 have hle:eM L.bodies≠true∧(bO L).length≤65536:=by
  unfold be at h;split at h
  ·rename_i h0;exact absurd h h0
  split at h
  ·cases h
  rename_i h0;exact ⟨fun h1=>h0 (.inl h1),Nat.le_of_not_lt fun h=>h0 (.inr h)⟩
 have hF:=jJ hlk;obtain ⟨l,hs,hk⟩:=(ul hF hle.1).out hle.2;obtain ⟨h1,h2⟩:=rK hk hF hW hle.1;exact .ok l hs h1 (by rw [h2];exact hlk) rfl h2.symm
structure xH where
  a:Nat
  s:Nat
  T:TypeId
  Z:Array Value
  PS:Array Value→World→Prop
structure vO where
  g:Nat
  s:Nat
  o:Nat
  T:TypeId
  Z:Array Value
  PS:Array Value→World→Prop
def zh (ops:Array Oper) (fr:(Nat→Value)→Act) (R:Nat→Value→World→Prop) (es:List xH) (ow:List vO) (B:Nat) (W:World) (L:Array Bool) (a:Act) (w:World):Prop :=
  ∃ x,a=fr x∧(Below B W w∧Below B W w)∧(∀ i,L.getD i false=true→R i (x i) w) ∧
  (∀ i o,ops[i]?=some o→L.getD i false=true→∀ e∈o.after,Region.binds .any e=true→L.getD e.on false=true) ∧
  (∀ f∈es,L.getD f.a false=true→∃ g c,x f.a=.pointer (some ⟨g,0,none⟩)∧W.heap.size≤g∧Blk w g f.T c∧(L.getD f.s false=false→c=f.Z)∧(L.getD f.s false=true→f.PS c w)) ∧
  (∀ f∈es,∀ f'∈es,f.a≠f'.a→L.getD f.a false=true→L.getD f'.a false=true→x f.a≠x f'.a) ∧
  (∀ f∈ow,∃ c,Blk w f.g f.T c∧(L.getD f.s false=false→c=f.Z)∧(L.getD f.s false=true→f.PS c w))

section
variable (P:Program) (ops:Array Oper) (Q:Exit→Act→World→Prop) (fr:(Nat→Value)→Act) (R:Nat→Value→World→Prop) (es:List xH) (ow:List vO) (B:Nat) (W:World)
def um (i:Nat) (o:Oper):Prop:=(∀ f∈es,i≠f.a∧i≠f.s)∧(∀ f∈ow,i≠f.s) ∧
  ∀ x w,Below B W w→(∀ f∈ow,(∀ o',ops[f.s]?=some o'→∃ e∈o'.after,Region.binds .any e=true∧e.on=i)→Blk w f.g f.T f.Z)→(∀ e∈o.after,Region.binds .any e=true→R e.on (x e.on) w)→∀ K':Act→World→Prop,Shut (∀ v w',R i v w'→Below w.heap.size w w'→K' ((fr x).put o.dst v) w') →
    if Region.wanted o (yielded ops (fr x).tmps)=true then Oper.wp P o (fr x) w K' Q else K' ((fr x).put o.dst undef) w
def pk (i:Nat) (o:Oper):Prop:=∃ f∈es,i=f.a∧(∀ f'∈es,i≠f'.s)∧(∀ f'∈ow,i≠f'.s)∧(∀ f'∈es,f'.a=i→f'=f)∧(∀ v w,R i v w) ∧
  ∀ x w,∀ K':Act→World→Prop,Shut (K' ((fr x).put o.dst (.pointer (some ⟨w.heap.size,0,none⟩))) (w.alloc (.cells f.Z f.T))) →
    if Region.wanted o (yielded ops (fr x).tmps)=true then Oper.wp P o (fr x) w K' Q else K' ((fr x).put o.dst undef) w
def pm (i:Nat) (o:Oper):Prop:=∃ f∈es,i=f.s∧(∀ f'∈es,i≠f'.a)∧(∀ f'∈ow,i≠f'.s)∧(∀ f'∈es,f'.s=i→f'=f)∧(∀ f'∈es,f'.a=f.a→f'=f)∧True∧(∀ v w,R i v w)∧(∃ e∈o.after,Region.binds .any e=true∧e.on=f.a) ∧
  ∀ x w g,x f.a=.pointer (some ⟨g,0,none⟩)→Blk w g f.T f.Z→(∀ e∈o.after,Region.binds .any e=true→R e.on (x e.on) w) →
    ∃ us,(∀ w',Below B w w'→f.PS (uW f.Z 0 us) w')∧∀ K':Act→World→Prop,Shut (∀ v,K' ((fr x).put o.dst v) (cP w g 0 us)) →
      if Region.wanted o (yielded ops (fr x).tmps)=true then Oper.wp P o (fr x) w K' Q else K' ((fr x).put o.dst undef) w
def un (i:Nat) (o:Oper):Prop:=∃ f∈ow,i=f.s∧(∀ f'∈es,i≠f'.a∧i≠f'.s)∧(∀ f'∈ow,f'.s=i→f'=f)∧True∧(∀ v w,R i v w) ∧
  ∀ x w,Blk w f.g f.T f.Z→(∀ e∈o.after,Region.binds .any e=true→R e.on (x e.on) w) →
    ∃ us,(∀ w',Below B w w'→f.PS (uW f.Z f.o us) w')∧∀ K':Act→World→Prop,Shut (∀ v,K' ((fr x).put o.dst v) (cP w f.g f.o us)) →
      if Region.wanted o (yielded ops (fr x).tmps)=true then Oper.wp P o (fr x) w K' Q else K' ((fr x).put o.dst undef) w
end
section
variable {P:Program}{ops:Array Oper}{Q:Exit→Act→World→Prop}{fr:(Nat→Value)→Act}{R:Nat→Value→World→Prop}{es:List xH}{ow:List vO}{B:Nat}
theorem kx {id:Nat}{w:World}{x0:Nat→Value}(hm:P.follows .mixedOrders=true)
 (hput:∀ i o,ops[i]?=some o→∀ x v,(fr x).put o.dst v=fr (upd x i v))
 (hac:∀ i o,ops[i]?=some o→∀ e∈o.after,Region.binds .any e=true→e.on < i)
 (hR:∀ i v w w',R i v w→Below B w w'→R i v w')
 (hPS:∀ f∈es,∀ c w w',f.PS c w→Below B w w'→f.PS c w')
 (hPO:∀ f∈ow,∀ c w w',f.PS c w→Below B w w'→f.PS c w')
 (hfs:∀ f∈es,f.a < ops.size∧f.s < ops.size)
 (hB:B≤w.heap.size)
 (hO:∀ f∈ow,Blk w f.g f.T f.Z∧B≤f.g)
 (hOd:∀ f∈ow,∀ f'∈ow,f.g=f'.g→f=f')
 (hstep:∀ i o,ops[i]?=some o→um P ops Q fr R es ow B w i o∨pk P ops Q fr R es ow i o∨pm P ops Q fr R es ow B i o∨un P ops Q fr R es ow B i o)
 (hend:∀ x w',Below B w w'→Below B w w'→w.heap.size≤w'.heap.size→(∀ f∈ow,∃ c,Blk w' f.g f.T c∧(ops.size≤f.s→c=f.Z)∧(f.s < ops.size→f.PS c w'))→(∀ i,i < ops.size→R i (x i) w')→(∀ f∈es,∃ g c,x f.a=.pointer (some ⟨g,0,none⟩)∧w.heap.size≤g∧Blk w' g f.T c∧f.PS c w')→(∀ f∈es,∀ f'∈es,f.a≠f'.a→x f.a≠x f'.a)→Q .normal (fr x) w') :
 (Code.region id ops true).wp P Q (fr x0) w:=by
 refine wp_region_any hm (kN (fun L a w'=>w.heap.size≤w'.heap.size∧zh ops fr R es ow B w L a w') ?_ ?_ _ _ _ _ (by simp) ?_ ?_)
 ·rintro L a w1 i hs hi ⟨hsz,x,rfl,⟨hkW,hb⟩,hr,hcl,hf,hd,how⟩
  obtain ⟨hun,o,ho,hall⟩:=mem_ready.1 hi
  have hlt:i < L.size:=by
   rcases Nat.lt_or_ge i L.size with h | h
   ·exact h
   rw [Array.getD_eq_getD_getElem?,Array.getElem?_eq_none h] at hun;cases hun
  have hunf:L.getD i false=false:=by
   rw [Array.getD_eq_getD_getElem?,Array.getElem?_eq_getElem hlt] at hun ⊢;exact hun
  have hdep:∀ e∈o.after,Region.binds .any e=true→R e.on (x e.on) w1:=fun e he hbd=>hr _ (hall e he hbd)
  have hcl':∀ i' o',ops[i']?=some o'→(L.setIfInBounds i true).getD i' false=true→∀ e∈o'.after,Region.binds .any e=true→(L.setIfInBounds i true).getD e.on false=true:=by
   intro i' o' ho' hl e he hbd;rw [av hlt] at hl ⊢;by_cases h:i'=i
   ·subst h;rw [ho] at ho';injection ho' with ho';subst ho'
    rw [hall e he hbd];simp
   have:L.getD i' false=true:=by simpa [h] using hl
   rw [hcl i' o' ho' this e he hbd];simp
  refine wpOp_step ho fun K' hK=>?_
  have hsno:∀ f∈ow,(∀ o',ops[f.s]?=some o'→∃ e∈o'.after,Region.binds .any e=true∧e.on=i)→Blk w1 f.g f.T f.Z:=by
   intro f hfo hdd;obtain ⟨c,c1,c2,_⟩:=how f hfo
   have:L.getD f.s false=false:=by
    cases h:L.getD f.s false
    ·rfl
    exfalso
    have hlt2:f.s < ops.size:=by
     rcases Nat.lt_or_ge f.s L.size with h2 | h2
     ·omega
     rw [Array.getD_eq_getD_getElem?,Array.getElem?_eq_none h2] at h;cases h
    obtain ⟨e,he,hbd,hea⟩:=hdd _ (Array.getElem?_eq_getElem hlt2);have:=hcl f.s _ (Array.getElem?_eq_getElem hlt2) h e he hbd;rw [hea,hunf] at this;cases this
   rw [← c2 this];exact c1
  have howk:∀ w',Below B w1 w'→(∀ g t c,Blk w1 g t c→(∃ f∈ow,f.g=g)→Blk w' g t c)→(∀ f∈ow,i≠f.s)→∀ f∈ow,∃ c,Blk w' f.g f.T c∧((L.setIfInBounds i true).getD f.s false=false→c=f.Z)∧((L.setIfInBounds i true).getD f.s false=true→f.PS c w'):=by
   intro w' hkp hbl hne f hfo;obtain ⟨c,c1,c2,c3⟩:=how f hfo;have n2:=hne f hfo;refine ⟨c,hbl _ _ _ c1 ⟨f,hfo,rfl⟩,fun h=>c2 ?_,fun h=>hPO f hfo _ _ _ (c3 ?_) hkp⟩
   ·rw [av hlt] at h;simpa [Ne.symm n2] using h
   rw [av hlt] at h;simpa [Ne.symm n2] using h
  rcases hstep i o ho with ⟨hno,hnow,hv⟩ | ⟨f,hf1,rfl,hnos,hnow,huniq,hRi,hv⟩ | ⟨f,hf1,rfl,hnoa,hnow,huniq,huniqa,hT,hRi,⟨e,he,hbd,hea⟩,hv⟩ | ⟨f,hf1,rfl,hnoe,huniq,hT,hRi,hv⟩
  ·refine hv x w1 hkW hsno hdep K' (fun v w' hRv hbw=>hK _ _ ?_)
   have hkp:Below B w1 w':=(hbw.mono (Nat.le_trans hB hsz));refine ⟨Nat.le_trans hsz hbw.size,upd x i v,hput i o ho x v,⟨hkW.trans hkp,hb.trans (hbw.mono (Nat.le_trans hB hsz))⟩,fun j hj=>?_,hcl',fun f hfe hfa=>?_,fun f hfe f' hfe' hne h1 h2=>?_,howk w' hkp (fun g t c h _=>h.below hbw h.lt) hnow⟩
   ·by_cases h:j=i
    ·subst h;rw [eS];exact hRv
    rw [bf _ _ h];rw [av hlt] at hj;exact hR _ _ _ _ (hr j (by simpa [h] using hj)) hkp
   ·rw [av hlt] at hfa
    have n1:=(hno f hfe).1;have n2:=(hno f hfe).2;rw [bf _ _ (Ne.symm n1)];obtain ⟨g,c,e1,e2,e3,e4,e5⟩:=hf f hfe (by simpa [Ne.symm n1] using hfa);refine ⟨g,c,e1,e2,e3.below hbw e3.lt,fun h=>e4 ?_,fun h=>hPS f hfe _ _ _ (e5 ?_) hkp⟩
    ·rw [av hlt] at h;simpa [Ne.symm n2] using h
    rw [av hlt] at h;simpa [Ne.symm n2] using h
   rw [av hlt] at h1 h2;have n1:=(hno f hfe).1;have n2:=(hno f' hfe').1;rw [bf _ _ (Ne.symm n1),bf _ _ (Ne.symm n2)];exact hd f hfe f' hfe' hne (by simpa [Ne.symm n1] using h1) (by simpa [Ne.symm n2] using h2)
  ·refine hv x w1 K' (hK _ _ ?_)
   have hkp:Below B w1 (w1.alloc (.cells f.Z f.T)):=((Below.refl B w1).alloc (Nat.le_trans hB hsz) _)
   have hsl:L.getD f.s false=false:=by
    cases h:L.getD f.s false
    ·rfl
    exfalso;obtain ⟨o',ho'⟩:∃ o',ops[f.s]?=some o':=⟨_,Array.getElem?_eq_getElem (hfs f hf1).2⟩;rcases hstep f.s o' ho' with ⟨hno,_⟩ | ⟨f2,hf2,e2,hnos2,_⟩ | ⟨f2,hf2,e2,_,_,hu2,_,_,_,⟨e,he,hbd,hea⟩,_⟩ | ⟨f2,hf2,e2,hno2,_⟩
    ·exact (hno f hf1).2 rfl
    ·exact hnos2 f hf1 rfl
    ·have:=hu2 f hf1 rfl
     subst this;have:=hcl f.s o' ho' h e he hbd;rw [hea] at this;rw [this] at hunf;cases hunf
    exact (hno2 f hf1).2 rfl
   refine ⟨by simp;omega,upd x f.a _,hput f.a o ho x _,⟨hkW.alloc (Nat.le_trans hB hsz) _,hb.alloc (Nat.le_trans hB hsz) _⟩,fun j hj=>?_,hcl',fun f' hfe hfa=>?_,fun f1 hfe f2 hfe' hne h1 h2=>?_,howk _ hkp (fun g t c h _=>h.alloc _) hnow⟩
   ·by_cases h:j=f.a
    ·subst h;exact hRi _ _
    rw [bf _ _ h];rw [av hlt] at hj;exact hR _ _ _ _ (hr j (by simpa [h] using hj)) hkp
   ·by_cases h:f'.a=f.a
    ·have:=huniq f' hfe h
     subst this;rw [eS];refine ⟨_,_,rfl,hsz,Blk.new _ _ _,fun _=>rfl,fun h'=>?_⟩;rw [av hlt,hsl] at h';have:f'.s=f'.a:=by simpa using h'
     exact absurd this.symm (hnos f' hfe)
    rw [bf _ _ h];rw [av hlt] at hfa;have n2:=hnos f' hfe;obtain ⟨g,c,e1,e2,e3,e4,e5⟩:=hf f' hfe (by simpa [h] using hfa);refine ⟨g,c,e1,e2,e3.alloc _,fun h=>e4 ?_,fun h=>hPS f' hfe _ _ _ (e5 ?_) hkp⟩
    ·rw [av hlt] at h;simpa [Ne.symm n2] using h
    rw [av hlt] at h;simpa [Ne.symm n2] using h
   rw [av hlt] at h1 h2
   have fresh:∀ f3∈es,f3.a≠f.a→L.getD f3.a false=true→x f3.a≠.pointer (some ⟨w1.heap.size,0,none⟩):=by
    intro f3 h3 hne3 hl3 heq;obtain ⟨g,c,e1,e2,e3,_⟩:=hf f3 h3 hl3;rw [e1] at heq;have hg:=e3.lt;injection heq with heq;injection heq with heq;injection heq with heq;omega
   by_cases c1:f1.a=f.a
   ·have c2:f2.a≠f.a:=fun h=>hne (c1.trans h.symm)
    rw [c1,eS,bf _ _ c2];exact (fresh f2 hfe' c2 (by simpa [c2] using h2)).symm
   rw [bf _ _ c1];by_cases c2:f2.a=f.a
   ·rw [c2,eS];exact fresh f1 hfe c1 (by simpa [c1] using h1)
   rw [bf _ _ c2];exact hd f1 hfe f2 hfe' hne (by simpa [c1] using h1) (by simpa [c2] using h2)
  ·have hal:L.getD f.a false=true:=by rw [← hea];exact hall e he hbd
   obtain ⟨g,c,e1,e2,e3,e4,e5⟩:=hf f hf1 hal;have hc:=e4 hunf;subst hc;obtain ⟨us,hus,hv⟩:=hv x w1 g e1 e3 hdep;refine hv K' (fun v=>hK _ _ ?_);have hkp:Below B w1 (cP w1 g 0 us):=cQ (Nat.le_trans hB e2) us 0 w1 (Below.refl _ _);have hnb:∀ f3∈es,f3.a≠f.s:=fun f3 h3 h=>hnoa f3 h3 h.symm
   refine ⟨Nat.le_trans hsz (Nat.le_of_eq (gq us 0 w1).symm),upd x f.s v,hput f.s o ho x v,⟨hkW.trans hkp,cQ (Nat.le_trans hB e2) us 0 w1 hb⟩,fun j hj=>?_,hcl',fun f' hfe hfa=>?_,fun f1 hfe f2 hfe' hne h1 h2=>?_,howk _ hkp (fun g2 t c h hex=>dF (by obtain ⟨f2,h2,rfl⟩:=hex;have:=(hO f2 h2).1.lt;omega) us 0 w1 h) hnow⟩
   ·by_cases h:j=f.s
    ·subst h;exact hRi _ _
    rw [bf _ _ h];rw [av hlt] at hj;exact hR _ _ _ _ (hr j (by simpa [h] using hj)) hkp
   ·rw [bf _ _ (hnb f' hfe)]
    rw [av hlt] at hfa;by_cases h:f'.a=f.a
    ·have:=huniqa f' hfe h
     subst this;refine ⟨g,_,e1,e2,iL us 0 w1 _ e3,fun h'=>?_,fun _=>hus _ hkp⟩;rw [av hlt] at h';simp at h'
    have n2:f'.s≠f.s:=fun h2=>h (by rw [huniq f' hfe h2])
    obtain ⟨g',c',d1,d2,d3,d4,d5⟩:=hf f' hfe (by simpa [hnb f' hfe] using hfa)
    have hgg:g'≠g:=by
     rintro rfl;exact hd f' hfe f hf1 h (by simpa [hnb f' hfe] using hfa) hal (d1.trans e1.symm)
    refine ⟨g',c',d1,d2,dF hgg us 0 w1 d3,fun h=>d4 ?_,fun h=>hPS f' hfe _ _ _ (d5 ?_) hkp⟩
    ·rw [av hlt] at h;simpa [n2] using h
    rw [av hlt] at h;simpa [n2] using h
   rw [av hlt] at h1 h2;rw [bf _ _ (hnb f1 hfe),bf _ _ (hnb f2 hfe')];exact hd f1 hfe f2 hfe' hne (by simpa [hnb f1 hfe] using h1) (by simpa [hnb f2 hfe'] using h2)
  obtain ⟨c,c1,c2,_⟩:=how f hf1;have hc:=c2 hunf;subst hc;obtain ⟨us,hus,hv⟩:=hv x w1 c1 hdep;refine hv K' (fun v=>hK _ _ ?_);have hkp:Below B w1 (cP w1 f.g f.o us):=cQ (hO f hf1).2 us f.o w1 (Below.refl _ _);have hna:∀ f3∈es,f3.a≠f.s:=fun f3 h3 h=>(hnoe f3 h3).1 h.symm
  have hns:∀ f3∈es,f3.s≠f.s:=fun f3 h3 h=>(hnoe f3 h3).2 h.symm
  have hgl:=(hO f hf1).1.lt;refine ⟨Nat.le_trans hsz (Nat.le_of_eq (gq us f.o w1).symm),upd x f.s v,hput f.s o ho x v,⟨hkW.trans hkp,cQ (hO f hf1).2 us f.o w1 hb⟩,fun j hj=>?_,hcl',fun f' hfe hfa=>?_,fun f1 hfe f2 hfe' hne h1 h2=>?_,fun f' hfo=>?_⟩
  ·by_cases h:j=f.s
   ·subst h;exact hRi _ _
   rw [bf _ _ h];rw [av hlt] at hj;exact hR _ _ _ _ (hr j (by simpa [h] using hj)) hkp
  ·rw [bf _ _ (hna f' hfe)]
   rw [av hlt] at hfa;have n2:=hns f' hfe;obtain ⟨g',c',d1,d2,d3,d4,d5⟩:=hf f' hfe (by simpa [hna f' hfe] using hfa);refine ⟨g',c',d1,d2,dF (by omega) us f.o w1 d3,fun h=>d4 ?_,fun h=>hPS f' hfe _ _ _ (d5 ?_) hkp⟩
   ·rw [av hlt] at h;simpa [n2] using h
   rw [av hlt] at h;simpa [n2] using h
  ·rw [av hlt] at h1 h2
   rw [bf _ _ (hna f1 hfe),bf _ _ (hna f2 hfe')];exact hd f1 hfe f2 hfe' hne (by simpa [hna f1 hfe] using h1) (by simpa [hna f2 hfe'] using h2)
  by_cases h:f'.s=f.s
  ·have:=huniq f' hfo h
   subst this;refine ⟨_,iL us f'.o w1 _ c1,fun h'=>?_,fun _=>hus _ hkp⟩;rw [av hlt] at h';simp at h'
  obtain ⟨c',d3,d4,d5⟩:=how f' hfo;have hgg:f'.g≠f.g:=fun h2=>h (by rw [hOd f' hfo f hf1 h2])
  refine ⟨c',dF hgg us f.o w1 d3,fun h2=>d4 ?_,fun h2=>hPO f' hfo _ _ _ (d5 ?_) hkp⟩
  ·rw [av hlt] at h2;simpa [h] using h2
  rw [av hlt] at h2;simpa [h] using h2
 ·rintro L a w1 hs hr0 ⟨hsz,x,rfl,⟨hkW,hb⟩,hr,hcl,hf,hd,how⟩
  have hallL:∀ i,i < ops.size→L.getD i false=true:=by
   intro i
   induction i using Nat.strongRecOn with
   | ind i ih =>
    intro hi;cases h:L.getD i false
    ·exfalso
     have:i∈Region.ready .any ops L:=by
      refine mem_ready.2 ⟨?_,ops[i],Array.getElem?_eq_getElem hi,fun e he hbd=>?_⟩
      ·rw [Array.getD_eq_getD_getElem?,Array.getElem?_eq_getElem (by omega)] at h ⊢;exact h
      have h1:=hac i _ (Array.getElem?_eq_getElem hi) e he hbd;exact ih e.on h1 (by omega)
     rw [hr0] at this;cases this
    rfl
  refine hend x w1 hkW hb hsz (fun f hfo=>?_) (fun i hi=>hr i (hallL i hi)) (fun f hfe=>?_) (fun f hfe f' hfe' hne=>hd f hfe f' hfe' hne (hallL _ (hfs f hfe).1) (hallL _ (hfs f' hfe').1))
  ·obtain ⟨c,c1,c2,c3⟩:=how f hfo
   refine ⟨c,c1,fun h=>c2 ?_,fun h=>c3 (hallL _ h)⟩;rw [Array.getD_eq_getD_getElem?,Array.getElem?_eq_none (by omega)];rfl
  obtain ⟨g,c,e1,e2,e3,_,e5⟩:=hf f hfe (hallL _ (hfs f hfe).1);exact ⟨g,c,e1,e2,e3,e5 (hallL _ (hfs f hfe).2)⟩
 ·simp
 ·have hz:∀ j,(Array.replicate ops.size false).getD j false=false:=by
   intro j;rw [Array.getD_eq_getD_getElem?,Array.getElem?_replicate];split <;> rfl
  refine ⟨Qr,x0,rfl,⟨(Below.refl B w).drew,(Below.refl B w).drew⟩,fun i h=>?_,fun i o _ h=>?_,fun f _ h=>?_,fun f _ f' _ _ h=>?_,fun f hfo=>⟨_,(hO f hfo).1.drew,fun _=>rfl,fun h=>?_⟩⟩ <;> rw [hz] at h <;> cases h
end

theorem uo {ow:List vO}(h:ow.Pairwise (fun f f'=>f.g≠f'.g)):∀ f∈ow,∀ f'∈ow,f.g=f'.g→f=f':=by
 induction ow with
 | nil=>intro f hf;cases hf
 | cons a l ih =>
  obtain ⟨h1,h2⟩:=List.pairwise_cons.1 h;intro f hf f' hf' he;rcases List.mem_cons.1 hf with h3 | h3
  ·rcases List.mem_cons.1 hf' with h4 | h4
   ·rw [h3,h4]
   exact absurd (h3 ▸ he) (h1 _ h4)
  rcases List.mem_cons.1 hf' with h4 | h4
  ·exact absurd (h4 ▸ he).symm (h1 _ h3)
  exact ih h2 f h3 f' h4 he
def qn (B:Nat):List (Value→World→Prop)→Prop
  | []=>True
  | p :: l=>(∀ v w w',p v w→Below B w w'→p v w')∧qn B l
theorem qn.get {B:Nat}:∀ (l:List (Value→World→Prop)),qn B l→∀ i v w w',l.getD i (fun _ _=>True) v w→Below B w w'→l.getD i (fun _ _=>True) v w':=by
 intro l
 induction l with
 | nil=>intro _ i v w w' _ _;simp
 | cons p l ih =>
  intro h i v w w' hp hk
  cases i with
  | zero=>exact h.1 v w w' hp hk
  | succ i=>exact ih h.2 i v w w' hp hk
theorem bEq {B:Nat}(u:Value):∀ v w w',PEq u v w→Below B w w'→PEq u v w':=fun _ _ _ h _=>h
theorem vP {B:Nat}:∀ v w w',qQ v w→Below B w w'→qQ v w':=fun _ _ _ h _=>h
end Go.Proofs.YtfilnhompchciaaGreatDoor
namespace Bn
theorem xI {l l':List Nat}(hn:l.length=l'.length) (h:∀ i,i < l.length→wd l i=wd l' i):l=l':=by
 refine List.ext_getElem hn fun i h1 h2=>?_
 have:=h i h1;rw [jh h1,jh h2] at this;exact this
theorem yF {l l':List Nat}(hn:l.length=l'.length) (h:l≠l'):∃ i,i < l.length∧wd l i≠wd l' i:=by
 apply Classical.byContradiction;intro hc;apply h;refine xI hn fun i hi=>?_
 apply Classical.byContradiction;intro e;exact hc ⟨i,hi,e⟩
end Bn

/- Walks: fields that differ. -/
namespace Go.Proofs.YtfilnhompchciaaGreatDoor
open Go Go.RowKit Bn
attribute [local go_sem ↓] Go.wp_at_zero Go.wp_at_succ
theorem j7 (w:World) (A n c l) (wa:Wd w A n c l) (A' n' c' l') (wb:Wd w A' n' c' l') (hne:l≠l') (hn:n≤1000000000) (hn':n'≤1000000000) :
 Calls Tryz.prog 122 #[.slice A n c,.slice A' n' c'] w (aF w (.bool false)):=by
 by_cases hnn:n'=n
 ·subst hnn
  obtain ⟨j,hj,hjn⟩:=yF (by rw [← wa.2.1,← wb.2.1]) hne;rw [← wa.2.1] at hj;have HA:=Qh wa;have HB:=Qh wb;have HJ:=Qh hjn;clear wa wb hne hjn;go_in;go_wp2_with fail;go_loopw [5] (fun iv wr=>∃ (i q:Nat),i≤j∧iv=.int .i64 (i:Nat)∧wr=w.drewN q) (fun iv _=>n' - (intOf iv).toNat)
  case atStart=>exact ⟨0,0,Nat.zero_le _,rfl,rfl⟩
  case round =>
   obtain ⟨i,q,hi,rfl,rfl⟩:=hrel;have hlt:i < n':=by omega
   obtain ⟨g,o,rfl,hc1⟩:=HA.out.at_ (by omega);obtain ⟨g',o',rfl,hc2⟩:=HB.out.at_ (by omega);have h1:=hc1 i hlt;have h2:=hc2 i hlt;have hi0:(0:Int)≤(i:Int):=by omega
   have hi1:(i:Int) < (n':Int):=by omega
   have HIJ:=Qh (show i=j→wd l i≠wd l' i by rintro rfl;exact HJ.out);generalize wd l i=x at h1 HIJ;generalize wd l' i=y at h2 HIJ;clear hc1 hc2;by_cases hxy:x=y
   ·subst hxy
    have hij:i < j:=by
     rcases Nat.lt_or_ge i j with h | h
     ·exact h
     exact absurd rfl (HIJ.out (by omega))
    go_wp2_with fail;go_quiet (fail);go_wp2;go_roundw
    case rel=>exact ⟨i+1,_,by omega,by go_num,rfl⟩
    case measure=>simp [intOf];omega
   have hxy2:¬ (x:Int)=(y:Int):=by omega
   go_wp2_with fail;go_quiet (fail);go_wp2;go_ret;exact da rfl (by repeat (first | exact Below.refl _ _ | refine aa ?_ _))
 have e1:((n:Int) == (n':Int))=false:=by simp;omega
 have e2:¬ (n:Int)=(n':Int):=by omega
 clear wa wb;go_in;go_wp2;go_ret;exact da rfl (ae w)
theorem rM (w:World) (b:Bool) (A:Option Addr) (n c:Nat) (D:Option Addr) (m e:Nat) (r:RD) (k:Nat) (h:QD w b A n c D m e r k) (b':Bool) (A':Option Addr) (n' c':Nat) (D':Option Addr) (m' e':Nat) (r':RD) (k':Nat) (h':QD w b' A' n' c' D' m' e' r' k') (hne:b≠b') (hk:k≤1000000) (hk':k'≤1000000) :
 Calls Tryz.prog 87 #[.agg #[.bool b,.slice A n c,.slice D m e],.agg #[.bool b',.slice A' n' c',.slice D' m' e']] w (aF w (.bool false)):=by
 obtain ⟨e1,ha,hd,hk1,hk2⟩:=h;obtain ⟨e1',ha',hd',hk1',hk2'⟩:=h';have HE:(b == b')=false:=by simpa using hne
 have HE2:¬ b=b':=hne;clear ha hd ha' hd' e1 e1';go_in;go_wp2;go_ret;exact da rfl (((ae w).alloc Qr _).alloc (by simp) _)
theorem rN (w:World) (b:Bool) (A:Option Addr) (n c:Nat) (D:Option Addr) (m e:Nat) (r:RD) (k:Nat) (h:QD w b A n c D m e r k) (b':Bool) (A':Option Addr) (n' c':Nat) (D':Option Addr) (m' e':Nat) (r':RD) (k':Nat) (h':QD w b' A' n' c' D' m' e' r' k') (hbb:b=b') (hne:r.num≠r'.num) (hk:k≤1000000) (hk':k'≤1000000) :
 Calls Tryz.prog 87 #[.agg #[.bool b,.slice A n c,.slice D m e],.agg #[.bool b',.slice A' n' c',.slice D' m' e']] w (aF w (.bool false)):=by
 obtain ⟨e1,ha,hd,hk1,hk2⟩:=h;obtain ⟨e1',ha',hd',hk1',hk2'⟩:=h';subst hbb;have HE:(b == b)=true:=by simp
 have HA:=Qh (And.intro ha ha');have HD:=Qh (And.intro hd hd');have HN:=Qh hne;clear ha ha' hd hd' hne e1 e1';go_in;go_wp2_with fail;(with_reducible refine (j7 _ A n c r.num ?_ A' n' c' r'.num ?_ ?_ ?_ ?_).mono ?_);(exact HA.out.1.keep (((Kp.refl _).alloc _).alloc _));(exact HA.out.2.keep (((Kp.refl _).alloc _).alloc _));(exact HN.out);(omega);(omega);rintro e w1 ⟨rfl,hb⟩;have q1:Below w.heap.size w w1:=(((Below.refl _ _).alloc Qr _).alloc (by simp) _).trans (hb.mono (by simp <;> omega));have x0:Blk w1 w.heap.size 65 #[.bool b,.slice A n c,.slice D m e]:=((ak w _ _ rfl).alloc _).below hb (by simp <;> omega);have x1:Blk w1 (w.heap.size+1) 65 #[.bool b,.slice A' n' c',.slice D' m' e']:=(ak _ _ _ (by simp)).below hb (by simp);have c02:w1.cell? ⟨w.heap.size,2,none⟩=some (.slice D m e):=x0.cell 2;have c12:w1.cell? ⟨w.heap.size+1,2,none⟩=some (.slice D' m' e'):=x1.cell 2;clear hb;go_wp2;go_ret;exact ⟨rfl,q1⟩
theorem rO (w:World) (b:Bool) (A:Option Addr) (n c:Nat) (D:Option Addr) (m e:Nat) (r:RD) (k:Nat) (h:QD w b A n c D m e r k) (b':Bool) (A':Option Addr) (n' c':Nat) (D':Option Addr) (m' e':Nat) (r':RD) (k':Nat) (h':QD w b' A' n' c' D' m' e' r' k') (hbb:b=b') (hnn:r.num=r'.num) (hne:r.den≠r'.den) (hk:k≤1000000) (hk':k'≤1000000) :
 Calls Tryz.prog 87 #[.agg #[.bool b,.slice A n c,.slice D m e],.agg #[.bool b',.slice A' n' c',.slice D' m' e']] w (aF w (.bool false)):=by
 obtain ⟨e1,ha,hd,hk1,hk2⟩:=h;obtain ⟨e1',ha',hd',hk1',hk2'⟩:=h';rw [← hnn] at ha';subst hbb;have HE:(b == b)=true:=by simp
 have HA:=Qh (And.intro ha ha');have HD:=Qh (And.intro hd hd');have HN:=Qh hne;clear ha ha' hd hd' hne e1 e1';go_in;go_wp2_with fail;(with_reducible refine (lI _ A n c r.num ?_ A' n' c' ?_ ?_).mono ?_);(exact HA.out.1.keep (((Kp.refl _).alloc _).alloc _));(exact HA.out.2.keep (((Kp.refl _).alloc _).alloc _));(omega);rintro e w1 ⟨rfl,hb⟩;have q1:Below w.heap.size w w1:=(((Below.refl _ _).alloc Qr _).alloc (by simp) _).trans (hb.mono (by simp <;> omega));have x0:Blk w1 w.heap.size 65 #[.bool b,.slice A n c,.slice D m e]:=((ak w _ _ rfl).alloc _).below hb (by simp <;> omega);have x1:Blk w1 (w.heap.size+1) 65 #[.bool b,.slice A' n' c',.slice D' m' e']:=(ak _ _ _ (by simp)).below hb (by simp);have c02:w1.cell? ⟨w.heap.size,2,none⟩=some (.slice D m e):=x0.cell 2;have c12:w1.cell? ⟨w.heap.size+1,2,none⟩=some (.slice D' m' e'):=x1.cell 2;clear hb;go_wp2_with fail;(with_reducible refine (j7 _ D m e r.den ?_ D' m' e' r'.den ?_ ?_ ?_ ?_).mono ?_);(exact HD.out.1.belw q1);(exact HD.out.2.belw q1);(exact HN.out);(omega);(omega);rintro e w2 ⟨rfl,hb2⟩;go_wp2;go_ret;exact ⟨rfl,q1.trans (hb2.mono q1.size)⟩
theorem up (w:World) (b:Bool) (A:Option Addr) (n c:Nat) (D:Option Addr) (m e:Nat) (b':Bool) (A':Option Addr) (n' c':Nat) (D':Option Addr) (m' e':Nat) (r:RD) (k k':Nat) (h:QD w b A n c D m e r k) (h':QD w b' A' n' c' D' m' e' r k') (hk:k≤1000000) :
 Calls Tryz.prog 87 #[.agg #[.bool b,.slice A n c,.slice D m e],.agg #[.bool b',.slice A' n' c',.slice D' m' e']] w (aF w (.bool true)):=by
 obtain ⟨e1,ha,hd,hk1,hk2⟩:=h;obtain ⟨e1',ha',hd',_,_⟩:=h';subst e1 e1';have HE:(r.neg == r.neg)=true:=by simp
 have HA:=Qh (And.intro ha ha');have HD:=Qh (And.intro hd hd');clear ha ha' hd hd';go_in;go_wp2_with fail;(with_reducible refine (lI _ A n c r.num ?_ A' n' c' ?_ ?_).mono ?_);(exact HA.out.1.keep (((Kp.refl _).alloc _).alloc _));(exact HA.out.2.keep (((Kp.refl _).alloc _).alloc _));(omega);rintro e w1 ⟨rfl,hb⟩;have q1:Below w.heap.size w w1:=(((Below.refl _ _).alloc Qr _).alloc (by simp) _).trans (hb.mono (by simp <;> omega));have x0:Blk w1 w.heap.size 65 #[.bool r.neg,.slice A n c,.slice D m e]:=((ak w _ _ rfl).alloc _).below hb (by simp <;> omega);have x1:Blk w1 (w.heap.size+1) 65 #[.bool r.neg,.slice A' n' c',.slice D' m' e']:=(ak _ _ _ (by simp)).below hb (by simp);have c02:w1.cell? ⟨w.heap.size,2,none⟩=some (.slice D m e):=x0.cell 2;have c12:w1.cell? ⟨w.heap.size+1,2,none⟩=some (.slice D' m' e'):=x1.cell 2;clear hb;go_wp2_with fail;(with_reducible refine (lI _ D m e r.den ?_ D' m' e' ?_ ?_).mono ?_);(exact HD.out.1.belw q1);(exact HD.out.2.belw q1);(omega);rintro e w2 ⟨rfl,hb2⟩;go_wp2;go_ret;exact ⟨rfl,q1.trans (hb2.mono q1.size)⟩
theorem qo (w:World) (b:Bool) (A:Option Addr) (n c:Nat) (D:Option Addr) (m e:Nat) (b':Bool) (A':Option Addr) (n' c':Nat) (D':Option Addr) (m' e':Nat) (r r':RD) (k k':Nat) (h:QD w b A n c D m e r k) (h':QD w b' A' n' c' D' m' e' r' k') (hk:k≤1000000) (hk':k'≤1000000) (v:Bool) (hv:v=true ↔ r=r') :
 Calls Tryz.prog 87 #[.agg #[.bool b,.slice A n c,.slice D m e],.agg #[.bool b',.slice A' n' c',.slice D' m' e']] w (aF w (.bool v)):=by
 by_cases e1:r=r'
 ·subst e1
  rw [hv.2 rfl];exact up w b A n c D m e b' A' n' c' D' m' e' r k k' h h' hk
 have hvf:v=false:=by cases v;rfl;exact absurd (hv.1 rfl) e1
 subst hvf;by_cases eb:b=b'
 ·by_cases en:r.num=r'.num
  ·refine rO w b A n c D m e r k h b' A' n' c' D' m' e' r' k' h' eb en (fun ed=>e1 ?_) hk hk'
   have hn:r.neg=r'.neg:=by rw [h.1,h'.1,eb]
   obtain ⟨a1,a2,a3⟩:=r;obtain ⟨b1,b2,b3⟩:=r';simp only at hn en ed;rw [hn,en,ed]
  exact rN w b A n c D m e r k h b' A' n' c' D' m' e' r' k' h' eb en hk hk'
 exact rM w b A n c D m e r k h b' A' n' c' D' m' e' r' k' h' eb hk hk'
def uq (w:World) (g o:Nat) (s:Value) (b1:Bool) (A1:Option Addr) (n1 c1:Nat) (D1:Option Addr) (m1 e1:Nat) (b2:Bool) (A2:Option Addr) (n2 c2:Nat) (D2:Option Addr) (m2 e2:Nat):Prop :=
  w.cell? ⟨g,o,none⟩=some s∧w.cell? ⟨g,o+1,none⟩=some (.bool b1)∧w.cell? ⟨g,o+2,none⟩=some (.slice A1 n1 c1)∧w.cell? ⟨g,o+3,none⟩=some (.slice D1 m1 e1)∧w.cell? ⟨g,o+4,none⟩=some (.bool b2)∧w.cell? ⟨g,o+5,none⟩=some (.slice A2 n2 c2)∧w.cell? ⟨g,o+6,none⟩=some (.slice D2 m2 e2)
section
variable {w w':World}{g o:Nat}{s:Value}{b1 b2:Bool}{A1 D1 A2 D2:Option Addr}{n1 c1 m1 e1 n2 c2 m2 e2:Nat}
theorem ur (h0:w.cell? ⟨g,o,none⟩=some s) (h1:w.cell? ⟨g,o+1,none⟩=some (.bool b1)) (h2:w.cell? ⟨g,o+1+1,none⟩=some (.slice A1 n1 c1)) (h3:w.cell? ⟨g,o+1+2,none⟩=some (.slice D1 m1 e1)) (h4:w.cell? ⟨g,o+4,none⟩=some (.bool b2)) (h5:w.cell? ⟨g,o+4+1,none⟩=some (.slice A2 n2 c2)) (h6:w.cell? ⟨g,o+4+2,none⟩=some (.slice D2 m2 e2)):uq w g o s b1 A1 n1 c1 D1 m1 e1 b2 A2 n2 c2 D2 m2 e2:=⟨h0,h1,h2,h3,h4,h5,h6⟩
theorem iP (h:uq w g o s b1 A1 n1 c1 D1 m1 e1 b2 A2 n2 c2 D2 m2 e2) (hb:Below w.heap.size w w') :
 w'.cell? ⟨g,o,none⟩=some s∧w'.cell? ⟨g,o+1,none⟩=some (.bool b1)∧w'.cell? ⟨g,o+2,none⟩=some (.slice A1 n1 c1)∧w'.cell? ⟨g,o+3,none⟩=some (.slice D1 m1 e1)∧w'.cell? ⟨g,o+4,none⟩=some (.bool b2)∧w'.cell? ⟨g,o+5,none⟩=some (.slice A2 n2 c2)∧w'.cell? ⟨g,o+6,none⟩=some (.slice D2 m2 e2) :=
 ⟨aw h.1 hb,aw h.2.1 hb,aw h.2.2.1 hb,aw h.2.2.2.1 hb,aw h.2.2.2.2.1 hb,aw h.2.2.2.2.2.1 hb,aw h.2.2.2.2.2.2 hb⟩
end
theorem mj (p:Prop):∃ v:Bool,v=true ↔ p:=by
 by_cases h:p
 ·exact ⟨true,by simp [h]⟩
 exact ⟨false,by simp [h]⟩
theorem yG:Tryz.prog.eqGuardType Tryz.prog.depth 79=false:=by kernel_rfl
theorem yH:Tryz.prog.stoodInHeld 79=false:=by kernel_rfl
theorem yI:Tryz.prog.eqGuardType Tryz.prog.depth 81=false:=by kernel_rfl
theorem yJ:Tryz.prog.stoodInHeld 81=false:=by kernel_rfl
theorem fN {α:Type}{l m:List α}{i:Nat}{a:α}(h:l.take i=m.take i) (h1:l[i]?=some a) (h2:m[i]?=some a):l.take (i+1)=m.take (i+1):=by rw [List.take_add_one,List.take_add_one,h,h1,h2]
theorem ut (w:World) (A:Option Addr) (n c:Nat) (a:ai) (h:SlS (cW 1000000) 7 w A n c a.pts) (A':Option Addr) (n' c':Nat) (b:ai) (h':SlS (cW 1000000) 7 w A' n' c' b.pts) (hn:n≤1000) (v:Bool) (hv:v=true ↔ a=b) :
 Calls Tryz.prog 47 #[.agg #[af a.name,.slice A n c],.agg #[af b.name,.slice A' n' c']] w (aF w (.bool v)):=by
 have H:=Qh (And.intro h h');have HV:=Qh hv;clear h h' hv;by_cases en:a.name=b.name
 ·by_cases el:n=n'
  ·subst el
   have hs:(a.name == b.name)=true:=beq_iff_eq.2 en;have HN:=Qh en;have hnc:=H.out.1.2.1;have hnc':=H.out.2.2.1;have HLA:=Qh H.out.1.1;have HLB:=Qh H.out.2.1;clear en;go_in;go_wp2_with fail;go_loopw [5] (fun iv wr=>∃ i:Nat,iv=.int .i64 (i:Nat)∧i≤n∧Hid (a.pts.take i=b.pts.take i)∧Blk wr w.heap.size 62 #[af a.name,.slice A n c]∧Blk wr (w.heap.size+1) 62 #[af b.name,.slice A' n c']∧Below w.heap.size w wr) (fun iv _=>n - (intOf iv).toNat)
   case atStart=>exact ⟨0,rfl,Nat.zero_le _,Qh rfl,(ak w _ _ rfl).alloc _,ak _ _ _ (by simp),((ae w).alloc Qr _).alloc (by simp) _⟩
   case round =>
    obtain ⟨i,rfl,hi,HI,xa,xb,bwa⟩:=hrel;rename World=>wa;have hla:w.heap.size < wa.heap.size:=xa.lt;have hlb:w.heap.size+1 < wa.heap.size:=xb.lt;rcases Nat.lt_or_ge i n with hlt | hge
    ·have hi1:((i:Int) < (n:Int))=True:=by simp;omega
     obtain ⟨g,o,x,e1,hg,_,hxi,hX⟩:=H.out.1.at_ hlt;subst e1;obtain ⟨g9,o9,y,e1,hg9,_,hyi,hY⟩:=H.out.2.at_ hlt;subst e1;have ca1:=xa.cell 1;obtain ⟨d0,⟨b1,A1,n1,c1,D1,m1,e1,d1,d2,d3,hQ1⟩,⟨b2,A2,n2,c2,D2,m2,e2,d4,d5,d6,hQ2⟩,_⟩:=hX;obtain ⟨f0,⟨b3,A3,n3,c3,D3,m3,e3,f1,f2,f3,hQ3⟩,⟨b4,A4,n4,c4,D4,m4,e4,f4,f5,f6,hQ4⟩,_⟩:=hY;have HM1:=Qh (ur d0 d1 d2 d3 d4 d5 d6);have HM2:=Qh (ur f0 f1 f2 f3 f4 f5 f6);have HQ:=Qh (And.intro hQ1 (And.intro hQ2 (And.intro hQ3 hQ4)));have HXI:=Qh (And.intro hxi hyi);clear d0 d1 d2 d3 d4 d5 d6 f0 f1 f2 f3 f4 f5 f6 hQ1 hQ2 hQ3 hQ4 hxi hyi;go_wp2_with fail;clear ca1;have hi2:((i:Int) < (n:Int)):=by omega
     refine kx (B:=w.heap.size) (fr:=fun xf=>⟨List.toArray (.agg #[af a.name,.slice (some ⟨g,o,none⟩) n c] :: .agg #[af b.name,.slice (some ⟨g9,o9,none⟩) n c'] :: .pointer (some ⟨w.heap.size,0,none⟩) :: .pointer (some ⟨w.heap.size+1,0,none⟩) :: u4 :: .int .i64 (i:Nat) :: xf 10 :: xf 11 :: .pointer (some ⟨w.heap.size,0,none⟩) :: af a.name :: .pointer (some ⟨w.heap.size+1,0,none⟩) :: af b.name :: .bool false :: .bool false :: .pointer (some ⟨w.heap.size,1,none⟩) :: .slice (some ⟨g,o,none⟩) n c :: .int .i64 (n:Nat) :: .pointer (some ⟨w.heap.size+1,1,none⟩) :: .slice (some ⟨g9,o9,none⟩) n c' :: .int .i64 (n:Nat) :: .bool false :: .bool false :: .int .i64 (i:Nat) :: .pointer (some ⟨w.heap.size,1,none⟩) :: .slice (some ⟨g,o,none⟩) n c :: .int .i64 (n:Nat) :: .bool true :: u27 :: u28 :: xf 0 :: xf 1 :: xf 2 :: xf 3 :: xf 4 :: xf 5 :: xf 6 :: xf 7 :: xf 8 :: xf 9 :: u39 :: u40 :: u41 :: u42 :: u43 :: u44 :: u45 :: u46 :: u47 :: u48 :: u49 :: u50 :: u51 :: u52 :: u53 :: u54 :: u55 :: u56 :: u57 :: u58 :: u59 :: []),[]⟩) (R:=fun ri=>List.getD ((PEq (.pointer (some ⟨w.heap.size,1,none⟩))) :: (PEq (.slice (some ⟨g,o,none⟩) n c)) :: (PEq (.int .i64 (i:Nat))) :: (PEq (.pointer (some ⟨g,o+i * 7,none⟩))) :: (PEq (.agg #[af x.name,.bool b1,.slice A1 n1 c1,.slice D1 m1 e1,.bool b2,.slice A2 n2 c2,.slice D2 m2 e2])) :: (PEq (.pointer (some ⟨w.heap.size+1,1,none⟩))) :: (PEq (.slice (some ⟨g9,o9,none⟩) n c')) :: (PEq (.int .i64 (i:Nat))) :: (PEq (.pointer (some ⟨g9,o9+i * 7,none⟩))) :: (PEq (.agg #[af y.name,.bool b3,.slice A3 n3 c3,.slice D3 m3 e3,.bool b4,.slice A4 n4 c4,.slice D4 m4 e4])) :: qQ :: qQ :: qQ :: qQ :: []) ri (fun _ _=>True)) (es:=[⟨10,12,67,#[.string ⟨#[]⟩,.bool false,.slice none 0 0,.slice none 0 0,.bool false,.slice none 0 0,.slice none 0 0],fun cz _=>cz=#[af x.name,.bool b1,.slice A1 n1 c1,.slice D1 m1 e1,.bool b2,.slice A2 n2 c2,.slice D2 m2 e2]⟩,⟨11,13,67,#[.string ⟨#[]⟩,.bool false,.slice none 0 0,.slice none 0 0,.bool false,.slice none 0 0,.slice none 0 0],fun cz _=>cz=#[af y.name,.bool b3,.slice A3 n3 c3,.slice D3 m3 e3,.bool b4,.slice A4 n4 c4,.slice D4 m4 e4]⟩]) (ow:=[⟨w.heap.size,14,0,62,#[af a.name,.slice (some ⟨g,o,none⟩) n c],fun _ _=>True⟩,⟨w.heap.size+1,14,0,62,#[af b.name,.slice (some ⟨g9,o9,none⟩) n c'],fun _ _=>True⟩]) (x0:=(upd (upd (upd (upd (upd (upd (upd (upd (upd (upd (upd (upd (fun _=>undef) 0 u29) 1 u30) 2 u31) 3 u32) 4 u33) 5 u34) 6 u35) 7 u36) 8 u37) 9 u38) 10 u6) 11 u7)) (by kernel_rfl)
      (bM ⟨fun _ _=>rfl,fun _ _=>rfl,fun _ _=>rfl,fun _ _=>rfl,fun _ _=>rfl,fun _ _=>rfl,fun _ _=>rfl,fun _ _=>rfl,fun _ _=>rfl,fun _ _=>rfl,fun _ _=>rfl,fun _ _=>rfl,fun _ _=>rfl,fun _ _=>rfl,trivial⟩) (bM (dS _ 0 (by kernel_rfl))) (qn.get _ ⟨bEq _,bEq _,bEq _,bEq _,bEq _,bEq _,bEq _,bEq _,bEq _,bEq _,vP,vP,vP,vP,trivial⟩)
      (fmc ⟨fun _ _ _ h _=>h,fmc ⟨fun _ _ _ h _=>h,fun _ h=>nomatch h⟩⟩) (fmc ⟨fun _ _ _ _ _=>True.intro,fmc ⟨fun _ _ _ _ _=>True.intro,fun _ h=>nomatch h⟩⟩) (fmc ⟨⟨by simp,by simp⟩,fmc ⟨⟨by simp,by simp⟩,fun _ h=>nomatch h⟩⟩) bwa.size
      (fmc ⟨⟨xa,Qr⟩,fmc ⟨⟨xb,by show w.heap.size≤w.heap.size+1;omega⟩,fun _ h=>nomatch h⟩⟩) (uo (by simp <;> omega))
      (bM ⟨?_,?_,?_,?_,?_,?_,?_,?_,?_,?_,?_,?_,?_,?_,trivial⟩) ?_
     ·exact .inl ⟨by simp,by simp,fun xf wq hk hbl hd K hK=>by
       (try dsimp only);go_simp;have hz:=hK.out (.pointer (some ⟨w.heap.size,1,none⟩)) _ rfl (ae _)
       exact hz⟩
     ·exact .inl ⟨by simp,by simp,fun xf wq hk hbl hd K hK=>by
       have dq0:xf 0=.pointer (some ⟨w.heap.size,1,none⟩):=hd ⟨0,.data⟩ (by simp) rfl;have y:Blk wq w.heap.size 62 #[af a.name,.slice (some ⟨g,o,none⟩) n c]:=hbl _ (List.Mem.head _) (by simp [Region.binds]);have hc1:wq.cell? ⟨w.heap.size,1,none⟩=some (.slice (some ⟨g,o,none⟩) n c):=y.cell 1;(try dsimp only);(try simp only [dq0]);go_simp;have hz:=hK.out (.slice (some ⟨g,o,none⟩) n c) _ rfl (ae _);simp only [dq0] at hz
       exact hz⟩
     ·exact .inl ⟨by simp,by simp,fun xf wq hk hbl hd K hK=>by
       (try dsimp only);go_simp;have hz:=hK.out (.int .i64 (i:Nat)) _ rfl (ae _)
       exact hz⟩
     ·exact .inl ⟨by simp,by simp,fun xf wq hk hbl hd K hK=>by
       have dq1:xf 1=.slice (some ⟨g,o,none⟩) n c:=hd ⟨1,.data⟩ (by simp) rfl;have dq2:xf 2=.int .i64 (i:Nat):=hd ⟨2,.data⟩ (by simp) rfl;(try dsimp only);(try simp only [dq1,dq2]);go_simp;have hz:=hK.out (.pointer (some ⟨g,o+i * 7,none⟩)) _ rfl (ae _);simp only [dq1,dq2] at hz
       exact hz⟩
     ·exact .inl ⟨by simp,by simp,fun xf wq hk hbl hd K hK=>by
       have dq3:xf 3=.pointer (some ⟨g,o+i * 7,none⟩):=hd ⟨3,.data⟩ (by simp) rfl;obtain ⟨k0,k1,k2,k3,k4,k5,k6⟩:=iP HM1.out (bwa.trans hk);(try dsimp only);(try simp only [dq3]);go_simp;have hz:=hK.out (.agg #[af x.name,.bool b1,.slice A1 n1 c1,.slice D1 m1 e1,.bool b2,.slice A2 n2 c2,.slice D2 m2 e2]) _ rfl (ae _);simp only [dq3] at hz
       exact hz⟩
     ·exact .inl ⟨by simp,by simp,fun xf wq hk hbl hd K hK=>by
       (try dsimp only);go_simp;have hz:=hK.out (.pointer (some ⟨w.heap.size+1,1,none⟩)) _ rfl (ae _)
       exact hz⟩
     ·exact .inl ⟨by simp,by simp,fun xf wq hk hbl hd K hK=>by
       have dq5:xf 5=.pointer (some ⟨w.heap.size+1,1,none⟩):=hd ⟨5,.data⟩ (by simp) rfl;have y:Blk wq (w.heap.size+1) 62 #[af b.name,.slice (some ⟨g9,o9,none⟩) n c']:=hbl _ (List.Mem.tail _ (List.Mem.head _)) (by simp [Region.binds]);have hc1:wq.cell? ⟨w.heap.size+1,1,none⟩=some (.slice (some ⟨g9,o9,none⟩) n c'):=y.cell 1;(try dsimp only);(try simp only [dq5]);go_simp;have hz:=hK.out (.slice (some ⟨g9,o9,none⟩) n c') _ rfl (ae _);simp only [dq5] at hz
       exact hz⟩
     ·exact .inl ⟨by simp,by simp,fun xf wq hk hbl hd K hK=>by
       (try dsimp only);go_simp;have hz:=hK.out (.int .i64 (i:Nat)) _ rfl (ae _)
       exact hz⟩
     ·exact .inl ⟨by simp,by simp,fun xf wq hk hbl hd K hK=>by
       have dq6:xf 6=.slice (some ⟨g9,o9,none⟩) n c':=hd ⟨6,.data⟩ (by simp) rfl;have dq7:xf 7=.int .i64 (i:Nat):=hd ⟨7,.data⟩ (by simp) rfl;(try dsimp only);(try simp only [dq6,dq7]);go_simp;have hz:=hK.out (.pointer (some ⟨g9,o9+i * 7,none⟩)) _ rfl (ae _);simp only [dq6,dq7] at hz
       exact hz⟩
     ·exact .inl ⟨by simp,by simp,fun xf wq hk hbl hd K hK=>by
       have dq8:xf 8=.pointer (some ⟨g9,o9+i * 7,none⟩):=hd ⟨8,.data⟩ (by simp) rfl;obtain ⟨k0,k1,k2,k3,k4,k5,k6⟩:=iP HM2.out (bwa.trans hk);(try dsimp only);(try simp only [dq8]);go_simp;have hz:=hK.out (.agg #[af y.name,.bool b3,.slice A3 n3 c3,.slice D3 m3 e3,.bool b4,.slice A4 n4 c4,.slice D4 m4 e4]) _ rfl (ae _);simp only [dq8] at hz
       exact hz⟩
     ·exact .inr (.inl ⟨⟨10,12,67,#[.string ⟨#[]⟩,.bool false,.slice none 0 0,.slice none 0 0,.bool false,.slice none 0 0,.slice none 0 0],fun cz _=>cz=#[af x.name,.bool b1,.slice A1 n1 c1,.slice D1 m1 e1,.bool b2,.slice A2 n2 c2,.slice D2 m2 e2]⟩,by simp,rfl,by simp,by simp,by simp,fun _ _=>True.intro,fun xf wq K hK=>by
       (try dsimp only);go_simp
       exact hK.out⟩)
     ·exact .inr (.inl ⟨⟨11,13,67,#[.string ⟨#[]⟩,.bool false,.slice none 0 0,.slice none 0 0,.bool false,.slice none 0 0,.slice none 0 0],fun cz _=>cz=#[af y.name,.bool b3,.slice A3 n3 c3,.slice D3 m3 e3,.bool b4,.slice A4 n4 c4,.slice D4 m4 e4]⟩,by simp,rfl,by simp,by simp,by simp,fun _ _=>True.intro,fun xf wq K hK=>by
       (try dsimp only);go_simp
       exact hK.out⟩)
     ·exact .inr (.inr (.inl ⟨⟨10,12,67,#[.string ⟨#[]⟩,.bool false,.slice none 0 0,.slice none 0 0,.bool false,.slice none 0 0,.slice none 0 0],fun cz _=>cz=#[af x.name,.bool b1,.slice A1 n1 c1,.slice D1 m1 e1,.bool b2,.slice A2 n2 c2,.slice D2 m2 e2]⟩,by simp,rfl,by simp,by simp,by simp,by simp,True.intro,fun _ _=>True.intro,⟨⟨10,.data⟩,by simp,rfl,rfl⟩,fun xf wq g7 hx hblk hd=>by
       have dq4:xf 4=.agg #[af x.name,.bool b1,.slice A1 n1 c1,.slice D1 m1 e1,.bool b2,.slice A2 n2 c2,.slice D2 m2 e2]:=hd ⟨4,.data⟩ (by simp) rfl;dsimp only at hx hblk;refine ⟨[af x.name,.bool b1,.slice A1 n1 c1,.slice D1 m1 e1,.bool b2,.slice A2 n2 c2,.slice D2 m2 e2],fun w' hk=>rfl,fun K hK=>?_⟩;have hc0:wq.cell? ⟨g7,0,none⟩=some (.string ⟨#[]⟩):=hblk.cell 0;have hc1:wq.cell? ⟨g7,1,none⟩=some (.bool false):=hblk.cell 1;have hc2:wq.cell? ⟨g7,2,none⟩=some (.slice none 0 0):=hblk.cell 2;have hc3:wq.cell? ⟨g7,3,none⟩=some (.slice none 0 0):=hblk.cell 3;have hc4:wq.cell? ⟨g7,4,none⟩=some (.bool false):=hblk.cell 4;have hc5:wq.cell? ⟨g7,5,none⟩=some (.slice none 0 0):=hblk.cell 5;have hc6:wq.cell? ⟨g7,6,none⟩=some (.slice none 0 0):=hblk.cell 6;have hf0:wq.frozen? ⟨g7,0,none⟩=false:=hblk.frozen 0;have hf1:wq.frozen? ⟨g7,1,none⟩=false:=hblk.frozen 1;have hf2:wq.frozen? ⟨g7,2,none⟩=false:=hblk.frozen 2;have hf3:wq.frozen? ⟨g7,3,none⟩=false:=hblk.frozen 3;have hf4:wq.frozen? ⟨g7,4,none⟩=false:=hblk.frozen 4;have hf5:wq.frozen? ⟨g7,5,none⟩=false:=hblk.frozen 5;have hf6:wq.frozen? ⟨g7,6,none⟩=false:=hblk.frozen 6;(try dsimp only);simp only [hx,dq4];go_simp;have hz:=hK.out undef;simp only [hx,dq4] at hz
       exact hz⟩))
     ·exact .inr (.inr (.inl ⟨⟨11,13,67,#[.string ⟨#[]⟩,.bool false,.slice none 0 0,.slice none 0 0,.bool false,.slice none 0 0,.slice none 0 0],fun cz _=>cz=#[af y.name,.bool b3,.slice A3 n3 c3,.slice D3 m3 e3,.bool b4,.slice A4 n4 c4,.slice D4 m4 e4]⟩,by simp,rfl,by simp,by simp,by simp,by simp,True.intro,fun _ _=>True.intro,⟨⟨11,.data⟩,by simp,rfl,rfl⟩,fun xf wq g7 hx hblk hd=>by
       have dq9:xf 9=.agg #[af y.name,.bool b3,.slice A3 n3 c3,.slice D3 m3 e3,.bool b4,.slice A4 n4 c4,.slice D4 m4 e4]:=hd ⟨9,.data⟩ (by simp) rfl;dsimp only at hx hblk;refine ⟨[af y.name,.bool b3,.slice A3 n3 c3,.slice D3 m3 e3,.bool b4,.slice A4 n4 c4,.slice D4 m4 e4],fun w' hk=>rfl,fun K hK=>?_⟩;have hc0:wq.cell? ⟨g7,0,none⟩=some (.string ⟨#[]⟩):=hblk.cell 0;have hc1:wq.cell? ⟨g7,1,none⟩=some (.bool false):=hblk.cell 1;have hc2:wq.cell? ⟨g7,2,none⟩=some (.slice none 0 0):=hblk.cell 2;have hc3:wq.cell? ⟨g7,3,none⟩=some (.slice none 0 0):=hblk.cell 3;have hc4:wq.cell? ⟨g7,4,none⟩=some (.bool false):=hblk.cell 4;have hc5:wq.cell? ⟨g7,5,none⟩=some (.slice none 0 0):=hblk.cell 5;have hc6:wq.cell? ⟨g7,6,none⟩=some (.slice none 0 0):=hblk.cell 6;have hf0:wq.frozen? ⟨g7,0,none⟩=false:=hblk.frozen 0;have hf1:wq.frozen? ⟨g7,1,none⟩=false:=hblk.frozen 1;have hf2:wq.frozen? ⟨g7,2,none⟩=false:=hblk.frozen 2;have hf3:wq.frozen? ⟨g7,3,none⟩=false:=hblk.frozen 3;have hf4:wq.frozen? ⟨g7,4,none⟩=false:=hblk.frozen 4;have hf5:wq.frozen? ⟨g7,5,none⟩=false:=hblk.frozen 5;have hf6:wq.frozen? ⟨g7,6,none⟩=false:=hblk.frozen 6;(try dsimp only);simp only [hx,dq9];go_simp;have hz:=hK.out undef;simp only [hx,dq9] at hz
       exact hz⟩))
     intro y7 w7 kq hbl lw how _ hfl hds;obtain ⟨_,za,ez,_⟩:=how _ (List.Mem.head _);obtain rfl:=ez (by simp);obtain ⟨_,zb,ez,_⟩:=how _ (List.Mem.tail _ (List.Mem.head _));obtain rfl:=ez (by simp);obtain ⟨g6,_,eg6,Gg6,xg6,rfl⟩:=hfl _ (List.Mem.head _);obtain ⟨g7,_,eg7,Gg7,xg7,rfl⟩:=hfl _ (List.Mem.tail _ (List.Mem.head _));dsimp only at za zb eg6 Gg6 xg6 eg7 Gg7 xg7;clear how hfl hds ez;have bw7:=bwa.trans kq;have lg6:g6 < w7.heap.size:=xg6.lt;have lg7:g7 < w7.heap.size:=xg7.lt;(try dsimp only);simp only [eg6,eg7];clear eg6 eg7;obtain ⟨k0,k1,k2,k3,k4,k5,k6⟩:=xg6.c7;obtain ⟨l0,l1,l2,l3,l4,l5,l6⟩:=xg7.c7;by_cases hnm:x.name=y.name
     ·have hnb:(x.name == y.name)=true:=beq_iff_eq.2 hnm
      have HNM:=Qh hnm;clear hnm;obtain ⟨v1,hv1⟩:=mj (x.x=y.x);obtain ⟨v2,hv2⟩:=mj (x.y=y.y);have HV1:=Qh hv1;have HV2:=Qh hv2;clear hv1 hv2;go_wp2_with fail;(with_reducible refine (qo w7 b1 A1 n1 c1 D1 m1 e1 b3 A3 n3 c3 D3 m3 e3 x.x y.x 1000000 1000000 (HQ.out.1.belw bw7) (HQ.out.2.2.1.belw bw7) (by decide) (by decide) v1 HV1.out).mono ?_);rintro e' w8 ⟨rfl,hb8⟩;have bw8:=bw7.trans (hb8.mono bw7.size);have za8:=za.below hb8 za.lt;have zb8:=zb.below hb8 zb.lt;have y6:=xg6.below hb8 xg6.lt;have y7':=xg7.below hb8 xg7.lt;clear k0 k1 k2 k3 k4 k5 k6 l0 l1 l2 l3 l4 l5 l6;cases v1
      ·have hvf:v=false:=by
        cases v
        ·rfl
        exfalso;have:=HV.out.1 rfl;subst this;have h9:=HXI.out.1.symm.trans HXI.out.2;injection h9 with h9;subst h9;exact absurd (HV1.out.2 rfl) (by decide)
       subst hvf;go_wp2;go_ret;exact ⟨rfl,bw8⟩
      have lg6:g6 < w8.heap.size:=y6.lt;have lg7:g7 < w8.heap.size:=y7'.lt;obtain ⟨k0,k1,k2,k3,k4,k5,k6⟩:=y6.c7;obtain ⟨l0,l1,l2,l3,l4,l5,l6⟩:=y7'.c7;go_wp2_with fail;(with_reducible refine (qo w8 b2 A2 n2 c2 D2 m2 e2 b4 A4 n4 c4 D4 m4 e4 x.y y.y 1000000 1000000 (HQ.out.2.1.belw bw8) (HQ.out.2.2.2.belw bw8) (by decide) (by decide) v2 HV2.out).mono ?_);rintro e' w9 ⟨rfl,hb9⟩;have bw9:=bw8.trans (hb9.mono bw8.size);have za9:=za8.below hb9 za8.lt;have zb9:=zb8.below hb9 zb8.lt;clear k0 k1 k2 k3 k4 k5 k6 l0 l1 l2 l3 l4 l5 l6;cases v2
      ·have hvf:v=false:=by
        cases v
        ·rfl
        exfalso;have:=HV.out.1 rfl;subst this;have h9:=HXI.out.1.symm.trans HXI.out.2;injection h9 with h9;subst h9;exact absurd (HV2.out.2 rfl) (by decide)
       subst hvf;go_wp2;go_ret;exact ⟨rfl,bw9⟩
      ·have hxy:x=y:=by
        have e1:=HNM.out;have e2:=HV1.out.1 (by simp);have e3:=HV2.out.1 (by simp);obtain ⟨x1,x2,x3⟩:=x;obtain ⟨y1,y2,y3⟩:=y;simp only at e1 e2 e3;rw [e1,e2,e3]
       have HI2:Hid (a.pts.take (i+1)=b.pts.take (i+1)):=Qh (fN HI.out HXI.out.1 (by rw [hxy];exact HXI.out.2));clear hxy;go_wp2_with fail;go_roundw
       case rel=>exact ⟨i+1,by go_num,by omega,HI2,za9,zb9,bw9⟩
       case measure=>simp [intOf];omega
     have hnb:(x.name == y.name)=false:=beq_eq_false_iff_ne.2 hnm
     have hvf:v=false:=by
      cases v
      ·rfl
      exfalso;have:=HV.out.1 rfl;subst this;have h9:=HXI.out.1.symm.trans HXI.out.2;injection h9 with h9;exact hnm (by rw [h9])
     subst hvf;clear hnm;go_wp2;go_ret;exact ⟨rfl,bw7⟩
    have hi1:((i:Int) < (n:Int))=False:=by simp;omega
    have e2:a.pts=b.pts:=by
     have:=HI.out;rwa [List.take_of_length_le (by rw [HLA.out];exact hge),List.take_of_length_le (by rw [HLB.out];exact hge)] at this
    have hvt:v=true:=HV.out.2 (by
     have e1:=HN.out;obtain ⟨a1,a2⟩:=a;obtain ⟨b1,b2⟩:=b;simp only at e1 e2
     rw [e1,e2])
    subst hvt;have ca1:=xa.cell 1;clear e2;go_wp2;go_ret;exact ⟨rfl,bwa⟩
  have el2:((n:Int) == (n':Int))=false:=by simp;omega
  have el3:¬ (n:Int)=(n':Int):=by omega
  have hvf:v=false:=by
   cases v
   ·rfl
   exfalso;have:=HV.out.1 rfl;subst this;exact el (H.out.1.1.symm.trans H.out.2.1)
  subst hvf;have hs:(a.name == b.name)=true:=beq_iff_eq.2 en;clear en;go_in;go_wp2;go_ret;exact ⟨rfl,((ae w).alloc Qr _).alloc (by simp) _⟩
 have hs:(a.name == b.name)=false:=beq_eq_false_iff_ne.2 en
 have hvf:v=false:=by
  cases v
  ·rfl
  exact absurd (by rw [HV.out.1 rfl]) en
 subst hvf;clear en;go_in;go_wp2;go_ret;exact ⟨rfl,((ae w).alloc Qr _).alloc (by simp) _⟩
theorem uu (w:World) (A:Option Addr) (n c:Nat) (B:Option Addr) (p d:Nat) (C:Option Addr) (q e:Nat) (L:ag) (h:LkS 1000000 w A n c B p d C q e L) (A':Option Addr) (n' c':Nat) (B':Option Addr) (p' d':Nat) (C':Option Addr) (q' e':Nat) (M:ag) (h':LkS 1000000 w A' n' c' B' p' d' C' q' e' M) (hps:∀ b∈L.bodies,b.pts.length≤1000) (hn:n≤1000) (hp:p≤1000) (hq:q≤1000) (v:Bool) (hv:v=true ↔ L=M) :
 Calls Tryz.prog 17 #[.agg #[af L.name,.slice A n c,.slice B p d,.slice C q e],.agg #[af M.name,.slice A' n' c',.slice B' p' d',.slice C' q' e']] w (aF w (.bool v)):=by
 have H:=Qh h;have H':=Qh h';have HV:=Qh hv;have HPS:=Qh hps;have HLen:=Qh (And.intro (And.intro h.bodies.1 h'.bodies.1) (And.intro (And.intro h.joints.1 h'.joints.1) (And.intro h.drivers.1 h'.drivers.1)));have hnc:=h.bodies.2.1;have hnc':=h'.bodies.2.1;have hpd:=h.joints.2.1;have hpd':=h'.joints.2.1;have hqe:=h.drivers.2.1;have hqe':=h'.drivers.2.1;clear h h' hv hps
 have hno:∀ (P:Prop),P→(L=M→¬ P)→v=false:=by
  intro P hP hne;cases v
  ·rfl
  exact absurd hP (hne (HV.out.1 rfl))
 have HNO:=Qh hno;clear hno;have q00:Below w.heap.size w ((w.alloc (.cells #[af L.name,.slice A n c,.slice B p d,.slice C q e] 36)).alloc (.cells #[af M.name,.slice A' n' c',.slice B' p' d',.slice C' q' e'] 36)):=((ae w).alloc Qr _).alloc (by simp) _;by_cases en:L.name=M.name;rotate_left
 ·have hs:(L.name == M.name)=false:=beq_eq_false_iff_ne.2 en
  have hvf:=HNO.out _ en (fun h=>by rw [h];simp);subst hvf;clear en;go_in;go_wp2;go_ret;exact ⟨rfl,q00⟩
 have hs:(L.name == M.name)=true:=beq_iff_eq.2 en;have HN:=Qh en;clear en;by_cases e1:n=n';rotate_left
 ·have f1:((n:Int) == (n':Int))=false:=by simp;omega
  have f2:¬ (n:Int)=(n':Int):=by omega
  have hvf:=HNO.out _ e1 (fun h=>by rw [← HLen.out.1.1,← HLen.out.1.2,h];simp);subst hvf;clear e1;go_in;go_wp2;go_ret;exact ⟨rfl,q00⟩
 subst e1;by_cases e2:p=p';rotate_left
 ·have f1:((p:Int) == (p':Int))=false:=by simp;omega
  have f2:¬ (p:Int)=(p':Int):=by omega
  have hvf:=HNO.out _ e2 (fun h=>by rw [← HLen.out.2.1.1,← HLen.out.2.1.2,h];simp);subst hvf;clear e2;go_in;go_wp2;go_ret;exact ⟨rfl,q00⟩
 subst e2;by_cases e3:q=q';rotate_left
 ·have f1:((q:Int) == (q':Int))=false:=by simp;omega
  have f2:¬ (q:Int)=(q':Int):=by omega
  have hvf:=HNO.out _ e3 (fun h=>by rw [← HLen.out.2.2.1,← HLen.out.2.2.2,h];simp);subst hvf;clear e3;go_in;go_wp2;go_ret;exact ⟨rfl,q00⟩
 subst e3;go_in;go_wp2_with fail;go_loopw [5] (fun iv wr=>∃ i:Nat,iv=.int .i64 (i:Nat)∧i≤n∧Hid (L.bodies.take i=M.bodies.take i)∧Blk wr w.heap.size 36 #[af L.name,.slice A n c,.slice B p d,.slice C q e]∧Blk wr (w.heap.size+1) 36 #[af M.name,.slice A' n c',.slice B' p d',.slice C' q e']∧Below w.heap.size w wr) (fun iv _=>n - (intOf iv).toNat)
 case atStart=>exact ⟨0,rfl,Nat.zero_le _,Qh rfl,(ak w _ _ rfl).alloc _,ak _ _ _ (by simp),q00⟩
 case round =>
  clear q00;obtain ⟨i,rfl,hi,HI,xa,xb,bwa⟩:=hrel;rename World=>wa;have hla:w.heap.size < wa.heap.size:=xa.lt;have hlb:w.heap.size+1 < wa.heap.size:=xb.lt;rcases Nat.lt_or_ge i n with hlt | hge
  ·have hi1:((i:Int) < (n:Int))=True:=by simp;omega
   obtain ⟨g,o,x,e1,hg,_,hxi,hX⟩:=(H.out.bodies.bd bwa).at_ hlt;subst e1;obtain ⟨g9,o9,y,e1,hg9,_,hyi,hY⟩:=(H'.out.bodies.bd bwa).at_ hlt;subst e1;obtain ⟨A1,n1,c1,d0,d1,hM1,_⟩:=hX;obtain ⟨A2,n2,c2,f0,f1,hM2,_⟩:=hY;have hn1:n1≤1000:=by rw [← hM1.1];exact HPS.out x (List.mem_of_getElem? hxi)
   have HM:=Qh (And.intro hM1 hM2);have HXI:=Qh (And.intro hxi hyi);obtain ⟨v1,hv1⟩:=mj (x=y);have HV1:=Qh hv1;have ca1:=xa.cell 1;have cb1:=xb.cell 1;have hi2:((i:Int) < (n:Int)):=by omega
   clear hM1 hM2 hxi hyi hv1;go_wp2_with fail
   go_region_held3 (fun w'=>Sees wa.heap.size wa w') (first | with_reducible exact Sees.of Qr (by assumption) | with_reducible exact Sees.of Qr (ae _).drew | exact Sees.of Qr (aa (ae _) 1) | exact Sees.of Qr (aa (by assumption) _))
    (first
     | (go_at_call 47;(with_reducible refine (ut _ A1 n1 c1 x ?_ A2 n2 c2 y ?_ hn1 v1 HV1.out).mono ?_);(exact HM.out.1.mk_ (by first | exact (ae wa).drew | exact aa (ae wa) _));(exact HM.out.2.mk_ (by first | exact (ae wa).drew | exact aa (ae wa) _));rintro e' w8 ⟨rfl,hb8⟩;have q8:Below wa.heap.size wa w8:=(by first | exact ah (ae wa).drew hb8 | exact ah (aa (ae wa) _) hb8)))
   have bw8:=bwa.trans (q8.mono bwa.size);have xa8:=xa.below q8 xa.lt;have xb8:=xb.below q8 xb.lt;clear ca1 cb1 d0 d1 f0 f1;cases v1
   ·have hvf:=HNO.out (x≠y) (fun h=>absurd (HV1.out.2 h) (by decide)) (fun h=>by
     subst h;have h9:=HXI.out.1.symm.trans HXI.out.2;injection h9 with h9
     exact fun h=>h h9)
    subst hvf;go_wp2;go_ret;exact ⟨rfl,bw8⟩
   have hxy:x=y:=HV1.out.1 (by simp);have HI2:Hid (L.bodies.take (i+1)=M.bodies.take (i+1)):=Qh (fN HI.out HXI.out.1 (by rw [hxy];exact HXI.out.2));clear hxy;go_wp2_with fail;go_roundw
   case rel=>exact ⟨i+1,by go_num,by omega,HI2,xa8,xb8,bw8⟩
   case measure=>simp [intOf];omega
  have hi1:((i:Int) < (n:Int))=False:=by simp;omega
  have e2:L.bodies=M.bodies:=by
   have:=HI.out;rwa [List.take_of_length_le (by rw [HLen.out.1.1];exact hge),List.take_of_length_le (by rw [HLen.out.1.2];exact hge)] at this
  have HB:=Qh e2;have ca1:=xa.cell 1;have ca2:=xa.cell 2;clear e2;go_wp2_with fail;clear ca1 ca2;go_loopw [6] (fun iv wr=>∃ i2:Nat,iv=.int .i64 (i2:Nat)∧i2≤p∧Hid (L.joints.take i2=M.joints.take i2)∧Blk wr w.heap.size 36 #[af L.name,.slice A n c,.slice B p d,.slice C q e]∧Blk wr (w.heap.size+1) 36 #[af M.name,.slice A' n c',.slice B' p d',.slice C' q e']∧Below w.heap.size w wr) (fun iv _=>p - (intOf iv).toNat)
  case atStart=>exact ⟨0,rfl,Nat.zero_le _,Qh rfl,xa,xb,bwa⟩
  case round =>
   clear xa xb bwa;obtain ⟨i2,rfl,hii2,HI,xa,xb,bwa⟩:=hrel;rename World=>wi2;have hla:w.heap.size < wi2.heap.size:=xa.lt;have hlb:w.heap.size+1 < wi2.heap.size:=xb.lt;rcases Nat.lt_or_ge i2 p with hlt | hgei2
   ·have hi1:((i2:Int) < (p:Int))=True:=by simp;omega
    have hi3:((i2:Int) < (p:Int)):=by omega
    obtain ⟨g,o,x,e1,hg,_,hxi,hX⟩:=(H.out.joints.jt bwa).at_ hlt;subst e1;obtain ⟨g9,o9,y,e1,hg9,_,hyi,hY⟩:=(H'.out.joints.jt bwa).at_ hlt;subst e1;have HXI:=Qh (And.intro hxi hyi);obtain ⟨d0,d1,d2,d3,d4,d5,d6,_⟩:=hX;obtain ⟨f0,f1,f2,f3,f4,f5,f6,_⟩:=hY;have ca1:=xa.cell 2;have cb1:=xb.cell 2;have gt1:=yG;have gt2:=yH;clear hxi hyi;by_cases k0:x.name=y.name;rotate_left
    ·have h0:(x.name == y.name)=false:=beq_eq_false_iff_ne.2 k0
     have t0:((⟨x.name.toArray⟩:ByteArray).toList == (⟨y.name.toArray⟩:ByteArray).toList)=false:=by rw [ByteArray.toList_eq,ByteArray.toList_eq];simpa using k0
     have hvf:=HNO.out _ k0 (fun h=>by
      subst h;have h9:=HXI.out.1.symm.trans HXI.out.2;injection h9 with h9
      rw [h9];simp)
     subst hvf;clear k0;go_wp2_with fail;go_quiet (fail);go_wp2;go_ret;exact ⟨rfl,by first | exact bwa | exact aa bwa _⟩
    have h0:(x.name == y.name)=true:=beq_iff_eq.2 k0;have t0:((⟨x.name.toArray⟩:ByteArray).toList == (⟨y.name.toArray⟩:ByteArray).toList)=true:=by rw [ByteArray.toList_eq,ByteArray.toList_eq];simpa using k0
    have K0:=Qh k0;clear k0;by_cases k1:x.kind=y.kind;rotate_left
    ·have h1:(x.kind == y.kind)=false:=beq_eq_false_iff_ne.2 k1
     have hvf:=HNO.out _ k1 (fun h=>by
      subst h;have h9:=HXI.out.1.symm.trans HXI.out.2;injection h9 with h9
      rw [h9];simp)
     subst hvf;clear k1;go_wp2_with fail;go_quiet (fail);go_wp2;go_ret;exact ⟨rfl,by first | exact bwa | exact aa bwa _⟩
    have h1:(x.kind == y.kind)=true:=beq_iff_eq.2 k1;have K1:=Qh k1;clear k1;by_cases k2:x.a=y.a;rotate_left
    ·have h2:(x.a == y.a)=false:=beq_eq_false_iff_ne.2 k2
     have hvf:=HNO.out _ k2 (fun h=>by
      subst h;have h9:=HXI.out.1.symm.trans HXI.out.2;injection h9 with h9
      rw [h9];simp)
     subst hvf;clear k2;go_wp2_with fail;go_quiet (fail);go_wp2;go_ret;exact ⟨rfl,by first | exact bwa | exact aa bwa _⟩
    have h2:(x.a == y.a)=true:=beq_iff_eq.2 k2;have K2:=Qh k2;clear k2;by_cases k3:x.point=y.point;rotate_left
    ·have h3:(x.point == y.point)=false:=beq_eq_false_iff_ne.2 k3
     have hvf:=HNO.out _ k3 (fun h=>by
      subst h;have h9:=HXI.out.1.symm.trans HXI.out.2;injection h9 with h9
      rw [h9];simp)
     subst hvf;clear k3;go_wp2_with fail;go_quiet (fail);go_wp2;go_ret;exact ⟨rfl,by first | exact bwa | exact aa bwa _⟩
    have h3:(x.point == y.point)=true:=beq_iff_eq.2 k3;have K3:=Qh k3;clear k3;by_cases k4:x.b=y.b;rotate_left
    ·have h4:(x.b == y.b)=false:=beq_eq_false_iff_ne.2 k4
     have hvf:=HNO.out _ k4 (fun h=>by
      subst h;have h9:=HXI.out.1.symm.trans HXI.out.2;injection h9 with h9
      rw [h9];simp)
     subst hvf;clear k4;go_wp2_with fail;go_quiet (fail);go_wp2;go_ret;exact ⟨rfl,by first | exact bwa | exact aa bwa _⟩
    have h4:(x.b == y.b)=true:=beq_iff_eq.2 k4;have K4:=Qh k4;clear k4;by_cases k5:x.on=y.on;rotate_left
    ·have h5:(x.on == y.on)=false:=beq_eq_false_iff_ne.2 k5
     have hvf:=HNO.out _ k5 (fun h=>by
      subst h;have h9:=HXI.out.1.symm.trans HXI.out.2;injection h9 with h9
      rw [h9];simp)
     subst hvf;clear k5;go_wp2_with fail;go_quiet (fail);go_wp2;go_ret;exact ⟨rfl,by first | exact bwa | exact aa bwa _⟩
    have h5:(x.on == y.on)=true:=beq_iff_eq.2 k5;have K5:=Qh k5;clear k5;by_cases k6:x.to_=y.to_;rotate_left
    ·have h6:(x.to_ == y.to_)=false:=beq_eq_false_iff_ne.2 k6
     have hvf:=HNO.out _ k6 (fun h=>by
      subst h;have h9:=HXI.out.1.symm.trans HXI.out.2;injection h9 with h9
      rw [h9];simp)
     subst hvf;clear k6;go_wp2_with fail;go_quiet (fail);go_wp2;go_ret;exact ⟨rfl,by first | exact bwa | exact aa bwa _⟩
    have h6:(x.to_ == y.to_)=true:=beq_iff_eq.2 k6;have K6:=Qh k6;clear k6
    have hxy:x=y:=by
     have q0:=K0.out;have q1:=K1.out;have q2:=K2.out;have q3:=K3.out;have q4:=K4.out;have q5:=K5.out;have q6:=K6.out;obtain ⟨x0,x1,x2,x3,x4,x5,x6⟩:=x;obtain ⟨y0,y1,y2,y3,y4,y5,y6⟩:=y;simp only at q0 q1 q2 q3 q4 q5 q6;rw [q0,q1,q2,q3,q4,q5,q6]
    have HI2:Hid (L.joints.take (i2+1)=M.joints.take (i2+1)):=Qh (fN HI.out HXI.out.1 (by rw [hxy];exact HXI.out.2));clear hxy;go_wp2_with fail;go_quiet (fail);go_wp2_with fail;go_roundw
    case rel=>first | exact ⟨i2+1,by go_num,by omega,HI2,xa,xb,bwa⟩ | exact ⟨i2+1,by go_num,by omega,HI2,xa.drewN _,xb.drewN _,aa bwa _⟩
    case measure=>simp [intOf];omega
   have hi1:((i2:Int) < (p:Int))=False:=by simp;omega
   have e2:L.joints=M.joints:=by
    have:=HI.out;rwa [List.take_of_length_le (by rw [HLen.out.2.1.1];exact hgei2),List.take_of_length_le (by rw [HLen.out.2.1.2];exact hgei2)] at this
   have Hjt:=Qh e2;have ca1:=xa.cell 2;clear e2;go_wp2_with fail;clear ca1;go_loopw [7] (fun iv wr=>∃ i3:Nat,iv=.int .i64 (i3:Nat)∧i3≤q∧Hid (L.drivers.take i3=M.drivers.take i3)∧Blk wr w.heap.size 36 #[af L.name,.slice A n c,.slice B p d,.slice C q e]∧Blk wr (w.heap.size+1) 36 #[af M.name,.slice A' n c',.slice B' p d',.slice C' q e']∧Below w.heap.size w wr) (fun iv _=>q - (intOf iv).toNat)
   case atStart=>exact ⟨0,rfl,Nat.zero_le _,Qh rfl,xa,xb,bwa⟩
   case round =>
    clear xa xb bwa;obtain ⟨i3,rfl,hii3,HI,xa,xb,bwa⟩:=hrel;rename World=>wi3;have hla:w.heap.size < wi3.heap.size:=xa.lt;have hlb:w.heap.size+1 < wi3.heap.size:=xb.lt;rcases Nat.lt_or_ge i3 q with hlt | hgei3
    ·have hi1:((i3:Int) < (q:Int))=True:=by simp;omega
     have hi3:((i3:Int) < (q:Int)):=by omega
     obtain ⟨g,o,x,e1,hg,_,hxi,hX⟩:=(H.out.drivers.dr bwa).at_ hlt;subst e1;obtain ⟨g9,o9,y,e1,hg9,_,hyi,hY⟩:=(H'.out.drivers.dr bwa).at_ hlt;subst e1;have HXI:=Qh (And.intro hxi hyi);obtain ⟨d0,d1,_⟩:=hX;obtain ⟨f0,f1,_⟩:=hY;have ca1:=xa.cell 3;have cb1:=xb.cell 3;have gt1:=yI;have gt2:=yJ;clear hxi hyi;by_cases k0:x.name=y.name;rotate_left
     ·have h0:(x.name == y.name)=false:=beq_eq_false_iff_ne.2 k0
      have t0:((⟨x.name.toArray⟩:ByteArray).toList == (⟨y.name.toArray⟩:ByteArray).toList)=false:=by rw [ByteArray.toList_eq,ByteArray.toList_eq];simpa using k0
      have hvf:=HNO.out _ k0 (fun h=>by
       subst h;have h9:=HXI.out.1.symm.trans HXI.out.2;injection h9 with h9
       rw [h9];simp)
      subst hvf;clear k0;go_wp2_with fail;go_quiet (fail);go_wp2;go_ret;exact ⟨rfl,by first | exact bwa | exact aa bwa _⟩
     have h0:(x.name == y.name)=true:=beq_iff_eq.2 k0;have t0:((⟨x.name.toArray⟩:ByteArray).toList == (⟨y.name.toArray⟩:ByteArray).toList)=true:=by rw [ByteArray.toList_eq,ByteArray.toList_eq];simpa using k0
     have K0:=Qh k0;clear k0;by_cases k1:x.body=y.body;rotate_left
     ·have h1:(x.body == y.body)=false:=beq_eq_false_iff_ne.2 k1
      have hvf:=HNO.out _ k1 (fun h=>by
       subst h;have h9:=HXI.out.1.symm.trans HXI.out.2;injection h9 with h9
       rw [h9];simp)
      subst hvf;clear k1;go_wp2_with fail;go_quiet (fail);go_wp2;go_ret;exact ⟨rfl,by first | exact bwa | exact aa bwa _⟩
     have h1:(x.body == y.body)=true:=beq_iff_eq.2 k1;have K1:=Qh k1;clear k1
     have hxy:x=y:=by
      have q0:=K0.out;have q1:=K1.out;obtain ⟨x0,x1⟩:=x;obtain ⟨y0,y1⟩:=y;simp only at q0 q1;rw [q0,q1]
     have HI2:Hid (L.drivers.take (i3+1)=M.drivers.take (i3+1)):=Qh (fN HI.out HXI.out.1 (by rw [hxy];exact HXI.out.2));clear hxy;go_wp2_with fail;go_quiet (fail);go_wp2_with fail;go_roundw
     case rel=>first | exact ⟨i3+1,by go_num,by omega,HI2,xa,xb,bwa⟩ | exact ⟨i3+1,by go_num,by omega,HI2,xa.drewN _,xb.drewN _,aa bwa _⟩
     case measure=>simp [intOf];omega
    have hi1:((i3:Int) < (q:Int))=False:=by simp;omega
    have e2:L.drivers=M.drivers:=by
     have:=HI.out;rwa [List.take_of_length_le (by rw [HLen.out.2.2.1];exact hgei3),List.take_of_length_le (by rw [HLen.out.2.2.2];exact hgei3)] at this
    have Hdr:=Qh e2;have ca1:=xa.cell 3;clear e2
    have hvt:v=true:=HV.out.2 (by
     have q0:=HN.out;have q1:=HB.out;have q2:=Hjt.out;have q3:=Hdr.out;obtain ⟨a1,a2,a3,a4⟩:=L;obtain ⟨b1,b2,b3,b4⟩:=M;simp only at q0 q1 q2 q3
     rw [q0,q1,q2,q3])
    subst hvt;go_wp2;go_ret;exact ⟨rfl,bwa⟩
theorem xJ {L:ag}(h:be L=0):bT L=0∧cj L=bO L:=by
 refine ⟨?_,if_pos h⟩;unfold be at h;split at h
 ·exact h
 rename_i h0;simpa using h0
theorem LkS.upto {k k':Nat}{w:World}{A B C:Option Addr}{n c p d q e:Nat}{L:ag}(h:LkS k w A n c B p d C q e L) (hk:k≤k'):LkS k' w A n c B p d C q e L:=by
 have hr:∀ g o r,cJ w g o r k→cJ w g o r k':=fun g o r ⟨b,A,n,c,D,m,e,h1,h2,h3,h4⟩=>⟨b,A,n,c,D,m,e,h1,h2,h3,h4.1,h4.2.1,h4.2.2.1,Nat.le_trans h4.2.2.2.1 hk,Nat.le_trans h4.2.2.2.2 hk⟩
 refine ⟨h.name,h.bodies.mono_ fun g o b _ hp=>?_,h.joints,h.drivers⟩;obtain ⟨A',n',c',c0,c1,hM,hn⟩:=hp;exact ⟨A',n',c',c0,c1,hM.mono_ fun g o m _ hm=>⟨hm.1,hr _ _ _ hm.2.1,hr _ _ _ hm.2.2.1,hm.2.2.2⟩,hn⟩
theorem uw (w:World) (A:Option Addr) (n c:Nat) (A':Option Addr) (c':Nat) (Ls:List ag) (k k':Nat) (h:SlS (dL k) 4 w A n c Ls) (h':SlS (dL k') 4 w A' n c' Ls) (hk:k≤1000000) (hk':k'≤1000000) (hn:n≤1000000) (hE:∀ L∈Ls,bT L=0) :
 Calls Tryz.prog 24 #[.slice A n c,.slice A' n c'] w (aF w (.bool true)):=by
 have H:=Qh h;have H':=Qh h';have HE:=Qh hE;have hnc:=h.2.1;have hnc':=h'.2.1;clear h h' hE;go_in;go_wp2_with fail;go_loopw [5] (fun iv wr=>∃ i:Nat,iv=.int .i64 (i:Nat)∧i≤n∧Below w.heap.size w wr) (fun iv _=>n - (intOf iv).toNat)
 case atStart=>exact ⟨0,rfl,Nat.zero_le _,ae w⟩
 case round =>
  obtain ⟨i,rfl,hi,bwa⟩:=hrel;rename World=>wa;rcases Nat.lt_or_ge i n with hlt | hge
  ·have hi1:((i:Int) < (n:Int))=True:=by simp;omega
   obtain ⟨g,o,L,e1,hg,_,hLi,hX⟩:=(H.out.lk bwa).at_ hlt;subst e1;obtain ⟨g9,o9,M,e1,hg9,_,hMi,hY⟩:=(H'.out.lk bwa).at_ hlt;subst e1;rw [hLi] at hMi;injection hMi with hMi;subst hMi;have hF:=jJ (HE.out L (List.mem_of_getElem? hLi));obtain ⟨A1,n1,c1,B1,p1,d1,C1,q1,e1,a0,a1,a2,a3,hK1⟩:=hX;obtain ⟨A2,n2,c2,B2,p2,d2,C2,q2,e2,b0,b1,b2,b3,hK2⟩:=hY;have hps:∀ b∈L.bodies,b.pts.length≤1000:=fun b hb=>by have:=(hF.ok.body b hb).2.1;omega
   have hn1:n1≤1000:=by have:=hF.ok.nb;rw [hK1.bodies.1] at this;omega
   have hp1:p1≤1000:=by have:=hF.ok.nj;rw [hK1.joints.1] at this;omega
   have hq1:q1≤1000:=by have:=hF.ok.nd;rw [hK1.drivers.1] at this;omega
   have HK:=Qh (And.intro (hK1.upto hk) (And.intro (hK2.upto hk') hps));have hi2:((i:Int) < (n:Int)):=by omega
   have hga:g < wa.heap.size:=hg;have hgb:g9 < wa.heap.size:=hg9;clear hF hK1 hK2 hps hLi;go_wp2_with fail
   go_region_held3 (fun w'=>Sees wa.heap.size wa w') (first | with_reducible exact Sees.of Qr (by assumption) | with_reducible exact Sees.of Qr (ae _).drew | exact Sees.of Qr (aa (ae _) 1) | exact Sees.of Qr (aa (by assumption) _))
    (first
     | (go_at_call 17;(with_reducible refine (uu _ A1 n1 c1 B1 p1 d1 C1 q1 e1 L ?_ A2 n2 c2 B2 p2 d2 C2 q2 e2 L ?_ HK.out.2.2 hn1 hp1 hq1 true (by simp)).mono ?_);(exact HK.out.1.belw (by first | exact (ae wa).drew | exact aa (ae wa) _));(exact HK.out.2.1.belw (by first | exact (ae wa).drew | exact aa (ae wa) _));rintro e' w8 ⟨rfl,hb8⟩;have q8:Below wa.heap.size wa w8:=(by first | exact ah (ae wa).drew hb8 | exact ah (aa (ae wa) _) hb8)))
   have bw8:=ah bwa q8;clear a0 a1 a2 a3 b0 b1 b2 b3;go_wp2_with fail;go_roundw
   case rel=>exact ⟨i+1,by go_num,by omega,bw8⟩
   case measure=>simp [intOf];omega
  have hi1:((i:Int) < (n:Int))=False:=by simp;omega
  go_wp2;go_ret;exact ⟨rfl,bwa⟩
theorem SlS.lkw {k:Nat}{w:World}{A:Option Addr}{n c:Nat}{Ls:List ag}(h:SlS (dL k) 4 w A n c Ls):∀ L∈Ls,LkW L:=by
 intro L hL;obtain ⟨i,hi,e⟩:=List.getElem_of_mem hL;obtain ⟨g,o,a,_,_,_,ha,hp⟩:=h.at_ (i:=i) (by rw [← h.1];exact hi);rw [List.getElem?_eq_getElem hi] at ha;injection ha with ha;rw [← ha,e] at hp;obtain ⟨A,n,c,B,p,d,C,q,e,_,_,_,_,hK⟩:=hp;exact hK.words
theorem yK {Ls:List ag}(h:cX Ls=0):Ls.length≤16∧cE Ls=0∧(cD Ls).length≤65536∧eZ Ls=cD Ls:=by
 unfold cX at h;split at h
 ·cases h
 rename_i h16;split at h
 ·rename_i h1;exact absurd h h1
 rename_i h1;split at h
 ·cases h
 rename_i h2;exact ⟨Nat.le_of_not_lt h16,Classical.byContradiction h1,Nat.le_of_not_lt h2,(nz h16 (Classical.byContradiction h1) h2).2⟩
theorem nX:∀ {Ls:List ag},cE Ls=0→∀ L∈Ls,be L=0
 | [],_,L,hL=>by cases hL
 | M :: r,h,L,hL=>by
  unfold cE at h;split at h
  ·rename_i h0
   rcases List.mem_cons.1 hL with rfl | hL
   ·exact h0
   exact nX h L hL
  rename_i h0;exact absurd h h0
theorem rP (w:World) (A:Option Addr) (n c:Nat) (Ls:List ag) (h:SlS (dL reachBytes) 4 w A n c Ls) (htab:Tab w) (hmx:Mx w) (ht:T64 w):Calls Tryz.prog 8 #[.slice A n c] w (aF w (.bool true)):=by
 have H:=Qh h;have HTab:=Qh htab;have HM:=Qh hmx;have HT:=Qh ht;clear h htab hmx ht;go_in;go_wp2_with fail;(with_reducible refine (lb w HTab.out HT.out).mono ?_);rintro e' w1 ⟨rfl,q1⟩;go_wp2_with fail;(with_reducible refine (rD w1 A n c Ls (H.out.lk q1)).mono ?_);rintro e' w2 ⟨⟨v,rfl,hv⟩,hb2⟩;have q2:=ah q1 hb2;have HV:=Qh hv;clear hv hb2;cases v
 ·obtain ⟨hn,hL⟩:=HV.out rfl
  have H40:=Qh ((H.out.lk q2).ok40 hL);have HL:=Qh hL;clear hL;go_wp2_with fail;(with_reducible refine (t7 w2 A n c Ls H40.out (HTab.out.belw q2) (HT.out.belw q2) (by omega)).mono ?_);rintro e' w3 ⟨rfl,hb3⟩;have q3:=ah q2 hb3;by_cases hE:cX Ls=0
  ·obtain ⟨h16,hf,h65,hpt⟩:=yK hE
   have hall:=nX hf;have hlk:∀ L∈Ls,bT L=0:=fun L hL=>(xJ (hall L hL)).1
   have hok:∀ L∈Ls,yE L:=fun L hL=>⟨hall L hL,rL (hall L hL) (H.out.lkw L hL),HL.out L hL⟩
   rw [hE,hpt,show bC 0=.nilIface from if_pos rfl];obtain ⟨S,hS⟩:∃ S,cD Ls=S:=⟨_,rfl⟩;rw [hS] at h65 ⊢;have hln:=H.out.1;have HS:=Qh hS;have HOK:=Qh (And.intro hlk (And.intro hok (And.intro h16 hln)));clear hE hpt hf hall hlk hok hS h16 hln;go_wp2_with fail;(with_reducible refine (nT w3 Ls S HS.out HOK.out.2.2.1 h65 HOK.out.2.1 (HTab.out.belw q3) (HT.out.belw q3) (HM.out.belw q3)).mono ?_);rintro e' w4 ⟨A',c',rfl,hL4,hb4⟩;rw [HOK.out.2.2.2] at hL4 ⊢;have HL4:=Qh hL4;have q4:=ah q3 hb4;have q34:=ah hb3 hb4;clear hL4;go_wp2_with fail;(with_reducible refine (pi w4 Ls S HS.out HOK.out.2.2.1 h65 (HTab.out.belw q4) (HM.out.belw q4)).mono ?_);rintro e' w5 ⟨rfl,hb5⟩;rw [HOK.out.2.2.2];have q5:=ah q4 hb5;go_wp2_with fail;(with_reducible refine (uw w5 A n c A' c' Ls 40 130 (H40.out.lk (ah q34 hb5)) (HL4.out.lk hb5) (by omega) (by omega) (by omega) HOK.out.1).mono ?_);rintro e' w6 ⟨rfl,hb6⟩;have q6:=ah q5 hb6;go_wp2;go_ret;exact ⟨rfl,q6⟩
  have hpt:eZ Ls=[]:=if_neg hE;rw [hpt,eVp hE];go_wp2;go_ret;exact ⟨rfl,q3⟩
 go_wp2_with fail;(with_reducible refine (lb w2 (HTab.out.belw q2) (HT.out.belw q2)).mono ?_);rintro e' w3 ⟨rfl,hb3⟩;have q3:=ah q2 hb3;go_wp2;go_ret;exact ⟨rfl,q3⟩
end Go.Proofs.YtfilnhompchciaaGreatDoor
namespace Go.Proofs.YtfilnhompchciaaGreatDoor
open Go Go.RowKit Bn Go.ChangeShapes Go.WideShapes
attribute [local go_sem ↓] Go.wp_at_zero Go.wp_at_succ

theorem j8 {H:Type}{enc:TypeId × Value→H}{W:World}{P:Program}(hl:laidOutB P=true) {W':World}(hb:Below W.heap.size W W'):∀ {ts:List TypeId}{vs:List Value}{ds:List (DataW H)}{ps:List MemPlace},(ts.all fun t=>P.readableRec t && decide (t < P.types.size))=true →
 DataW.TrodAll enc P W 0 (fun _=>true) true ts vs ds ps→DataW.TrodAll enc P W' 0 (fun b=>decide (b < W.heap.size)) true ts vs ds ps
 | [],[],[],_,_,h=>h
 | _ :: _,_ :: _,_ :: _,_,hr,h=>by
  have hlt:=h.lt;obtain ⟨p,q,h1,h2,e⟩:=h;rw [List.all_cons,Bool.and_eq_true,Bool.and_eq_true,decide_eq_true_eq] at hr;exact ⟨p,q,Below.trod hl hr.1.1 hr.1.2 h1 hb (fun x hx=>hlt x (by rw [e];exact List.mem_append_left _ hx)),j8 hl hb hr.2 h2,e⟩
 | [],[],_ :: _,_,_,h=>h.elim
 | [],_ :: _,_,_,_,h=>h.elim
 | _ :: _,[],_,_,_,h=>h.elim
 | _ :: _,_ :: _,[],_,_,h=>h.elim
theorem ux {H:Type}{enc:TypeId × Value→H}{W:World}{P:Program}{B:TypeId}{f:Func}{s:ChangeSpec}{W':World}{args:Array Value}{ds:List (DataW H)}{before:List MemPlace}(hl:laidOutB P=true) (hB:P.underlying B=some .bool)
 (hW:DataW.Whole enc P f.params.toList s.vars false W args.toList ds [] before) (hv:s.vars=[]) (hr:f.resultTypes=#[B]) (hp:(f.params.toList.all fun t=>P.readableRec t && decide (t < P.types.size))=true)
 (hres:(s.fn H (ds ++ [])).results=[.lit (.bool true)]) (hargs:(s.fn H (ds ++ [])).args=ds) (hvars:(s.fn H (ds ++ [])).vars=[]) (hb:Below W.heap.size W W') :
 s.post enc P f false true false false W args (.bool true) W':=by
 have hW':=hW;obtain ⟨p,q,hA,hV,rfl,_,_⟩:=hW;have hV':=hV;rw [hv] at hV';obtain ⟨_,rfl⟩:=trodVars_none hV';refine ⟨ds,[],_,[],p,[],hW',?_,?_,?_,hb.frame _,fun h=>by cases h⟩
 ·rw [hr,hres]
  exact trodAll_mk1 (shut_bool hB _)
 ·rw [hargs]
  exact j8 hl hb hp hA
 rw [hv,hvars];rfl
theorem ml {P:Program}{f:FuncId}{fn:Func}{s:ChangeSpec}{c:OpenClaim}
 (h1:(c.wf (OpenSpec.ofChange s) && laidOutB P && mapsRowed P && fn.params.all (P.readableRec ·) && namedTie P c.named s.vars && (c.stops == []) && (P.stops == []) && (c.knobs == []) && (P.stopKnobs == []))=true)
 (h2:(c.inPlace == P.inPlace f)=true) (h3:(c.unfollowed == P.unfollowed f)=true) (h4:(c.recurses == P.recurses f)=true) (h5:(c.named == P.varsNamed f)=true)
 (h6:((c.maps == (fn.params.toList ++ s.plain.varTypes P).any (P.mapsRec ·)) && (c.ifaces == (fn.params.toList ++ s.plain.varTypes P).any (P.ifacesRec ·)) && (c.mapsOut == P.mapsAmong fn.resultTypes.toList) &&
  (c.loops == (fn.params.toList ++ s.plain.varTypes P).any (P.loopsFrom ·)) && (c.wideKeys == (fn.params.toList ++ s.plain.varTypes P ++ fn.resultTypes.toList).any (P.wideKeysFrom ·)) &&
  s.vars.all (P.varReadable ·) && fn.resultTypes.all (fun t=>P.readableRec t && decide (t < P.types.size)) && (c.ifacesOut == fn.resultTypes.toList.any (P.ifacesRec ·)) && (c.loopsOut == fn.resultTypes.toList.any (P.loopsFrom ·)) && (c.plainKeys == P.plainKeys) && c.shortTexts.isNone && P.stopsHeard && P.mayEnter && (c.lifted == P.liftsFinal) && (P.make == some c.make) && (c.kinds == (if c.domain.isEmpty then [] else fn.params.toList.map fun t=>match P.underlying t with | some (.int k)=>some k | _=>none)) && (c.pinned == c.pinnedBy) &&
  (c.veiled == (fn.params.toList ++ s.plain.varTypes P ++ fn.resultTypes.toList).any (P.veiledRec ·)) && c.veiledFits P fn.params.toList (fn.params.toList ++ s.plain.varTypes P ++ fn.resultTypes.toList))=true):joinedFacts P f fn s c=true:=by
 unfold joinedFacts;simp only [Bool.and_eq_true] at h1 h6 ⊢;obtain ⟨⟨⟨⟨⟨⟨⟨⟨a0,a1⟩,a2⟩,a3⟩,a4⟩,a5⟩,a6⟩,a7⟩,a8⟩:=h1;obtain ⟨⟨⟨⟨⟨⟨⟨⟨⟨⟨⟨⟨⟨⟨⟨⟨⟨⟨b0,b1⟩,b2⟩,b3⟩,b4⟩,b5⟩,b6⟩,b7⟩,b8⟩,b9⟩,b10⟩,b11⟩,b12⟩,b13⟩,b14⟩,b15⟩,b16⟩,b17⟩,b18⟩:=h6;exact ⟨⟨⟨⟨⟨⟨⟨⟨⟨⟨⟨⟨⟨⟨⟨⟨⟨⟨⟨⟨⟨⟨⟨⟨⟨⟨⟨⟨⟨⟨⟨a0,a1⟩,a2⟩,a3⟩,a4⟩,a5⟩,a6⟩,a7⟩,a8⟩,h2⟩,h3⟩,h4⟩,h5⟩,b0⟩,b1⟩,b2⟩,b3⟩,b4⟩,b5⟩,b6⟩,b7⟩,b8⟩,b9⟩,b10⟩,b11⟩,b12⟩,b13⟩,b14⟩,b15⟩,b16⟩,b17⟩,b18⟩
section
variable {H:Type}{enc:TypeId × Value→H}{W:World}{base:Nat}
end
theorem mm {W:World}(h:W.ShapedOpen Tryz.prog):∃ m,W.cell? ⟨0,0,none⟩=some (.int .i64 m) :=
 Go.Proofs.cell_of_shapedOpen_int (P:=Tryz.prog) (g:=0) (t:=3) (zero:=#[.int .i64 0]) h (of_decide_eq_true (by kernel_rfl)) (by kernel_rfl) rfl (by kernel_rfl) (by kernel_rfl) Tryz.underlying3
theorem yL : Tryz.prog.globalNamed "internal/strconv.uint64pow10" = some 1 := by kernel_rfl
theorem xK:(Tryz.prog.globals[1]?).map (·.type)=some 214:=by kernel_rfl
theorem rQ:Tryz.prog.cellsOf 214=20:=by kernel_rfl
theorem rR:Tryz.prog.cellsOf 117=1:=by kernel_rfl
theorem uy {H:Type}:(Rows.laid_internal_strconv_uint64pow10:DataW H)=Lib.tabData .u64 Lib.pow10Tab:=by kernel_rfl
theorem nY {rest : List (String × DataW Unit)} {W : World} (h : laidMet Tryz.prog (("math/bits.deBruijn32tab", Rows.laid_math_bits_deBruijn32tab) :: ("math/bits.deBruijn64tab", Rows.laid_math_bits_deBruijn64tab) :: ("internal/strconv.uint64pow10", Rows.laid_internal_strconv_uint64pow10) :: rest) W) : Tab W := by
 obtain ⟨ps,⟨_,_,_,_,_,_,_,_,_,_,⟨_,_,_,_,_,_,_,_,_,_,⟨g,t,cs,f,p,q,hg,ht,hv,hd,_,_⟩,_⟩,_⟩,_,_⟩:=h;obtain rfl:=Option.some.inj (yL.symm.trans hg);obtain rfl:=Option.some.inj (xK.symm.trans ht);rw [uy] at hd;unfold Tab Lib.TabIs;rw [hv,← Lib.cells_of_tab Tryz.underlying214 Tryz.underlying117 rR rQ hd]
noncomputable def low:Nat:=(World.holding Tryz.prog default ⟨#[],#[],[]⟩).heap.size
noncomputable def iJ (os:Os):World :=
  let w0:=World.holding Tryz.prog os ⟨#[.cells #[.string ⟨#[118,97,108,117,101,32,111,117,116,32,111,102,32,114,97,110,103,101]⟩] 258,.cells #[.string ⟨#[105,110,118,97,108,105,100,32,115,121,110,116,97,120]⟩] 258],#[],[]⟩
  { w0 with heap:=(((((((w0.heap.modify 1 fun
      | .cells _ t frozen=>.cells (#[.int .u64 1,.int .u64 10,.int .u64 100,.int .u64 1000,.int .u64 10000,.int .u64 100000,.int .u64 1000000,.int .u64 10000000,.int .u64 100000000,.int .u64 1000000000,.int .u64 10000000000,.int .u64 100000000000,.int .u64 1000000000000,.int .u64 10000000000000,.int .u64 100000000000000,.int .u64 1000000000000000,.int .u64 10000000000000000,.int .u64 100000000000000000,.int .u64 1000000000000000000,.int .u64 10000000000000000000]) t frozen
      | o=>o).modify 6 fun
      | .cells _ t frozen=>.cells (#[.int .u8 0,.int .u8 1,.int .u8 28,.int .u8 2,.int .u8 29,.int .u8 14,.int .u8 24,.int .u8 3,.int .u8 30,.int .u8 22,.int .u8 20,.int .u8 15,.int .u8 25,.int .u8 17,.int .u8 4,.int .u8 8,.int .u8 31,.int .u8 27,.int .u8 13,.int .u8 23,.int .u8 21,.int .u8 19,.int .u8 16,.int .u8 7,.int .u8 26,.int .u8 12,.int .u8 18,.int .u8 6,.int .u8 11,.int .u8 5,.int .u8 10,.int .u8 9]) t frozen
      | o=>o).modify 7 fun
      | .cells _ t frozen=>.cells (#[.int .u8 0,.int .u8 1,.int .u8 56,.int .u8 2,.int .u8 57,.int .u8 49,.int .u8 28,.int .u8 3,.int .u8 61,.int .u8 58,.int .u8 42,.int .u8 50,.int .u8 38,.int .u8 29,.int .u8 17,.int .u8 4,.int .u8 62,.int .u8 47,.int .u8 59,.int .u8 36,.int .u8 45,.int .u8 43,.int .u8 51,.int .u8 22,.int .u8 53,.int .u8 39,.int .u8 33,.int .u8 30,.int .u8 24,.int .u8 18,.int .u8 12,.int .u8 5,.int .u8 63,.int .u8 55,.int .u8 48,.int .u8 27,.int .u8 60,.int .u8 41,.int .u8 37,.int .u8 16,.int .u8 46,.int .u8 35,.int .u8 44,.int .u8 21,.int .u8 52,.int .u8 32,.int .u8 23,.int .u8 11,.int .u8 54,.int .u8 26,.int .u8 40,.int .u8 15,.int .u8 34,.int .u8 20,.int .u8 31,.int .u8 10,.int .u8 25,.int .u8 14,.int .u8 19,.int .u8 9,.int .u8 13,.int .u8 8,.int .u8 7,.int .u8 6]) t frozen
      | o=>o).modify 5 fun
      | .cells _ t frozen=>.cells (#[.int .u8 128,.int .u8 191,.int .u8 160,.int .u8 191,.int .u8 128,.int .u8 159,.int .u8 144,.int .u8 191,.int .u8 128,.int .u8 143,.int .u8 0,.int .u8 0,.int .u8 0,.int .u8 0,.int .u8 0,.int .u8 0,.int .u8 0,.int .u8 0,.int .u8 0,.int .u8 0,.int .u8 0,.int .u8 0,.int .u8 0,.int .u8 0,.int .u8 0,.int .u8 0,.int .u8 0,.int .u8 0,.int .u8 0,.int .u8 0,.int .u8 0,.int .u8 0]) t frozen
      | o=>o).modify 4 fun
      | .cells _ t frozen=>.cells ((Go.Pinned.utf8FirstZ.map fun z:Nat=>Value.int .u8 (z:Int)).toArray) t frozen
      | o=>o).modify 3 fun
      | .cells _ t frozen=>.cells (#[.iface 256 (.pointer (some ⟨low,0,none⟩))]) t frozen
      | o=>o).modify 2 fun
      | .cells _ t frozen=>.cells (#[.iface 256 (.pointer (some ⟨low+1,0,none⟩))]) t frozen
      | o=>o) }
theorem uz:ownKnob Tryz.prog.godebug=none:=by kernel_rfl
theorem uA:laidOutB Tryz.prog=true:=by kernel_rfl
section
variable {H:Type}{enc:TypeId × Value→H}{W:World}
theorem lq {a:Addr}{v:Value}(h:W.cell? a=some v):∃ g o,a=⟨g,o,none⟩∧g < W.heap.size:=by
 obtain ⟨g,o,s⟩:=a;unfold World.cell? at h;dsimp only at h;split at h
 ·rename_i c _ _ hb
  cases s with
  | none=>exact ⟨g,o,rfl,lt_of_block hb⟩
  | some _=>simp at h
 cases h
def Szd (t:TypeId) (d:DataW H):Prop:=∀ n∈DataW.weights Tryz.prog t d,n≤reachBytes
theorem Szd.field {t:TypeId}{fs:Array Field}{xs:List (DataW H × List MemPlace)}(hu:Tryz.prog.underlying t=some (.struct fs)) (h:Szd t (.agg (xs.map (·.1)))) {i:Nat}{f:Field}{y:DataW H × List MemPlace}(hf:fs[i]?=some f) (hy:xs[i]?=some y):Szd f.type y.1:=by
 intro n hn;refine h n ?_;rw [DataW.weights,hu];exact DataW.weights_mem_each (j:=i) (t:=f.type) (d:=y.1) (by rw [List.getElem?_map,Array.getElem?_toList,hf];rfl) (by rw [List.getElem?_map,hy];rfl) n hn
theorem eO {P:Program}{e:TypeId}:∀ {ds:List (DataW H)}{d:DataW H},d∈ds→∀ n∈DataW.weights P e d,n∈DataW.weightsAll P e ds
 | x :: ds,d,hd,n,hn=>by
  rw [DataW.weightsAll,List.mem_append];rcases List.mem_cons.1 hd with rfl | hd
  ·exact .inl hn
  exact .inr (eO hd n hn)
 | [],_,hd,_,_=>by cases hd
theorem Szd.elem {t e:TypeId}{l sp:List (DataW H)}(hu:Tryz.prog.underlying t=some (.slice e)) (h:Szd t (.slice l sp)) {d:DataW H}(hd:d∈l):Szd e d:=by
 intro n hn;refine h n ?_;rw [DataW.weights,hu];exact List.mem_cons_of_mem _ (List.mem_append_left _ (eO hd n hn))
theorem Szd.room {t e:TypeId}{l sp:List (DataW H)}(hu:Tryz.prog.underlying t=some (.slice e)) (h:Szd t (.slice l sp)):(l.length+sp.length) * Tryz.prog.bytesOf e≤reachBytes:=by
 refine h _ ?_;rw [DataW.weights,hu];exact List.mem_cons_self
theorem Szd.str {t:TypeId}{l:List UInt8}(h:Szd t (.lit (.string l):DataW H)):l.length≤reachBytes:=h _ (by simp [DataW.weights])
theorem xM {ts:List TypeId}{ds:List (DataW H)}(h:(DataW.weightsEach Tryz.prog ts ds).all (·≤reachBytes)=true) {j:Nat}{t:TypeId}{d:DataW H}(ht:ts[j]?=some t) (hd:ds[j]?=some d):Szd t d:=fun n hn=>by simpa using List.all_eq_true.1 h n (DataW.weights_mem_each ht hd n hn)
theorem xN {g o i:Nat}:(⟨g,o,none⟩:Addr).add i=⟨g,o+i,none⟩:=add_plain g o i
theorem j9 {v:Value}{fuel:Nat}{x:DataW H × List MemPlace}(ht:DataW.trod enc Tryz.prog W 0 (fun _=>true) true fuel 63 [v]=some x) (hz:Szd 63 x.1) :
 ∃ A n c l,v=.slice A n c∧Wd W A n c l∧n≤reachBytes:=by
 rcases open_ints Tryz.underlying63 Tryz.underlying58 (by kernel_rfl) ht with ⟨hv,_⟩ | ⟨a,len,cap,zs,hv,_,hl,hcm,hzl,hx,hc,hwf⟩
 ·injection hv with hv _
  exact ⟨none,0,0,[],hv,Wd.nil_ W,Nat.zero_le _⟩
 injection hv with hv _;subst hv;rw [hx] at hz;have hrm:=hz.room Tryz.underlying63;have hb4:Tryz.prog.bytesOf 58=4:=by kernel_rfl
 rw [hb4] at hrm;have hz:zs.length=cap:=by simpa using hzl
 have hlr:len≤reachBytes:=by
  have:(lits (H:=H) .u32 (zs.take len)).length=len:=by simp [lits];omega
  omega
 have h0:∀ i,i < zs.length→0≤zs.getD i 0∧zs.getD i 0≤4294967295:=by
  intro i hi;have h1:=hwf (zs.getD i 0) (by rw [List.getD_eq_getElem?_getD,List.getElem?_eq_getElem hi];simp);simpa [Lit.wf,IntKind.min,IntKind.max,IntKind.signed,IntKind.bits] using h1
 refine ⟨some a,len,cap,(zs.take len).map Int.toNat,rfl,⟨?_,?_,hl,fun hn=>?_⟩,hlr⟩
 ·intro y hy
  obtain ⟨z,hz1,rfl⟩:=List.mem_map.1 hy;obtain ⟨i,hi,he⟩:=List.getElem_of_mem hz1;have hi2:i < zs.length:=by rw [List.length_take] at hi;omega
  have h1:=h0 i hi2;rw [List.getD_eq_getElem?_getD,List.getElem?_eq_getElem hi2] at h1;rw [List.getElem_take] at he;simp only [Option.getD_some] at h1;rw [he] at h1;omega
 ·rw [List.length_map,List.length_take];omega
 have hc0:=hc 0 (by omega);have e0:a.add 0=a:=by simp [Addr.add]
 rw [e0] at hc0;obtain ⟨g,o,rfl,_⟩:=lq hc0;have hc1:=hc0;unfold World.cell? at hc1;dsimp only at hc1;split at hc1
 ·rename_i cur el fr hb
  have hr:dP W g cur fr:=⟨el,.inr (wH (i:=o) (k:=.u32) (z:=zs.getD 0 0) (by simpa using hc1)),hb⟩;refine ⟨g,o,cur,fr,rfl,hr,fun i hi=>?_⟩;have h1:=hc i (by omega);have h2:=h0 i (by omega);rw [xN,hr.cell] at h1;rw [h1]
  have e4:wd ((zs.take len).map Int.toNat) i=(zs.getD i 0).toNat:=by
   unfold wd;rw [List.getD_eq_getElem?_getD,List.getElem?_map,List.getElem?_take,if_pos hi,List.getD_eq_getElem?_getD];rcases zs[i]? with _ | z <;> rfl
  rw [e4,Int.toNat_of_nonneg h2.1]
 cases hc1
theorem po:Tryz.prog.cellsOf 4=1:=by kernel_rfl
theorem lr:Tryz.prog.cellsOf 3=1:=by kernel_rfl
theorem ef:Tryz.prog.cellsOf 9=1:=by kernel_rfl
theorem nZ:Tryz.prog.cellsOf 63=1:=by kernel_rfl
theorem rS:Tryz.prog.cellsOf 65=3:=by kernel_rfl
theorem au {α:Type}{xs:List α}{i:Nat}(h:i < xs.length):xs[i]?=some xs[i]:=List.getElem?_eq_getElem h
theorem n0 {v0 v1 v2:Value}{fuel:Nat}{x:DataW H × List MemPlace}(ht:DataW.trod enc Tryz.prog W 0 (fun _=>true) true fuel 65 [v0,v1,v2]=some x) (hz:Szd 65 x.1) :
 ∃ b A n c D m e r,v0=.bool b∧v1=.slice A n c∧v2=.slice D m e∧QD W b A n c D m e r reachBytes:=by
 obtain ⟨xs,n,_,hx,_,hxl,hf⟩:=DataW.trod_struct Tryz.underlying65 ht;rw [hx] at hz;have f0:DataW.trod enc Tryz.prog W 0 (fun _=>true) true n 4 (List.take (Tryz.prog.cellsOf 4) [v0,v1,v2])=xs[0]?:=hf 0 _ rfl;have f1:DataW.trod enc Tryz.prog W 0 (fun _=>true) true n 63 (List.take (Tryz.prog.cellsOf 63) [v1,v2])=xs[1]?:=hf 1 _ rfl;have f2:DataW.trod enc Tryz.prog W 0 (fun _=>true) true n 63 (List.take (Tryz.prog.cellsOf 63) [v2])=xs[2]?:=hf 2 _ rfl;rw [po] at f0;rw [nZ] at f1 f2;have hx0:xs.length=3:=hxl;rw [au (show 0 < xs.length by omega)] at f0;have z0:=hz.field Tryz.underlying65 (i:=0) rfl (au (show 0 < xs.length by omega));rw [au (show 1 < xs.length by omega)] at f1;have z1:=hz.field Tryz.underlying65 (i:=1) rfl (au (show 1 < xs.length by omega));rw [au (show 2 < xs.length by omega)] at f2;have z2:=hz.field Tryz.underlying65 (i:=2) rfl (au (show 2 < xs.length by omega));obtain ⟨b,hb,_⟩:=DataW.trod_bool Tryz.underlying4 f0;obtain ⟨A,n1,cc,l,rfl,h1,k1⟩:=j9 f1 z1;obtain ⟨D,m,e,l',rfl,h2,k2⟩:=j9 f2 z2;injection hb with hb _;exact ⟨b,A,n1,cc,D,m,e,⟨b,l,l'⟩,hb,rfl,rfl,rfl,h1,h2,k1,k2⟩
theorem fo {v:Value}{fuel:Nat}{x:DataW H × List MemPlace}(ht:DataW.trod enc Tryz.prog W 0 (fun _=>true) true fuel 9 [v]=some x) (hz:Szd 9 x.1):∃ t:List UInt8,v=af t∧NmL t:=by
 obtain ⟨s,hs,hx,_⟩:=DataW.trod_string Tryz.underlying9 ht;injection hs with hs _;subst hs;obtain ⟨t,rfl⟩:∃ t:List UInt8,s=⟨t.toArray⟩:=⟨s.data.toList,by simp⟩;refine ⟨t,rfl,?_⟩;rw [hx] at hz;have h9:t.length≤reachBytes:=hz.str;have h8:=reachBytes_lt;unfold NmL;omega
theorem fq {α:Type} [Inhabited α] (P0:World→Nat→Nat→α→Prop) {t e:TypeId}(s:Nat) (ht:Tryz.prog.underlying t=some (.slice e)) (hs:Tryz.prog.cellsOf e=s) (hs0:0 < s)
 (one:∀ (fuel:Nat) (cs:List Value) (y:DataW H × List MemPlace) (g o:Nat),cs.length=s→(∀ i,i < s→W.cell? ⟨g,o+i,none⟩=cs[i]?)→DataW.trod enc Tryz.prog W 0 (fun _=>true) true fuel e cs=some y→Szd e y.1→∃ a,P0 W g o a)
 {v:Value}{fuel:Nat}{x:DataW H × List MemPlace}(h:DataW.trod enc Tryz.prog W 0 (fun _=>true) true fuel t [v]=some x) (hz:Szd t x.1):∃ A n c l,v=.slice A n c∧SlS P0 s W A n c l:=by
 rcases Go.Deep.open_slice ht h with ⟨hv,_⟩ | ⟨a,len,cap,m,n,D,Pl,hv,_,hl,hm,hmm,hxe,hx⟩
 ·injection hv with hv _
  exact ⟨none,0,0,[],hv,⟨rfl,Qr,fun h=>absurd h (by omega)⟩⟩
 injection hv with hv _;subst hv;rw [hxe] at hz;have hmc:m=cap:=by simpa using hmm
 subst hmc;rw [hs] at hx;rcases Nat.eq_zero_or_pos len with h0 | h0
 ·subst h0
  exact ⟨some a,0,m,[],rfl,⟨rfl,Nat.zero_le _,fun h=>absurd h (by omega)⟩⟩
 obtain ⟨cs0,hc0,_⟩:=hx 0 (by omega);obtain ⟨_,hl0,hce⟩:=World.cells?_some hc0;have h00:=hce 0 hs0;rw [au (show 0 < cs0.length by omega)] at h00;have e0:(a.add (0 * s)).add 0=a:=by simp [Addr.add]
 rw [e0] at h00;obtain ⟨g,o,rfl,hg⟩:=lq h00
 obtain ⟨f,hf⟩:=Go.Deep.choose_lt (n:=len) (p:=fun i a=>P0 W g (o+i * s) a) (fun i hi=>by
  obtain ⟨cs,h1,h2⟩:=hx i (by omega);obtain ⟨_,h3,h4⟩:=World.cells?_some h1;refine one n cs _ g (o+i * s) h3 (fun j hj=>?_) h2 (hz.elem ht (List.mem_map.2 ⟨i,List.mem_range.2 hi,rfl⟩))
  rw [← h4 j hj,xN,xN])
 refine ⟨_,len,m,(List.range len).map f,rfl,⟨by simp,hl,fun _=>⟨g,o,rfl,hg,fun i a ha=>?_⟩⟩⟩;rw [List.getElem?_map] at ha;rcases Nat.lt_or_ge i len with hi | hi
 ·rw [List.getElem?_range hi] at ha
  injection ha with ha;subst ha;exact hf i hi
 rw [List.getElem?_eq_none (by simpa using hi)] at ha;cases ha
instance:Inhabited ar:=⟨⟨[],⟨false,[],[]⟩,⟨false,[],[]⟩⟩⟩
instance:Inhabited ai:=⟨⟨[],[]⟩⟩
instance:Inhabited aM:=⟨⟨[],0,0,0,0,0,0⟩⟩
instance:Inhabited aV:=⟨⟨[],0⟩⟩
theorem uB (fuel:Nat) (cs:List Value) (y:DataW H × List MemPlace) (g o:Nat) (hl:cs.length=7) (hc:∀ i,i < 7→W.cell? ⟨g,o+i,none⟩=cs[i]?) (ht:DataW.trod enc Tryz.prog W 0 (fun _=>true) true fuel 67 cs=some y) (hz:Szd 67 y.1):∃ a,cW reachBytes W g o a:=by
 match cs,hl with
 | [v0,v1,v2,v3,v4,v5,v6],_ =>
  obtain ⟨xs,n,_,hx,_,hxl,hf⟩:=DataW.trod_struct Tryz.underlying67 ht;rw [hx] at hz;have f0:DataW.trod enc Tryz.prog W 0 (fun _=>true) true n 9 (List.take (Tryz.prog.cellsOf 9) [v0,v1,v2,v3,v4,v5,v6])=xs[0]?:=hf 0 _ rfl;have f1:DataW.trod enc Tryz.prog W 0 (fun _=>true) true n 65 (List.take (Tryz.prog.cellsOf 65) [v1,v2,v3,v4,v5,v6])=xs[1]?:=hf 1 _ rfl;have f2:DataW.trod enc Tryz.prog W 0 (fun _=>true) true n 65 (List.take (Tryz.prog.cellsOf 65) [v4,v5,v6])=xs[2]?:=hf 2 _ rfl;rw [ef] at f0;rw [rS] at f1 f2;have hx0:xs.length=3:=hxl;rw [au (show 0 < xs.length by omega)] at f0;have z0:=hz.field Tryz.underlying67 (i:=0) rfl (au (show 0 < xs.length by omega));rw [au (show 1 < xs.length by omega)] at f1;have z1:=hz.field Tryz.underlying67 (i:=1) rfl (au (show 1 < xs.length by omega));rw [au (show 2 < xs.length by omega)] at f2;have z2:=hz.field Tryz.underlying67 (i:=2) rfl (au (show 2 < xs.length by omega));obtain ⟨nm,rfl,hn⟩:=fo f0 z0;obtain ⟨b,A,n1,c,D,m,e,r,rfl,rfl,rfl,h1⟩:=n0 f1 z1;obtain ⟨b',A',n1',c',D',m',e',r',rfl,rfl,rfl,h2⟩:=n0 f2 z2;have k0:=hc 0 (by omega);have k1:=hc 1 (by omega);have k2:=hc 2 (by omega);have k3:=hc 3 (by omega);have k4:=hc 4 (by omega);have k5:=hc 5 (by omega);have k6:=hc 6 (by omega);exact ⟨⟨nm,r,r'⟩,k0,⟨b,A,n1,c,D,m,e,k1,k2,k3,h1⟩,⟨b',A',n1',c',D',m',e',k4,k5,k6,h2⟩,hn⟩
theorem uC (fuel:Nat) (cs:List Value) (y:DataW H × List MemPlace) (g o:Nat) (hl:cs.length=2) (hc:∀ i,i < 2→W.cell? ⟨g,o+i,none⟩=cs[i]?) (ht:DataW.trod enc Tryz.prog W 0 (fun _=>true) true fuel 62 cs=some y) (hz:Szd 62 y.1):∃ a,dw reachBytes W g o a:=by
 match cs,hl with
 | [v0,v1],_ =>
  obtain ⟨xs,n,_,hx,_,hxl,hf⟩:=DataW.trod_struct Tryz.underlying62 ht;rw [hx] at hz;have f0:DataW.trod enc Tryz.prog W 0 (fun _=>true) true n 9 (List.take (Tryz.prog.cellsOf 9) [v0,v1])=xs[0]?:=hf 0 _ rfl;have f1:DataW.trod enc Tryz.prog W 0 (fun _=>true) true n 60 (List.take (Tryz.prog.cellsOf 60) [v1])=xs[1]?:=hf 1 _ rfl;have c1:Tryz.prog.cellsOf 60=1:=by kernel_rfl
  rw [ef] at f0;rw [c1] at f1;have hx0:xs.length=2:=hxl;rw [au (show 0 < xs.length by omega)] at f0;have z0:=hz.field Tryz.underlying62 (i:=0) rfl (au (show 0 < xs.length by omega));rw [au (show 1 < xs.length by omega)] at f1;have z1:=hz.field Tryz.underlying62 (i:=1) rfl (au (show 1 < xs.length by omega));obtain ⟨nm,rfl,hn⟩:=fo f0 z0;obtain ⟨A,n1,c,l,rfl,h1⟩:=fq (cW reachBytes) 7 Tryz.underlying60 (by kernel_rfl) (by decide) uB f1 z1;have k0:=hc 0 (by omega);have k1:=hc 1 (by omega);exact ⟨⟨nm,l⟩,A,n1,c,k0,k1,h1,hn⟩
theorem dE {v:Value}{fuel:Nat}{x:DataW H × List MemPlace}(ht:DataW.trod enc Tryz.prog W 0 (fun _=>true) true fuel 3 [v]=some x):∃ i:Int,v=.int .i64 i:=by
 obtain ⟨i,hi,_⟩:=DataW.trod_int Tryz.underlying3 ht;injection hi with hi _;exact ⟨i,hi⟩
theorem rT (fuel:Nat) (cs:List Value) (y:DataW H × List MemPlace) (g o:Nat) (hl:cs.length=7) (hc:∀ i,i < 7→W.cell? ⟨g,o+i,none⟩=cs[i]?) (ht:DataW.trod enc Tryz.prog W 0 (fun _=>true) true fuel 79 cs=some y) (hz:Szd 79 y.1):∃ a,gN W g o a:=by
 match cs,hl with
 | [v0,v1,v2,v3,v4,v5,v6],_ =>
  obtain ⟨xs,n,_,hx,_,hxl,hf⟩:=DataW.trod_struct Tryz.underlying79 ht;rw [hx] at hz;have f0:DataW.trod enc Tryz.prog W 0 (fun _=>true) true n 9 (List.take (Tryz.prog.cellsOf 9) [v0,v1,v2,v3,v4,v5,v6])=xs[0]?:=hf 0 _ rfl;have f1:DataW.trod enc Tryz.prog W 0 (fun _=>true) true n 3 (List.take (Tryz.prog.cellsOf 3) [v1,v2,v3,v4,v5,v6])=xs[1]?:=hf 1 _ rfl;have f2:DataW.trod enc Tryz.prog W 0 (fun _=>true) true n 3 (List.take (Tryz.prog.cellsOf 3) [v2,v3,v4,v5,v6])=xs[2]?:=hf 2 _ rfl;have f3:DataW.trod enc Tryz.prog W 0 (fun _=>true) true n 3 (List.take (Tryz.prog.cellsOf 3) [v3,v4,v5,v6])=xs[3]?:=hf 3 _ rfl;have f4:DataW.trod enc Tryz.prog W 0 (fun _=>true) true n 3 (List.take (Tryz.prog.cellsOf 3) [v4,v5,v6])=xs[4]?:=hf 4 _ rfl;have f5:DataW.trod enc Tryz.prog W 0 (fun _=>true) true n 3 (List.take (Tryz.prog.cellsOf 3) [v5,v6])=xs[5]?:=hf 5 _ rfl;have f6:DataW.trod enc Tryz.prog W 0 (fun _=>true) true n 3 (List.take (Tryz.prog.cellsOf 3) [v6])=xs[6]?:=hf 6 _ rfl;rw [ef] at f0;rw [lr] at f1 f2 f3 f4 f5 f6;have hx0:xs.length=7:=hxl;rw [au (show 0 < xs.length by omega)] at f0;have z0:=hz.field Tryz.underlying79 (i:=0) rfl (au (show 0 < xs.length by omega));rw [au (show 1 < xs.length by omega)] at f1;have z1:=hz.field Tryz.underlying79 (i:=1) rfl (au (show 1 < xs.length by omega));rw [au (show 2 < xs.length by omega)] at f2;have z2:=hz.field Tryz.underlying79 (i:=2) rfl (au (show 2 < xs.length by omega));rw [au (show 3 < xs.length by omega)] at f3;have z3:=hz.field Tryz.underlying79 (i:=3) rfl (au (show 3 < xs.length by omega));rw [au (show 4 < xs.length by omega)] at f4;have z4:=hz.field Tryz.underlying79 (i:=4) rfl (au (show 4 < xs.length by omega));rw [au (show 5 < xs.length by omega)] at f5;have z5:=hz.field Tryz.underlying79 (i:=5) rfl (au (show 5 < xs.length by omega));rw [au (show 6 < xs.length by omega)] at f6;have z6:=hz.field Tryz.underlying79 (i:=6) rfl (au (show 6 < xs.length by omega));obtain ⟨nm,rfl,hn⟩:=fo f0 z0;obtain ⟨i1,rfl⟩:=dE f1;obtain ⟨i2,rfl⟩:=dE f2;obtain ⟨i3,rfl⟩:=dE f3;obtain ⟨i4,rfl⟩:=dE f4;obtain ⟨i5,rfl⟩:=dE f5;obtain ⟨i6,rfl⟩:=dE f6;have k0:=hc 0 (by omega);have k1:=hc 1 (by omega);have k2:=hc 2 (by omega);have k3:=hc 3 (by omega);have k4:=hc 4 (by omega);have k5:=hc 5 (by omega);have k6:=hc 6 (by omega);exact ⟨⟨nm,i1,i2,i3,i4,i5,i6⟩,k0,k1,k2,k3,k4,k5,k6,hn⟩
theorem pq (fuel:Nat) (cs:List Value) (y:DataW H × List MemPlace) (g o:Nat) (hl:cs.length=2) (hc:∀ i,i < 2→W.cell? ⟨g,o+i,none⟩=cs[i]?) (ht:DataW.trod enc Tryz.prog W 0 (fun _=>true) true fuel 81 cs=some y) (hz:Szd 81 y.1):∃ a,gP W g o a:=by
 match cs,hl with
 | [v0,v1],_ =>
  obtain ⟨xs,n,_,hx,_,hxl,hf⟩:=DataW.trod_struct Tryz.underlying81 ht;rw [hx] at hz;have f0:DataW.trod enc Tryz.prog W 0 (fun _=>true) true n 9 (List.take (Tryz.prog.cellsOf 9) [v0,v1])=xs[0]?:=hf 0 _ rfl;have f1:DataW.trod enc Tryz.prog W 0 (fun _=>true) true n 3 (List.take (Tryz.prog.cellsOf 3) [v1])=xs[1]?:=hf 1 _ rfl;rw [ef] at f0;rw [lr] at f1;have hx0:xs.length=2:=hxl;rw [au (show 0 < xs.length by omega)] at f0;have z0:=hz.field Tryz.underlying81 (i:=0) rfl (au (show 0 < xs.length by omega));rw [au (show 1 < xs.length by omega)] at f1;have z1:=hz.field Tryz.underlying81 (i:=1) rfl (au (show 1 < xs.length by omega));obtain ⟨nm,rfl,hn⟩:=fo f0 z0;obtain ⟨i1,rfl⟩:=dE f1;have k0:=hc 0 (by omega);have k1:=hc 1 (by omega);exact ⟨⟨nm,i1⟩,k0,k1,hn⟩
theorem rU {v0 v1 v2 v3:Value}{fuel:Nat}{x:DataW H × List MemPlace}(ht:DataW.trod enc Tryz.prog W 0 (fun _=>true) true fuel 36 [v0,v1,v2,v3]=some x) (hz:Szd 36 x.1) :
 ∃ A n c B p d C q e L,v0=af L.name∧v1=.slice A n c∧v2=.slice B p d∧v3=.slice C q e∧LkS reachBytes W A n c B p d C q e L:=by
 obtain ⟨xs,n,_,hx,_,hxl,hf⟩:=DataW.trod_struct Tryz.underlying36 ht;rw [hx] at hz;have f0:DataW.trod enc Tryz.prog W 0 (fun _=>true) true n 9 (List.take (Tryz.prog.cellsOf 9) [v0,v1,v2,v3])=xs[0]?:=hf 0 _ rfl;have f1:DataW.trod enc Tryz.prog W 0 (fun _=>true) true n 32 (List.take (Tryz.prog.cellsOf 32) [v1,v2,v3])=xs[1]?:=hf 1 _ rfl;have f2:DataW.trod enc Tryz.prog W 0 (fun _=>true) true n 33 (List.take (Tryz.prog.cellsOf 33) [v2,v3])=xs[2]?:=hf 2 _ rfl;have f3:DataW.trod enc Tryz.prog W 0 (fun _=>true) true n 34 (List.take (Tryz.prog.cellsOf 34) [v3])=xs[3]?:=hf 3 _ rfl;have c1:Tryz.prog.cellsOf 32=1:=by kernel_rfl
 have c2:Tryz.prog.cellsOf 33=1:=by kernel_rfl
 have c3:Tryz.prog.cellsOf 34=1:=by kernel_rfl
 rw [ef] at f0;rw [c1] at f1;rw [c2] at f2;rw [c3] at f3;have hx0:xs.length=4:=hxl;rw [au (show 0 < xs.length by omega)] at f0;have z0:=hz.field Tryz.underlying36 (i:=0) rfl (au (show 0 < xs.length by omega));rw [au (show 1 < xs.length by omega)] at f1;have z1:=hz.field Tryz.underlying36 (i:=1) rfl (au (show 1 < xs.length by omega));rw [au (show 2 < xs.length by omega)] at f2;have z2:=hz.field Tryz.underlying36 (i:=2) rfl (au (show 2 < xs.length by omega));rw [au (show 3 < xs.length by omega)] at f3;have z3:=hz.field Tryz.underlying36 (i:=3) rfl (au (show 3 < xs.length by omega));obtain ⟨nm,rfl,hn⟩:=fo f0 z0;obtain ⟨A,n1,c,l1,rfl,h1⟩:=fq (dw reachBytes) 2 Tryz.underlying32 (by kernel_rfl) (by decide) uC f1 z1;obtain ⟨B,p,d,l2,rfl,h2⟩:=fq gN 7 Tryz.underlying33 (by kernel_rfl) (by decide) rT f2 z2;obtain ⟨C,q,e,l3,rfl,h3⟩:=fq gP 2 Tryz.underlying34 (by kernel_rfl) (by decide) pq f3 z3;exact ⟨A,n1,c,B,p,d,C,q,e,⟨nm,l1,l2,l3⟩,rfl,rfl,rfl,rfl,hn,h1,h2,h3⟩
variable {base:Nat}
end
theorem vZ : Tryz.prog.globalNamed "math/bits.deBruijn64tab" = some 7 := by kernel_rfl
theorem xO:(Tryz.prog.globals[7]?).map (·.type)=some 265:=by kernel_rfl
theorem rV:Tryz.prog.cellsOf 265=64:=by kernel_rfl
theorem uD:Tryz.prog.cellsOf 5=1:=by kernel_rfl
theorem uE {H:Type}:(Rows.laid_math_bits_deBruijn64tab:DataW H)=Lib.tabData .u8 (Lib.deBruijn64tab.map fun z:Nat=>(z:Int)):=by kernel_rfl
theorem oc {rest : List (String × DataW Unit)} {W : World} (h : laidMet Tryz.prog (("math/bits.deBruijn32tab", Rows.laid_math_bits_deBruijn32tab) :: ("math/bits.deBruijn64tab", Rows.laid_math_bits_deBruijn64tab) :: rest) W) : T64 W := by
 obtain ⟨ps,⟨_,_,_,_,_,_,_,_,_,_,⟨g,t,cs,f,p,q,hg,ht,hv,hd,_,_⟩,_⟩,_,_⟩:=h;obtain rfl:=Option.some.inj (vZ.symm.trans hg);obtain rfl:=Option.some.inj (xO.symm.trans ht);rw [uE] at hd
 have h9 : Lib.TabIs Tryz.prog W "math/bits.deBruijn64tab" .u8 (Lib.deBruijn64tab.map fun z : Nat => (z : Int)) := by
  unfold Lib.TabIs;rw [hv,← Lib.cells_of_tab Tryz.underlying265 Tryz.underlying5 uD rV hd]
 exact h9.cell vZ 15 (by decide)
section
variable {H:Type}{enc:TypeId × Value→H}{W:World}
instance:Inhabited ag:=⟨⟨[],[],[],[]⟩⟩
theorem uF (fuel:Nat) (cs:List Value) (y:DataW H × List MemPlace) (g o:Nat) (hl:cs.length=4) (hc:∀ i,i < 4→W.cell? ⟨g,o+i,none⟩=cs[i]?) (ht:DataW.trod enc Tryz.prog W 0 (fun _=>true) true fuel 36 cs=some y) (hz:Szd 36 y.1):∃ a,dL reachBytes W g o a:=by
 match cs,hl with
 | [v0,v1,v2,v3],_ =>
  obtain ⟨A,n,c,B,p,d,C,q,e,L,rfl,rfl,rfl,rfl,hk⟩:=rU ht hz;have k0:=hc 0 (by omega);have k1:=hc 1 (by omega);have k2:=hc 2 (by omega);have k3:=hc 3 (by omega);exact ⟨L,A,n,c,B,p,d,C,q,e,k0,k1,k2,k3,hk⟩
variable {base:Nat}
theorem pr {v:Value}{d:DataW H}{p:List MemPlace}(hok:Value.okWide Tryz.prog W .any base 22 v) (h:DataW.Trod enc Tryz.prog W 0 (fun _=>true) true 22 v d p) (hz:Szd 22 d) :
 ∃ A n c Ls,v=.slice A n c∧SlS (dL reachBytes) 4 W A n c Ls:=by
 have hok2:=hok;unfold Value.okWide at hok2;rw [Tryz.underlying22] at hok2;obtain ⟨fuel,h⟩:=h
 have hcells:v.cells.toList=[v]:=by
  unfold Cell.okWide at hok2;rw [Tryz.underlying22] at hok2;cases v <;> first | rfl | (unfold Cell.ok at hok2;rw [Tryz.underlying22] at hok2;exact hok2.elim)
 rw [hcells] at h;obtain ⟨A,n,c,l,hv,h1⟩:=fq (dL reachBytes) 4 Tryz.underlying22 (by kernel_rfl) (by decide) uF h hz;exact ⟨A,n,c,l,hv,h1⟩
end
end Go.Proofs.YtfilnhompchciaaGreatDoor
