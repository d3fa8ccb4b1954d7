/- Part LM6: lemmas and walks that the claim rests on. No claim is made here. -/
import Derived.Deep.RegionHeld3
import Derived.Deep.DrawnRows
import Derived.Laws.StructEq
import Derived.BigQuiet
import Derived.Deep.DeepCutAuto
import Derived.Test.YtfilnhompchciaaGreatDoorLM5
set_option linter.unusedVariables false
set_option maxHeartbeats 8000000
set_option maxRecDepth 100000
/- A region that draws its order, makes variables of any type and stores to them: what lies below B stays. -/
namespace Go.Proofs.YtfilnhompchciaaGreatDoor
open Go Go.RowKit Bn
attribute [local go_sem ↓] Go.wp_at_zero Go.wp_at_succ
structure zT where
  a:Nat
  s:Nat
  T:TypeId
  Z:Array Value
  PS:Array Value→World→Prop
structure yd where
  g:Nat
  s:Nat
  o:Nat
  T:TypeId
  Z:Array Value
  PS:Array Value→World→Prop
def BC (ops:Array Oper) (fr:(Nat→Value)→Act) (R:Nat→Value→World→Prop) (es:List zT) (ow:List yd) (B:Nat) (W:World) (L:Array Bool) (a:Act) (w:World):Prop :=
  ∃ x,a=fr x∧(Below B W w∧Below B W w)∧(∀ i,L.getD i false=true→R i (x i) w) ∧
  (∀ i o,ops[i]?=some o→L.getD i false=true→∀ e∈o.after,Region.binds .any e=true→L.getD e.on false=true) ∧
  (∀ f∈es,L.getD f.a false=true→∃ g c,x f.a=.pointer (some ⟨g,0,none⟩)∧W.heap.size≤g∧Blk w g f.T c∧(L.getD f.s false=false→c=f.Z)∧(L.getD f.s false=true→f.PS c w)) ∧
  (∀ f∈es,∀ f'∈es,f.a≠f'.a→L.getD f.a false=true→L.getD f'.a false=true→x f.a≠x f'.a) ∧
  (∀ f∈ow,∃ c,Blk w f.g f.T c∧(L.getD f.s false=false→c=f.Z)∧(L.getD f.s false=true→f.PS c w))

section
variable (P:Program) (ops:Array Oper) (Q:Exit→Act→World→Prop) (fr:(Nat→Value)→Act) (R:Nat→Value→World→Prop) (es:List zT) (ow:List yd) (B:Nat) (W:World)
def wm (i:Nat) (o:Oper):Prop:=(∀ f∈es,i≠f.a∧i≠f.s)∧(∀ f∈ow,i≠f.s) ∧
  ∀ x w,Below B W w→(∀ f∈ow,(∀ o',ops[f.s]?=some o'→∃ e∈o'.after,Region.binds .any e=true∧e.on=i)→Blk w f.g f.T f.Z)→(∀ e∈o.after,Region.binds .any e=true→R e.on (x e.on) w)→∀ K':Act→World→Prop,Shut (∀ v w',R i v w'→Below w.heap.size w w'→K' ((fr x).put o.dst v) w') →
    if Region.wanted o (yielded ops (fr x).tmps)=true then Oper.wp P o (fr x) w K' Q else K' ((fr x).put o.dst undef) w
def rh (i:Nat) (o:Oper):Prop:=∃ f∈es,i=f.a∧(∀ f'∈es,i≠f'.s)∧(∀ f'∈ow,i≠f'.s)∧(∀ f'∈es,f'.a=i→f'=f)∧(∀ v w,R i v w) ∧
  ∀ x w,∀ K':Act→World→Prop,Shut (K' ((fr x).put o.dst (.pointer (some ⟨w.heap.size,0,none⟩))) (w.alloc (.cells f.Z f.T))) →
    if Region.wanted o (yielded ops (fr x).tmps)=true then Oper.wp P o (fr x) w K' Q else K' ((fr x).put o.dst undef) w
def rj (i:Nat) (o:Oper):Prop:=∃ f∈es,i=f.s∧(∀ f'∈es,i≠f'.a)∧(∀ f'∈ow,i≠f'.s)∧(∀ f'∈es,f'.s=i→f'=f)∧(∀ f'∈es,f'.a=f.a→f'=f)∧True∧(∀ v w,R i v w)∧(∃ e∈o.after,Region.binds .any e=true∧e.on=f.a) ∧
  ∀ x w g,x f.a=.pointer (some ⟨g,0,none⟩)→Blk w g f.T f.Z→(∀ e∈o.after,Region.binds .any e=true→R e.on (x e.on) w) →
    ∃ us,(∀ w',Below B w w'→f.PS (tc f.Z 0 us) w')∧∀ K':Act→World→Prop,Shut (∀ v,K' ((fr x).put o.dst v) (cq w g 0 us)) →
      if Region.wanted o (yielded ops (fr x).tmps)=true then Oper.wp P o (fr x) w K' Q else K' ((fr x).put o.dst undef) w
def ws (i:Nat) (o:Oper):Prop:=∃ f∈ow,i=f.s∧(∀ f'∈es,i≠f'.a∧i≠f'.s)∧(∀ f'∈ow,f'.s=i→f'=f)∧True∧(∀ v w,R i v w) ∧
  ∀ x w,Blk w f.g f.T f.Z→(∀ e∈o.after,Region.binds .any e=true→R e.on (x e.on) w) →
    ∃ us,(∀ w',Below B w w'→f.PS (tc f.Z f.o us) w')∧∀ K':Act→World→Prop,Shut (∀ v,K' ((fr x).put o.dst v) (cq w f.g f.o us)) →
      if Region.wanted o (yielded ops (fr x).tmps)=true then Oper.wp P o (fr x) w K' Q else K' ((fr x).put o.dst undef) w
end
section
variable {P:Program}{ops:Array Oper}{Q:Exit→Act→World→Prop}{fr:(Nat→Value)→Act}{R:Nat→Value→World→Prop}{es:List zT}{ow:List yd}{B:Nat}
theorem mG {id:Nat}{w:World}{x0:Nat→Value}(hm:P.follows .mixedOrders=true)
 (hput:∀ i o,ops[i]?=some o→∀ x v,(fr x).put o.dst v=fr (upd x i v))
 (hac:∀ i o,ops[i]?=some o→∀ e∈o.after,Region.binds .any e=true→e.on < i)
 (hR:∀ i v w w',R i v w→Below B w w'→R i v w')
 (hPS:∀ f∈es,∀ c w w',f.PS c w→Below B w w'→f.PS c w')
 (hPO:∀ f∈ow,∀ c w w',f.PS c w→Below B w w'→f.PS c w')
 (hfs:∀ f∈es,f.a < ops.size∧f.s < ops.size)
 (hB:B≤w.heap.size)
 (hO:∀ f∈ow,Blk w f.g f.T f.Z∧B≤f.g)
 (hOd:∀ f∈ow,∀ f'∈ow,f.g=f'.g→f=f')
 (hstep:∀ i o,ops[i]?=some o→wm P ops Q fr R es ow B w i o∨rh P ops Q fr R es ow i o∨rj P ops Q fr R es ow B i o∨ws P ops Q fr R es ow B i o)
 (hend:∀ x w',Below B w w'→Below B w w'→w.heap.size≤w'.heap.size→(∀ f∈ow,∃ c,Blk w' f.g f.T c∧(ops.size≤f.s→c=f.Z)∧(f.s < ops.size→f.PS c w'))→(∀ i,i < ops.size→R i (x i) w')→(∀ f∈es,∃ g c,x f.a=.pointer (some ⟨g,0,none⟩)∧w.heap.size≤g∧Blk w' g f.T c∧f.PS c w')→(∀ f∈es,∀ f'∈es,f.a≠f'.a→x f.a≠x f'.a)→Q .normal (fr x) w') :
 (Code.region id ops true).wp P Q (fr x0) w:=by
 refine wp_region_any hm (im (fun L a w'=>w.heap.size≤w'.heap.size∧BC ops fr R es ow B w L a w') ?_ ?_ _ _ _ _ (by simp) ?_ ?_)
 ·rintro L a w1 i hs hi ⟨hsz,x,rfl,⟨hkW,hb⟩,hr,hcl,hf,hd,how⟩
  obtain ⟨hun,o,ho,hall⟩:=mem_ready.1 hi
  have hlt:i < L.size:=by
   rcases Nat.lt_or_ge i L.size with h | h
   ·exact h
   rw [Array.getD_eq_getD_getElem?,Array.getElem?_eq_none h] at hun;cases hun
  have hunf:L.getD i false=false:=by
   rw [Array.getD_eq_getD_getElem?,Array.getElem?_eq_getElem hlt] at hun ⊢;exact hun
  have hdep:∀ e∈o.after,Region.binds .any e=true→R e.on (x e.on) w1:=fun e he hbd=>hr _ (hall e he hbd)
  have hcl':∀ i' o',ops[i']?=some o'→(L.setIfInBounds i true).getD i' false=true→∀ e∈o'.after,Region.binds .any e=true→(L.setIfInBounds i true).getD e.on false=true:=by
   intro i' o' ho' hl e he hbd;rw [ai hlt] at hl ⊢;by_cases h:i'=i
   ·subst h;rw [ho] at ho';injection ho' with ho';subst ho'
    rw [hall e he hbd];simp
   have:L.getD i' false=true:=by simpa [h] using hl
   rw [hcl i' o' ho' this e he hbd];simp
  refine wpOp_step ho fun K' hK=>?_
  have hsno:∀ f∈ow,(∀ o',ops[f.s]?=some o'→∃ e∈o'.after,Region.binds .any e=true∧e.on=i)→Blk w1 f.g f.T f.Z:=by
   intro f hfo hdd;obtain ⟨c,c1,c2,_⟩:=how f hfo
   have:L.getD f.s false=false:=by
    cases h:L.getD f.s false
    ·rfl
    exfalso
    have hlt2:f.s < ops.size:=by
     rcases Nat.lt_or_ge f.s L.size with h2 | h2
     ·omega
     rw [Array.getD_eq_getD_getElem?,Array.getElem?_eq_none h2] at h;cases h
    obtain ⟨e,he,hbd,hea⟩:=hdd _ (Array.getElem?_eq_getElem hlt2);have:=hcl f.s _ (Array.getElem?_eq_getElem hlt2) h e he hbd;rw [hea,hunf] at this;cases this
   rw [← c2 this];exact c1
  have howk:∀ w',Below B w1 w'→(∀ g t c,Blk w1 g t c→(∃ f∈ow,f.g=g)→Blk w' g t c)→(∀ f∈ow,i≠f.s)→∀ f∈ow,∃ c,Blk w' f.g f.T c∧((L.setIfInBounds i true).getD f.s false=false→c=f.Z)∧((L.setIfInBounds i true).getD f.s false=true→f.PS c w'):=by
   intro w' hkp hbl hne f hfo;obtain ⟨c,c1,c2,c3⟩:=how f hfo;have n2:=hne f hfo;refine ⟨c,hbl _ _ _ c1 ⟨f,hfo,rfl⟩,fun h=>c2 ?_,fun h=>hPO f hfo _ _ _ (c3 ?_) hkp⟩
   ·rw [ai hlt] at h;simpa [Ne.symm n2] using h
   rw [ai hlt] at h;simpa [Ne.symm n2] using h
  rcases hstep i o ho with ⟨hno,hnow,hv⟩ | ⟨f,hf1,rfl,hnos,hnow,huniq,hRi,hv⟩ | ⟨f,hf1,rfl,hnoa,hnow,huniq,huniqa,hT,hRi,⟨e,he,hbd,hea⟩,hv⟩ | ⟨f,hf1,rfl,hnoe,huniq,hT,hRi,hv⟩
  ·refine hv x w1 hkW hsno hdep K' (fun v w' hRv hbw=>hK _ _ ?_)
   have hkp:Below B w1 w':=(hbw.mono (Nat.le_trans hB hsz));refine ⟨Nat.le_trans hsz hbw.size,upd x i v,hput i o ho x v,⟨hkW.trans hkp,hb.trans (hbw.mono (Nat.le_trans hB hsz))⟩,fun j hj=>?_,hcl',fun f hfe hfa=>?_,fun f hfe f' hfe' hne h1 h2=>?_,howk w' hkp (fun g t c h _=>h.below hbw h.lt) hnow⟩
   ·by_cases h:j=i
    ·subst h;rw [di];exact hRv
    rw [aH _ _ h];rw [ai hlt] at hj;exact hR _ _ _ _ (hr j (by simpa [h] using hj)) hkp
   ·rw [ai hlt] at hfa
    have n1:=(hno f hfe).1;have n2:=(hno f hfe).2;rw [aH _ _ (Ne.symm n1)];obtain ⟨g,c,e1,e2,e3,e4,e5⟩:=hf f hfe (by simpa [Ne.symm n1] using hfa);refine ⟨g,c,e1,e2,e3.below hbw e3.lt,fun h=>e4 ?_,fun h=>hPS f hfe _ _ _ (e5 ?_) hkp⟩
    ·rw [ai hlt] at h;simpa [Ne.symm n2] using h
    rw [ai hlt] at h;simpa [Ne.symm n2] using h
   rw [ai hlt] at h1 h2;have n1:=(hno f hfe).1;have n2:=(hno f' hfe').1;rw [aH _ _ (Ne.symm n1),aH _ _ (Ne.symm n2)];exact hd f hfe f' hfe' hne (by simpa [Ne.symm n1] using h1) (by simpa [Ne.symm n2] using h2)
  ·refine hv x w1 K' (hK _ _ ?_)
   have hkp:Below B w1 (w1.alloc (.cells f.Z f.T)):=((Below.refl B w1).alloc (Nat.le_trans hB hsz) _)
   have hsl:L.getD f.s false=false:=by
    cases h:L.getD f.s false
    ·rfl
    exfalso;obtain ⟨o',ho'⟩:∃ o',ops[f.s]?=some o':=⟨_,Array.getElem?_eq_getElem (hfs f hf1).2⟩;rcases hstep f.s o' ho' with ⟨hno,_⟩ | ⟨f2,hf2,e2,hnos2,_⟩ | ⟨f2,hf2,e2,_,_,hu2,_,_,_,⟨e,he,hbd,hea⟩,_⟩ | ⟨f2,hf2,e2,hno2,_⟩
    ·exact (hno f hf1).2 rfl
    ·exact hnos2 f hf1 rfl
    ·have:=hu2 f hf1 rfl
     subst this;have:=hcl f.s o' ho' h e he hbd;rw [hea] at this;rw [this] at hunf;cases hunf
    exact (hno2 f hf1).2 rfl
   refine ⟨by simp;omega,upd x f.a _,hput f.a o ho x _,⟨hkW.alloc (Nat.le_trans hB hsz) _,hb.alloc (Nat.le_trans hB hsz) _⟩,fun j hj=>?_,hcl',fun f' hfe hfa=>?_,fun f1 hfe f2 hfe' hne h1 h2=>?_,howk _ hkp (fun g t c h _=>h.alloc _) hnow⟩
   ·by_cases h:j=f.a
    ·subst h;exact hRi _ _
    rw [aH _ _ h];rw [ai hlt] at hj;exact hR _ _ _ _ (hr j (by simpa [h] using hj)) hkp
   ·by_cases h:f'.a=f.a
    ·have:=huniq f' hfe h
     subst this;rw [di];refine ⟨_,_,rfl,hsz,Blk.new _ _ _,fun _=>rfl,fun h'=>?_⟩;rw [ai hlt,hsl] at h';have:f'.s=f'.a:=by simpa using h'
     exact absurd this.symm (hnos f' hfe)
    rw [aH _ _ h];rw [ai hlt] at hfa;have n2:=hnos f' hfe;obtain ⟨g,c,e1,e2,e3,e4,e5⟩:=hf f' hfe (by simpa [h] using hfa);refine ⟨g,c,e1,e2,e3.alloc _,fun h=>e4 ?_,fun h=>hPS f' hfe _ _ _ (e5 ?_) hkp⟩
    ·rw [ai hlt] at h;simpa [Ne.symm n2] using h
    rw [ai hlt] at h;simpa [Ne.symm n2] using h
   rw [ai hlt] at h1 h2
   have fresh:∀ f3∈es,f3.a≠f.a→L.getD f3.a false=true→x f3.a≠.pointer (some ⟨w1.heap.size,0,none⟩):=by
    intro f3 h3 hne3 hl3 heq;obtain ⟨g,c,e1,e2,e3,_⟩:=hf f3 h3 hl3;rw [e1] at heq;have hg:=e3.lt;injection heq with heq;injection heq with heq;injection heq with heq;omega
   by_cases c1:f1.a=f.a
   ·have c2:f2.a≠f.a:=fun h=>hne (c1.trans h.symm)
    rw [c1,di,aH _ _ c2];exact (fresh f2 hfe' c2 (by simpa [c2] using h2)).symm
   rw [aH _ _ c1];by_cases c2:f2.a=f.a
   ·rw [c2,di];exact fresh f1 hfe c1 (by simpa [c1] using h1)
   rw [aH _ _ c2];exact hd f1 hfe f2 hfe' hne (by simpa [c1] using h1) (by simpa [c2] using h2)
  ·have hal:L.getD f.a false=true:=by rw [← hea];exact hall e he hbd
   obtain ⟨g,c,e1,e2,e3,e4,e5⟩:=hf f hf1 hal;have hc:=e4 hunf;subst hc;obtain ⟨us,hus,hv⟩:=hv x w1 g e1 e3 hdep;refine hv K' (fun v=>hK _ _ ?_);have hkp:Below B w1 (cq w1 g 0 us):=cP (Nat.le_trans hB e2) us 0 w1 (Below.refl _ _);have hnb:∀ f3∈es,f3.a≠f.s:=fun f3 h3 h=>hnoa f3 h3 h.symm
   refine ⟨Nat.le_trans hsz (Nat.le_of_eq (eL us 0 w1).symm),upd x f.s v,hput f.s o ho x v,⟨hkW.trans hkp,cP (Nat.le_trans hB e2) us 0 w1 hb⟩,fun j hj=>?_,hcl',fun f' hfe hfa=>?_,fun f1 hfe f2 hfe' hne h1 h2=>?_,howk _ hkp (fun g2 t c h hex=>cF (by obtain ⟨f2,h2,rfl⟩:=hex;have:=(hO f2 h2).1.lt;omega) us 0 w1 h) hnow⟩
   ·by_cases h:j=f.s
    ·subst h;exact hRi _ _
    rw [aH _ _ h];rw [ai hlt] at hj;exact hR _ _ _ _ (hr j (by simpa [h] using hj)) hkp
   ·rw [aH _ _ (hnb f' hfe)]
    rw [ai hlt] at hfa;by_cases h:f'.a=f.a
    ·have:=huniqa f' hfe h
     subst this;refine ⟨g,_,e1,e2,fl us 0 w1 _ e3,fun h'=>?_,fun _=>hus _ hkp⟩;rw [ai hlt] at h';simp at h'
    have n2:f'.s≠f.s:=fun h2=>h (by rw [huniq f' hfe h2])
    obtain ⟨g',c',d1,d2,d3,d4,d5⟩:=hf f' hfe (by simpa [hnb f' hfe] using hfa)
    have hgg:g'≠g:=by
     rintro rfl;exact hd f' hfe f hf1 h (by simpa [hnb f' hfe] using hfa) hal (d1.trans e1.symm)
    refine ⟨g',c',d1,d2,cF hgg us 0 w1 d3,fun h=>d4 ?_,fun h=>hPS f' hfe _ _ _ (d5 ?_) hkp⟩
    ·rw [ai hlt] at h;simpa [n2] using h
    rw [ai hlt] at h;simpa [n2] using h
   rw [ai hlt] at h1 h2;rw [aH _ _ (hnb f1 hfe),aH _ _ (hnb f2 hfe')];exact hd f1 hfe f2 hfe' hne (by simpa [hnb f1 hfe] using h1) (by simpa [hnb f2 hfe'] using h2)
  obtain ⟨c,c1,c2,_⟩:=how f hf1;have hc:=c2 hunf;subst hc;obtain ⟨us,hus,hv⟩:=hv x w1 c1 hdep;refine hv K' (fun v=>hK _ _ ?_);have hkp:Below B w1 (cq w1 f.g f.o us):=cP (hO f hf1).2 us f.o w1 (Below.refl _ _);have hna:∀ f3∈es,f3.a≠f.s:=fun f3 h3 h=>(hnoe f3 h3).1 h.symm
  have hns:∀ f3∈es,f3.s≠f.s:=fun f3 h3 h=>(hnoe f3 h3).2 h.symm
  have hgl:=(hO f hf1).1.lt;refine ⟨Nat.le_trans hsz (Nat.le_of_eq (eL us f.o w1).symm),upd x f.s v,hput f.s o ho x v,⟨hkW.trans hkp,cP (hO f hf1).2 us f.o w1 hb⟩,fun j hj=>?_,hcl',fun f' hfe hfa=>?_,fun f1 hfe f2 hfe' hne h1 h2=>?_,fun f' hfo=>?_⟩
  ·by_cases h:j=f.s
   ·subst h;exact hRi _ _
   rw [aH _ _ h];rw [ai hlt] at hj;exact hR _ _ _ _ (hr j (by simpa [h] using hj)) hkp
  ·rw [aH _ _ (hna f' hfe)]
   rw [ai hlt] at hfa;have n2:=hns f' hfe;obtain ⟨g',c',d1,d2,d3,d4,d5⟩:=hf f' hfe (by simpa [hna f' hfe] using hfa);refine ⟨g',c',d1,d2,cF (by omega) us f.o w1 d3,fun h=>d4 ?_,fun h=>hPS f' hfe _ _ _ (d5 ?_) hkp⟩
   ·rw [ai hlt] at h;simpa [n2] using h
   rw [ai hlt] at h;simpa [n2] using h
  ·rw [ai hlt] at h1 h2
   rw [aH _ _ (hna f1 hfe),aH _ _ (hna f2 hfe')];exact hd f1 hfe f2 hfe' hne (by simpa [hna f1 hfe] using h1) (by simpa [hna f2 hfe'] using h2)
  by_cases h:f'.s=f.s
  ·have:=huniq f' hfo h
   subst this;refine ⟨_,fl us f'.o w1 _ c1,fun h'=>?_,fun _=>hus _ hkp⟩;rw [ai hlt] at h';simp at h'
  obtain ⟨c',d3,d4,d5⟩:=how f' hfo;have hgg:f'.g≠f.g:=fun h2=>h (by rw [hOd f' hfo f hf1 h2])
  refine ⟨c',cF hgg us f.o w1 d3,fun h2=>d4 ?_,fun h2=>hPO f' hfo _ _ _ (d5 ?_) hkp⟩
  ·rw [ai hlt] at h2;simpa [h] using h2
  rw [ai hlt] at h2;simpa [h] using h2
 ·rintro L a w1 hs hr0 ⟨hsz,x,rfl,⟨hkW,hb⟩,hr,hcl,hf,hd,how⟩
  have hallL:∀ i,i < ops.size→L.getD i false=true:=by
   intro i
   induction i using Nat.strongRecOn with
   | ind i ih =>
    intro hi;cases h:L.getD i false
    ·exfalso
     have:i∈Region.ready .any ops L:=by
      refine mem_ready.2 ⟨?_,ops[i],Array.getElem?_eq_getElem hi,fun e he hbd=>?_⟩
      ·rw [Array.getD_eq_getD_getElem?,Array.getElem?_eq_getElem (by omega)] at h ⊢;exact h
      have h1:=hac i _ (Array.getElem?_eq_getElem hi) e he hbd;exact ih e.on h1 (by omega)
     rw [hr0] at this;cases this
    rfl
  refine hend x w1 hkW hb hsz (fun f hfo=>?_) (fun i hi=>hr i (hallL i hi)) (fun f hfe=>?_) (fun f hfe f' hfe' hne=>hd f hfe f' hfe' hne (hallL _ (hfs f hfe).1) (hallL _ (hfs f' hfe').1))
  ·obtain ⟨c,c1,c2,c3⟩:=how f hfo
   refine ⟨c,c1,fun h=>c2 ?_,fun h=>c3 (hallL _ h)⟩;rw [Array.getD_eq_getD_getElem?,Array.getElem?_eq_none (by omega)];rfl
  obtain ⟨g,c,e1,e2,e3,_,e5⟩:=hf f hfe (hallL _ (hfs f hfe).1);exact ⟨g,c,e1,e2,e3,e5 (hallL _ (hfs f hfe).2)⟩
 ·simp
 ·have hz:∀ j,(Array.replicate ops.size false).getD j false=false:=by
   intro j;rw [Array.getD_eq_getD_getElem?,Array.getElem?_replicate];split <;> rfl
  refine ⟨Qr,x0,rfl,⟨(Below.refl B w).drew,(Below.refl B w).drew⟩,fun i h=>?_,fun i o _ h=>?_,fun f _ h=>?_,fun f _ f' _ _ h=>?_,fun f hfo=>⟨_,(hO f hfo).1.drew,fun _=>rfl,fun h=>?_⟩⟩ <;> rw [hz] at h <;> cases h
end

theorem wt {ow:List yd}(h:ow.Pairwise (fun f f'=>f.g≠f'.g)):∀ f∈ow,∀ f'∈ow,f.g=f'.g→f=f':=by
 induction ow with
 | nil=>intro f hf;cases hf
 | cons a l ih =>
  obtain ⟨h1,h2⟩:=List.pairwise_cons.1 h;intro f hf f' hf' he;rcases List.mem_cons.1 hf with h3 | h3
  ·rcases List.mem_cons.1 hf' with h4 | h4
   ·rw [h3,h4]
   exact absurd (h3 ▸ he) (h1 _ h4)
  rcases List.mem_cons.1 hf' with h4 | h4
  ·exact absurd (h4 ▸ he).symm (h1 _ h3)
  exact ih h2 f h3 f' h4 he
def sy (B:Nat):List (Value→World→Prop)→Prop
  | []=>True
  | p :: l=>(∀ v w w',p v w→Below B w w'→p v w')∧sy B l
theorem sy.get {B:Nat}:∀ (l:List (Value→World→Prop)),sy B l→∀ i v w w',l.getD i (fun _ _=>True) v w→Below B w w'→l.getD i (fun _ _=>True) v w':=by
 intro l
 induction l with
 | nil=>intro _ i v w w' _ _;simp
 | cons p l ih =>
  intro h i v w w' hp hk
  cases i with
  | zero=>exact h.1 v w w' hp hk
  | succ i=>exact ih h.2 i v w w' hp hk
theorem bEq {B:Nat}(u:Value):∀ v w w',PEq u v w→Below B w w'→PEq u v w':=fun _ _ _ h _=>h
theorem ye {B:Nat}:∀ v w w',od v w→Below B w w'→od v w':=fun _ _ _ h _=>h
end Go.Proofs.YtfilnhompchciaaGreatDoor
namespace Bn
theorem zU {l l':List Nat}(hn:l.length=l'.length) (h:∀ i,i < l.length→wd l i=wd l' i):l=l':=by
 refine List.ext_getElem hn fun i h1 h2=>?_
 have:=h i h1;rw [lb h1,lb h2] at this;exact this
theorem AY {l l':List Nat}(hn:l.length=l'.length) (h:l≠l'):∃ i,i < l.length∧wd l i≠wd l' i:=by
 apply Classical.byContradiction;intro hc;apply h;refine zU hn fun i hi=>?_
 apply Classical.byContradiction;intro e;exact hc ⟨i,hi,e⟩
end Bn

/- Walks: fields that differ. -/
namespace Go.Proofs.YtfilnhompchciaaGreatDoor
open Go Go.RowKit Bn
attribute [local go_sem ↓] Go.wp_at_zero Go.wp_at_succ
theorem mf (w:World) (A n c l) (wa:Wd w A n c l) (A' n' c' l') (wb:Wd w A' n' c' l') (hne:l≠l') (hn:n≤1000000000) (hn':n'≤1000000000) :
 Calls Tryz.prog 122 #[.slice A n c,.slice A' n' c'] w (av w (.bool false)):=by
 by_cases hnn:n'=n
 ·subst hnn
  obtain ⟨j,hj,hjn⟩:=AY (by rw [← wa.2.1,← wb.2.1]) hne;rw [← wa.2.1] at hj;have HA:=Qh wa;have HB:=Qh wb;have HJ:=Qh hjn;clear wa wb hne hjn;go_in;go_wp2_with fail;go_loopw [5] (fun iv wr=>∃ (i q:Nat),i≤j∧iv=.int .i64 (i:Nat)∧wr=w.drewN q) (fun iv _=>n' - (intOf iv).toNat)
  case atStart=>exact ⟨0,0,Nat.zero_le _,rfl,rfl⟩
  case round =>
   obtain ⟨i,q,hi,rfl,rfl⟩:=hrel;have hlt:i < n':=by omega
   obtain ⟨g,o,rfl,hc1⟩:=HA.out.at_ (by omega);obtain ⟨g',o',rfl,hc2⟩:=HB.out.at_ (by omega);have h1:=hc1 i hlt;have h2:=hc2 i hlt;have hi0:(0:Int)≤(i:Int):=by omega
   have hi1:(i:Int) < (n':Int):=by omega
   have HIJ:=Qh (show i=j→wd l i≠wd l' i by rintro rfl;exact HJ.out);generalize wd l i=x at h1 HIJ;generalize wd l' i=y at h2 HIJ;clear hc1 hc2;by_cases hxy:x=y
   ·subst hxy
    have hij:i < j:=by
     rcases Nat.lt_or_ge i j with h | h
     ·exact h
     exact absurd rfl (HIJ.out (by omega))
    go_wp2_with fail;go_quiet (fail);go_wp2;go_roundw
    case rel=>exact ⟨i+1,_,by omega,by go_num,rfl⟩
    case measure=>simp [intOf];omega
   have hxy2:¬ (x:Int)=(y:Int):=by omega
   go_wp2_with fail;go_quiet (fail);go_wp2;go_ret;exact bj rfl (by repeat (first | exact Below.refl _ _ | refine af ?_ _))
 have e1:((n:Int) == (n':Int))=false:=by simp;omega
 have e2:¬ (n:Int)=(n':Int):=by omega
 clear wa wb;go_in;go_wp2;go_ret;exact bj rfl (aa w)
theorem tS (w:World) (b:Bool) (A:Option Addr) (n c:Nat) (D:Option Addr) (m e:Nat) (r:RD) (k:Nat) (h:QD w b A n c D m e r k) (b':Bool) (A':Option Addr) (n' c':Nat) (D':Option Addr) (m' e':Nat) (r':RD) (k':Nat) (h':QD w b' A' n' c' D' m' e' r' k') (hne:b≠b') (hk:k≤1000000) (hk':k'≤1000000) :
 Calls Tryz.prog 87 #[.agg #[.bool b,.slice A n c,.slice D m e],.agg #[.bool b',.slice A' n' c',.slice D' m' e']] w (av w (.bool false)):=by
 obtain ⟨e1,ha,hd,hk1,hk2⟩:=h;obtain ⟨e1',ha',hd',hk1',hk2'⟩:=h';have HE:(b == b')=false:=by simpa using hne
 have HE2:¬ b=b':=hne;clear ha hd ha' hd' e1 e1';go_in;go_wp2;go_ret;exact bj rfl (((aa w).alloc Qr _).alloc (by simp) _)
theorem tT (w:World) (b:Bool) (A:Option Addr) (n c:Nat) (D:Option Addr) (m e:Nat) (r:RD) (k:Nat) (h:QD w b A n c D m e r k) (b':Bool) (A':Option Addr) (n' c':Nat) (D':Option Addr) (m' e':Nat) (r':RD) (k':Nat) (h':QD w b' A' n' c' D' m' e' r' k') (hbb:b=b') (hne:r.num≠r'.num) (hk:k≤1000000) (hk':k'≤1000000) :
 Calls Tryz.prog 87 #[.agg #[.bool b,.slice A n c,.slice D m e],.agg #[.bool b',.slice A' n' c',.slice D' m' e']] w (av w (.bool false)):=by
 obtain ⟨e1,ha,hd,hk1,hk2⟩:=h;obtain ⟨e1',ha',hd',hk1',hk2'⟩:=h';subst hbb;have HE:(b == b)=true:=by simp
 have HA:=Qh (And.intro ha ha');have HD:=Qh (And.intro hd hd');have HN:=Qh hne;clear ha ha' hd hd' hne e1 e1';go_in;go_wp2_with fail;(with_reducible refine (mf _ A n c r.num ?_ A' n' c' r'.num ?_ ?_ ?_ ?_).mono ?_);(exact HA.out.1.keep (((Kp.refl _).alloc _).alloc _));(exact HA.out.2.keep (((Kp.refl _).alloc _).alloc _));(exact HN.out);(omega);(omega);rintro e w1 ⟨rfl,hb⟩;have q1:Below w.heap.size w w1:=(((Below.refl _ _).alloc Qr _).alloc (by simp) _).trans (hb.mono (by simp <;> omega));have x0:Blk w1 w.heap.size 65 #[.bool b,.slice A n c,.slice D m e]:=((ah w _ _ rfl).alloc _).below hb (by simp <;> omega);have x1:Blk w1 (w.heap.size+1) 65 #[.bool b,.slice A' n' c',.slice D' m' e']:=(ah _ _ _ (by simp)).below hb (by simp);have c02:w1.cell? ⟨w.heap.size,2,none⟩=some (.slice D m e):=x0.cell 2;have c12:w1.cell? ⟨w.heap.size+1,2,none⟩=some (.slice D' m' e'):=x1.cell 2;clear hb;go_wp2;go_ret;exact ⟨rfl,q1⟩
theorem tU (w:World) (b:Bool) (A:Option Addr) (n c:Nat) (D:Option Addr) (m e:Nat) (r:RD) (k:Nat) (h:QD w b A n c D m e r k) (b':Bool) (A':Option Addr) (n' c':Nat) (D':Option Addr) (m' e':Nat) (r':RD) (k':Nat) (h':QD w b' A' n' c' D' m' e' r' k') (hbb:b=b') (hnn:r.num=r'.num) (hne:r.den≠r'.den) (hk:k≤1000000) (hk':k'≤1000000) :
 Calls Tryz.prog 87 #[.agg #[.bool b,.slice A n c,.slice D m e],.agg #[.bool b',.slice A' n' c',.slice D' m' e']] w (av w (.bool false)):=by
 obtain ⟨e1,ha,hd,hk1,hk2⟩:=h;obtain ⟨e1',ha',hd',hk1',hk2'⟩:=h';rw [← hnn] at ha';subst hbb;have HE:(b == b)=true:=by simp
 have HA:=Qh (And.intro ha ha');have HD:=Qh (And.intro hd hd');have HN:=Qh hne;clear ha ha' hd hd' hne e1 e1';go_in;go_wp2_with fail;(with_reducible refine (og _ A n c r.num ?_ A' n' c' ?_ ?_).mono ?_);(exact HA.out.1.keep (((Kp.refl _).alloc _).alloc _));(exact HA.out.2.keep (((Kp.refl _).alloc _).alloc _));(omega);rintro e w1 ⟨rfl,hb⟩;have q1:Below w.heap.size w w1:=(((Below.refl _ _).alloc Qr _).alloc (by simp) _).trans (hb.mono (by simp <;> omega));have x0:Blk w1 w.heap.size 65 #[.bool b,.slice A n c,.slice D m e]:=((ah w _ _ rfl).alloc _).below hb (by simp <;> omega);have x1:Blk w1 (w.heap.size+1) 65 #[.bool b,.slice A' n' c',.slice D' m' e']:=(ah _ _ _ (by simp)).below hb (by simp);have c02:w1.cell? ⟨w.heap.size,2,none⟩=some (.slice D m e):=x0.cell 2;have c12:w1.cell? ⟨w.heap.size+1,2,none⟩=some (.slice D' m' e'):=x1.cell 2;clear hb;go_wp2_with fail;(with_reducible refine (mf _ D m e r.den ?_ D' m' e' r'.den ?_ ?_ ?_ ?_).mono ?_);(exact HD.out.1.belw q1);(exact HD.out.2.belw q1);(exact HN.out);(omega);(omega);rintro e w2 ⟨rfl,hb2⟩;go_wp2;go_ret;exact ⟨rfl,q1.trans (hb2.mono q1.size)⟩
theorem wu (w:World) (b:Bool) (A:Option Addr) (n c:Nat) (D:Option Addr) (m e:Nat) (b':Bool) (A':Option Addr) (n' c':Nat) (D':Option Addr) (m' e':Nat) (r:RD) (k k':Nat) (h:QD w b A n c D m e r k) (h':QD w b' A' n' c' D' m' e' r k') (hk:k≤1000000) :
 Calls Tryz.prog 87 #[.agg #[.bool b,.slice A n c,.slice D m e],.agg #[.bool b',.slice A' n' c',.slice D' m' e']] w (av w (.bool true)):=by
 obtain ⟨e1,ha,hd,hk1,hk2⟩:=h;obtain ⟨e1',ha',hd',_,_⟩:=h';subst e1 e1';have HE:(r.neg == r.neg)=true:=by simp
 have HA:=Qh (And.intro ha ha');have HD:=Qh (And.intro hd hd');clear ha ha' hd hd';go_in;go_wp2_with fail;(with_reducible refine (og _ A n c r.num ?_ A' n' c' ?_ ?_).mono ?_);(exact HA.out.1.keep (((Kp.refl _).alloc _).alloc _));(exact HA.out.2.keep (((Kp.refl _).alloc _).alloc _));(omega);rintro e w1 ⟨rfl,hb⟩;have q1:Below w.heap.size w w1:=(((Below.refl _ _).alloc Qr _).alloc (by simp) _).trans (hb.mono (by simp <;> omega));have x0:Blk w1 w.heap.size 65 #[.bool r.neg,.slice A n c,.slice D m e]:=((ah w _ _ rfl).alloc _).below hb (by simp <;> omega);have x1:Blk w1 (w.heap.size+1) 65 #[.bool r.neg,.slice A' n' c',.slice D' m' e']:=(ah _ _ _ (by simp)).below hb (by simp);have c02:w1.cell? ⟨w.heap.size,2,none⟩=some (.slice D m e):=x0.cell 2;have c12:w1.cell? ⟨w.heap.size+1,2,none⟩=some (.slice D' m' e'):=x1.cell 2;clear hb;go_wp2_with fail;(with_reducible refine (og _ D m e r.den ?_ D' m' e' ?_ ?_).mono ?_);(exact HD.out.1.belw q1);(exact HD.out.2.belw q1);(omega);rintro e w2 ⟨rfl,hb2⟩;go_wp2;go_ret;exact ⟨rfl,q1.trans (hb2.mono q1.size)⟩
theorem sA (w:World) (b:Bool) (A:Option Addr) (n c:Nat) (D:Option Addr) (m e:Nat) (b':Bool) (A':Option Addr) (n' c':Nat) (D':Option Addr) (m' e':Nat) (r r':RD) (k k':Nat) (h:QD w b A n c D m e r k) (h':QD w b' A' n' c' D' m' e' r' k') (hk:k≤1000000) (hk':k'≤1000000) (v:Bool) (hv:v=true ↔ r=r') :
 Calls Tryz.prog 87 #[.agg #[.bool b,.slice A n c,.slice D m e],.agg #[.bool b',.slice A' n' c',.slice D' m' e']] w (av w (.bool v)):=by
 by_cases e1:r=r'
 ·subst e1
  rw [hv.2 rfl];exact wu w b A n c D m e b' A' n' c' D' m' e' r k k' h h' hk
 have hvf:v=false:=by cases v;rfl;exact absurd (hv.1 rfl) e1
 subst hvf;by_cases eb:b=b'
 ·by_cases en:r.num=r'.num
  ·refine tU w b A n c D m e r k h b' A' n' c' D' m' e' r' k' h' eb en (fun ed=>e1 ?_) hk hk'
   have hn:r.neg=r'.neg:=by rw [h.1,h'.1,eb]
   obtain ⟨a1,a2,a3⟩:=r;obtain ⟨b1,b2,b3⟩:=r';simp only at hn en ed;rw [hn,en,ed]
  exact tT w b A n c D m e r k h b' A' n' c' D' m' e' r' k' h' eb en hk hk'
 exact tS w b A n c D m e r k h b' A' n' c' D' m' e' r' k' h' eb hk hk'
def wv (w:World) (g o:Nat) (s:Value) (b1:Bool) (A1:Option Addr) (n1 c1:Nat) (D1:Option Addr) (m1 e1:Nat) (b2:Bool) (A2:Option Addr) (n2 c2:Nat) (D2:Option Addr) (m2 e2:Nat):Prop :=
  w.cell? ⟨g,o,none⟩=some s∧w.cell? ⟨g,o+1,none⟩=some (.bool b1)∧w.cell? ⟨g,o+2,none⟩=some (.slice A1 n1 c1)∧w.cell? ⟨g,o+3,none⟩=some (.slice D1 m1 e1)∧w.cell? ⟨g,o+4,none⟩=some (.bool b2)∧w.cell? ⟨g,o+5,none⟩=some (.slice A2 n2 c2)∧w.cell? ⟨g,o+6,none⟩=some (.slice D2 m2 e2)
section
variable {w w':World}{g o:Nat}{s:Value}{b1 b2:Bool}{A1 D1 A2 D2:Option Addr}{n1 c1 m1 e1 n2 c2 m2 e2:Nat}
theorem ww (h0:w.cell? ⟨g,o,none⟩=some s) (h1:w.cell? ⟨g,o+1,none⟩=some (.bool b1)) (h2:w.cell? ⟨g,o+1+1,none⟩=some (.slice A1 n1 c1)) (h3:w.cell? ⟨g,o+1+2,none⟩=some (.slice D1 m1 e1)) (h4:w.cell? ⟨g,o+4,none⟩=some (.bool b2)) (h5:w.cell? ⟨g,o+4+1,none⟩=some (.slice A2 n2 c2)) (h6:w.cell? ⟨g,o+4+2,none⟩=some (.slice D2 m2 e2)):wv w g o s b1 A1 n1 c1 D1 m1 e1 b2 A2 n2 c2 D2 m2 e2:=⟨h0,h1,h2,h3,h4,h5,h6⟩
theorem kD (h:wv w g o s b1 A1 n1 c1 D1 m1 e1 b2 A2 n2 c2 D2 m2 e2) (hb:Below w.heap.size w w') :
 w'.cell? ⟨g,o,none⟩=some s∧w'.cell? ⟨g,o+1,none⟩=some (.bool b1)∧w'.cell? ⟨g,o+2,none⟩=some (.slice A1 n1 c1)∧w'.cell? ⟨g,o+3,none⟩=some (.slice D1 m1 e1)∧w'.cell? ⟨g,o+4,none⟩=some (.bool b2)∧w'.cell? ⟨g,o+5,none⟩=some (.slice A2 n2 c2)∧w'.cell? ⟨g,o+6,none⟩=some (.slice D2 m2 e2) :=
 ⟨aE h.1 hb,aE h.2.1 hb,aE h.2.2.1 hb,aE h.2.2.2.1 hb,aE h.2.2.2.2.1 hb,aE h.2.2.2.2.2.1 hb,aE h.2.2.2.2.2.2 hb⟩
end
theorem oJ (p:Prop):∃ v:Bool,v=true ↔ p:=by
 by_cases h:p
 ·exact ⟨true,by simp [h]⟩
 exact ⟨false,by simp [h]⟩
theorem yJ:Tryz.prog.eqGuardType Tryz.prog.depth 79=false:=by kernel_rfl
theorem yK:Tryz.prog.stoodInHeld 79=false:=by kernel_rfl
theorem yL:Tryz.prog.eqGuardType Tryz.prog.depth 81=false:=by kernel_rfl
theorem yM:Tryz.prog.stoodInHeld 81=false:=by kernel_rfl
theorem iM {α:Type}{l m:List α}{i:Nat}{a:α}(h:l.take i=m.take i) (h1:l[i]?=some a) (h2:m[i]?=some a):l.take (i+1)=m.take (i+1):=by rw [List.take_add_one,List.take_add_one,h,h1,h2]
theorem wy (w:World) (A:Option Addr) (n c:Nat) (a:al) (h:SlS (eN 1000000) 7 w A n c a.pts) (A':Option Addr) (n' c':Nat) (b:al) (h':SlS (eN 1000000) 7 w A' n' c' b.pts) (hn:n≤1000) (v:Bool) (hv:v=true ↔ a=b) :
 Calls Tryz.prog 47 #[.agg #[ae a.name,.slice A n c],.agg #[ae b.name,.slice A' n' c']] w (av w (.bool v)):=by
 have H:=Qh (And.intro h h');have HV:=Qh hv;clear h h' hv;by_cases en:a.name=b.name
 ·by_cases el:n=n'
  ·subst el
   have hs:(a.name == b.name)=true:=beq_iff_eq.2 en;have HN:=Qh en;have hnc:=H.out.1.2.1;have hnc':=H.out.2.2.1;have HLA:=Qh H.out.1.1;have HLB:=Qh H.out.2.1;clear en;go_in;go_wp2_with fail;go_loopw [5] (fun iv wr=>∃ i:Nat,iv=.int .i64 (i:Nat)∧i≤n∧Hid (a.pts.take i=b.pts.take i)∧Blk wr w.heap.size 62 #[ae a.name,.slice A n c]∧Blk wr (w.heap.size+1) 62 #[ae b.name,.slice A' n c']∧Below w.heap.size w wr) (fun iv _=>n - (intOf iv).toNat)
   case atStart=>exact ⟨0,rfl,Nat.zero_le _,Qh rfl,(ah w _ _ rfl).alloc _,ah _ _ _ (by simp),((aa w).alloc Qr _).alloc (by simp) _⟩
   case round =>
    obtain ⟨i,rfl,hi,HI,xa,xb,bwa⟩:=hrel;rename World=>wa;have hla:w.heap.size < wa.heap.size:=xa.lt;have hlb:w.heap.size+1 < wa.heap.size:=xb.lt;rcases Nat.lt_or_ge i n with hlt | hge
    ·have hi1:((i:Int) < (n:Int))=True:=by simp;omega
     obtain ⟨g,o,x,e1,hg,_,hxi,hX⟩:=H.out.1.at_ hlt;subst e1;obtain ⟨g9,o9,y,e1,hg9,_,hyi,hY⟩:=H.out.2.at_ hlt;subst e1;have ca1:=xa.cell 1;obtain ⟨d0,⟨b1,A1,n1,c1,D1,m1,e1,d1,d2,d3,hQ1⟩,⟨b2,A2,n2,c2,D2,m2,e2,d4,d5,d6,hQ2⟩,_⟩:=hX;obtain ⟨f0,⟨b3,A3,n3,c3,D3,m3,e3,f1,f2,f3,hQ3⟩,⟨b4,A4,n4,c4,D4,m4,e4,f4,f5,f6,hQ4⟩,_⟩:=hY;have HM1:=Qh (ww d0 d1 d2 d3 d4 d5 d6);have HM2:=Qh (ww f0 f1 f2 f3 f4 f5 f6);have HQ:=Qh (And.intro hQ1 (And.intro hQ2 (And.intro hQ3 hQ4)));have HXI:=Qh (And.intro hxi hyi);clear d0 d1 d2 d3 d4 d5 d6 f0 f1 f2 f3 f4 f5 f6 hQ1 hQ2 hQ3 hQ4 hxi hyi;go_wp2_with fail;clear ca1;have hi2:((i:Int) < (n:Int)):=by omega
     refine mG (B:=w.heap.size) (fr:=fun xf=>⟨List.toArray (.agg #[ae a.name,.slice (some ⟨g,o,none⟩) n c] :: .agg #[ae b.name,.slice (some ⟨g9,o9,none⟩) n c'] :: .pointer (some ⟨w.heap.size,0,none⟩) :: .pointer (some ⟨w.heap.size+1,0,none⟩) :: u4 :: .int .i64 (i:Nat) :: xf 10 :: xf 11 :: .pointer (some ⟨w.heap.size,0,none⟩) :: ae a.name :: .pointer (some ⟨w.heap.size+1,0,none⟩) :: ae b.name :: .bool false :: .bool false :: .pointer (some ⟨w.heap.size,1,none⟩) :: .slice (some ⟨g,o,none⟩) n c :: .int .i64 (n:Nat) :: .pointer (some ⟨w.heap.size+1,1,none⟩) :: .slice (some ⟨g9,o9,none⟩) n c' :: .int .i64 (n:Nat) :: .bool false :: .bool false :: .int .i64 (i:Nat) :: .pointer (some ⟨w.heap.size,1,none⟩) :: .slice (some ⟨g,o,none⟩) n c :: .int .i64 (n:Nat) :: .bool true :: u27 :: u28 :: xf 0 :: xf 1 :: xf 2 :: xf 3 :: xf 4 :: xf 5 :: xf 6 :: xf 7 :: xf 8 :: xf 9 :: u39 :: u40 :: u41 :: u42 :: u43 :: u44 :: u45 :: u46 :: u47 :: u48 :: u49 :: u50 :: u51 :: u52 :: u53 :: u54 :: u55 :: u56 :: u57 :: u58 :: u59 :: []),[]⟩) (R:=fun ri=>List.getD ((PEq (.pointer (some ⟨w.heap.size,1,none⟩))) :: (PEq (.slice (some ⟨g,o,none⟩) n c)) :: (PEq (.int .i64 (i:Nat))) :: (PEq (.pointer (some ⟨g,o+i * 7,none⟩))) :: (PEq (.agg #[ae x.name,.bool b1,.slice A1 n1 c1,.slice D1 m1 e1,.bool b2,.slice A2 n2 c2,.slice D2 m2 e2])) :: (PEq (.pointer (some ⟨w.heap.size+1,1,none⟩))) :: (PEq (.slice (some ⟨g9,o9,none⟩) n c')) :: (PEq (.int .i64 (i:Nat))) :: (PEq (.pointer (some ⟨g9,o9+i * 7,none⟩))) :: (PEq (.agg #[ae y.name,.bool b3,.slice A3 n3 c3,.slice D3 m3 e3,.bool b4,.slice A4 n4 c4,.slice D4 m4 e4])) :: od :: od :: od :: od :: []) ri (fun _ _=>True)) (es:=[⟨10,12,67,#[.string ⟨#[]⟩,.bool false,.slice none 0 0,.slice none 0 0,.bool false,.slice none 0 0,.slice none 0 0],fun cz _=>cz=#[ae x.name,.bool b1,.slice A1 n1 c1,.slice D1 m1 e1,.bool b2,.slice A2 n2 c2,.slice D2 m2 e2]⟩,⟨11,13,67,#[.string ⟨#[]⟩,.bool false,.slice none 0 0,.slice none 0 0,.bool false,.slice none 0 0,.slice none 0 0],fun cz _=>cz=#[ae y.name,.bool b3,.slice A3 n3 c3,.slice D3 m3 e3,.bool b4,.slice A4 n4 c4,.slice D4 m4 e4]⟩]) (ow:=[⟨w.heap.size,14,0,62,#[ae a.name,.slice (some ⟨g,o,none⟩) n c],fun _ _=>True⟩,⟨w.heap.size+1,14,0,62,#[ae b.name,.slice (some ⟨g9,o9,none⟩) n c'],fun _ _=>True⟩]) (x0:=(upd (upd (upd (upd (upd (upd (upd (upd (upd (upd (upd (upd (fun _=>undef) 0 u29) 1 u30) 2 u31) 3 u32) 4 u33) 5 u34) 6 u35) 7 u36) 8 u37) 9 u38) 10 u6) 11 u7)) (by kernel_rfl)
      (aG ⟨fun _ _=>rfl,fun _ _=>rfl,fun _ _=>rfl,fun _ _=>rfl,fun _ _=>rfl,fun _ _=>rfl,fun _ _=>rfl,fun _ _=>rfl,fun _ _=>rfl,fun _ _=>rfl,fun _ _=>rfl,fun _ _=>rfl,fun _ _=>rfl,fun _ _=>rfl,trivial⟩) (aG (cd _ 0 (by kernel_rfl))) (sy.get _ ⟨bEq _,bEq _,bEq _,bEq _,bEq _,bEq _,bEq _,bEq _,bEq _,bEq _,ye,ye,ye,ye,trivial⟩)
      (fmc ⟨fun _ _ _ h _=>h,fmc ⟨fun _ _ _ h _=>h,fun _ h=>nomatch h⟩⟩) (fmc ⟨fun _ _ _ _ _=>True.intro,fmc ⟨fun _ _ _ _ _=>True.intro,fun _ h=>nomatch h⟩⟩) (fmc ⟨⟨by simp,by simp⟩,fmc ⟨⟨by simp,by simp⟩,fun _ h=>nomatch h⟩⟩) bwa.size
      (fmc ⟨⟨xa,Qr⟩,fmc ⟨⟨xb,by show w.heap.size≤w.heap.size+1;omega⟩,fun _ h=>nomatch h⟩⟩) (wt (by simp <;> omega))
      (aG ⟨?_,?_,?_,?_,?_,?_,?_,?_,?_,?_,?_,?_,?_,?_,trivial⟩) ?_
     ·exact .inl ⟨by simp,by simp,fun xf wq hk hbl hd K hK=>by
       (try dsimp only);go_simp;have hz:=hK.out (.pointer (some ⟨w.heap.size,1,none⟩)) _ rfl (aa _)
       exact hz⟩
     ·exact .inl ⟨by simp,by simp,fun xf wq hk hbl hd K hK=>by
       have dq0:xf 0=.pointer (some ⟨w.heap.size,1,none⟩):=hd ⟨0,.data⟩ (by simp) rfl;have y:Blk wq w.heap.size 62 #[ae a.name,.slice (some ⟨g,o,none⟩) n c]:=hbl _ (List.Mem.head _) (by simp [Region.binds]);have hc1:wq.cell? ⟨w.heap.size,1,none⟩=some (.slice (some ⟨g,o,none⟩) n c):=y.cell 1;(try dsimp only);(try simp only [dq0]);go_simp;have hz:=hK.out (.slice (some ⟨g,o,none⟩) n c) _ rfl (aa _);simp only [dq0] at hz
       exact hz⟩
     ·exact .inl ⟨by simp,by simp,fun xf wq hk hbl hd K hK=>by
       (try dsimp only);go_simp;have hz:=hK.out (.int .i64 (i:Nat)) _ rfl (aa _)
       exact hz⟩
     ·exact .inl ⟨by simp,by simp,fun xf wq hk hbl hd K hK=>by
       have dq1:xf 1=.slice (some ⟨g,o,none⟩) n c:=hd ⟨1,.data⟩ (by simp) rfl;have dq2:xf 2=.int .i64 (i:Nat):=hd ⟨2,.data⟩ (by simp) rfl;(try dsimp only);(try simp only [dq1,dq2]);go_simp;have hz:=hK.out (.pointer (some ⟨g,o+i * 7,none⟩)) _ rfl (aa _);simp only [dq1,dq2] at hz
       exact hz⟩
     ·exact .inl ⟨by simp,by simp,fun xf wq hk hbl hd K hK=>by
       have dq3:xf 3=.pointer (some ⟨g,o+i * 7,none⟩):=hd ⟨3,.data⟩ (by simp) rfl;obtain ⟨k0,k1,k2,k3,k4,k5,k6⟩:=kD HM1.out (bwa.trans hk);(try dsimp only);(try simp only [dq3]);go_simp;have hz:=hK.out (.agg #[ae x.name,.bool b1,.slice A1 n1 c1,.slice D1 m1 e1,.bool b2,.slice A2 n2 c2,.slice D2 m2 e2]) _ rfl (aa _);simp only [dq3] at hz
       exact hz⟩
     ·exact .inl ⟨by simp,by simp,fun xf wq hk hbl hd K hK=>by
       (try dsimp only);go_simp;have hz:=hK.out (.pointer (some ⟨w.heap.size+1,1,none⟩)) _ rfl (aa _)
       exact hz⟩
     ·exact .inl ⟨by simp,by simp,fun xf wq hk hbl hd K hK=>by
       have dq5:xf 5=.pointer (some ⟨w.heap.size+1,1,none⟩):=hd ⟨5,.data⟩ (by simp) rfl;have y:Blk wq (w.heap.size+1) 62 #[ae b.name,.slice (some ⟨g9,o9,none⟩) n c']:=hbl _ (List.Mem.tail _ (List.Mem.head _)) (by simp [Region.binds]);have hc1:wq.cell? ⟨w.heap.size+1,1,none⟩=some (.slice (some ⟨g9,o9,none⟩) n c'):=y.cell 1;(try dsimp only);(try simp only [dq5]);go_simp;have hz:=hK.out (.slice (some ⟨g9,o9,none⟩) n c') _ rfl (aa _);simp only [dq5] at hz
       exact hz⟩
     ·exact .inl ⟨by simp,by simp,fun xf wq hk hbl hd K hK=>by
       (try dsimp only);go_simp;have hz:=hK.out (.int .i64 (i:Nat)) _ rfl (aa _)
       exact hz⟩
     ·exact .inl ⟨by simp,by simp,fun xf wq hk hbl hd K hK=>by
       have dq6:xf 6=.slice (some ⟨g9,o9,none⟩) n c':=hd ⟨6,.data⟩ (by simp) rfl;have dq7:xf 7=.int .i64 (i:Nat):=hd ⟨7,.data⟩ (by simp) rfl;(try dsimp only);(try simp only [dq6,dq7]);go_simp;have hz:=hK.out (.pointer (some ⟨g9,o9+i * 7,none⟩)) _ rfl (aa _);simp only [dq6,dq7] at hz
       exact hz⟩
     ·exact .inl ⟨by simp,by simp,fun xf wq hk hbl hd K hK=>by
       have dq8:xf 8=.pointer (some ⟨g9,o9+i * 7,none⟩):=hd ⟨8,.data⟩ (by simp) rfl;obtain ⟨k0,k1,k2,k3,k4,k5,k6⟩:=kD HM2.out (bwa.trans hk);(try dsimp only);(try simp only [dq8]);go_simp;have hz:=hK.out (.agg #[ae y.name,.bool b3,.slice A3 n3 c3,.slice D3 m3 e3,.bool b4,.slice A4 n4 c4,.slice D4 m4 e4]) _ rfl (aa _);simp only [dq8] at hz
       exact hz⟩
     ·exact .inr (.inl ⟨⟨10,12,67,#[.string ⟨#[]⟩,.bool false,.slice none 0 0,.slice none 0 0,.bool false,.slice none 0 0,.slice none 0 0],fun cz _=>cz=#[ae x.name,.bool b1,.slice A1 n1 c1,.slice D1 m1 e1,.bool b2,.slice A2 n2 c2,.slice D2 m2 e2]⟩,by simp,rfl,by simp,by simp,by simp,fun _ _=>True.intro,fun xf wq K hK=>by
       (try dsimp only);go_simp
       exact hK.out⟩)
     ·exact .inr (.inl ⟨⟨11,13,67,#[.string ⟨#[]⟩,.bool false,.slice none 0 0,.slice none 0 0,.bool false,.slice none 0 0,.slice none 0 0],fun cz _=>cz=#[ae y.name,.bool b3,.slice A3 n3 c3,.slice D3 m3 e3,.bool b4,.slice A4 n4 c4,.slice D4 m4 e4]⟩,by simp,rfl,by simp,by simp,by simp,fun _ _=>True.intro,fun xf wq K hK=>by
       (try dsimp only);go_simp
       exact hK.out⟩)
     ·exact .inr (.inr (.inl ⟨⟨10,12,67,#[.string ⟨#[]⟩,.bool false,.slice none 0 0,.slice none 0 0,.bool false,.slice none 0 0,.slice none 0 0],fun cz _=>cz=#[ae x.name,.bool b1,.slice A1 n1 c1,.slice D1 m1 e1,.bool b2,.slice A2 n2 c2,.slice D2 m2 e2]⟩,by simp,rfl,by simp,by simp,by simp,by simp,True.intro,fun _ _=>True.intro,⟨⟨10,.data⟩,by simp,rfl,rfl⟩,fun xf wq g7 hx hblk hd=>by
       have dq4:xf 4=.agg #[ae x.name,.bool b1,.slice A1 n1 c1,.slice D1 m1 e1,.bool b2,.slice A2 n2 c2,.slice D2 m2 e2]:=hd ⟨4,.data⟩ (by simp) rfl;dsimp only at hx hblk;refine ⟨[ae x.name,.bool b1,.slice A1 n1 c1,.slice D1 m1 e1,.bool b2,.slice A2 n2 c2,.slice D2 m2 e2],fun w' hk=>rfl,fun K hK=>?_⟩;have hc0:wq.cell? ⟨g7,0,none⟩=some (.string ⟨#[]⟩):=hblk.cell 0;have hc1:wq.cell? ⟨g7,1,none⟩=some (.bool false):=hblk.cell 1;have hc2:wq.cell? ⟨g7,2,none⟩=some (.slice none 0 0):=hblk.cell 2;have hc3:wq.cell? ⟨g7,3,none⟩=some (.slice none 0 0):=hblk.cell 3;have hc4:wq.cell? ⟨g7,4,none⟩=some (.bool false):=hblk.cell 4;have hc5:wq.cell? ⟨g7,5,none⟩=some (.slice none 0 0):=hblk.cell 5;have hc6:wq.cell? ⟨g7,6,none⟩=some (.slice none 0 0):=hblk.cell 6;have hf0:wq.frozen? ⟨g7,0,none⟩=false:=hblk.frozen 0;have hf1:wq.frozen? ⟨g7,1,none⟩=false:=hblk.frozen 1;have hf2:wq.frozen? ⟨g7,2,none⟩=false:=hblk.frozen 2;have hf3:wq.frozen? ⟨g7,3,none⟩=false:=hblk.frozen 3;have hf4:wq.frozen? ⟨g7,4,none⟩=false:=hblk.frozen 4;have hf5:wq.frozen? ⟨g7,5,none⟩=false:=hblk.frozen 5;have hf6:wq.frozen? ⟨g7,6,none⟩=false:=hblk.frozen 6;(try dsimp only);simp only [hx,dq4];go_simp;have hz:=hK.out undef;simp only [hx,dq4] at hz
       exact hz⟩))
     ·exact .inr (.inr (.inl ⟨⟨11,13,67,#[.string ⟨#[]⟩,.bool false,.slice none 0 0,.slice none 0 0,.bool false,.slice none 0 0,.slice none 0 0],fun cz _=>cz=#[ae y.name,.bool b3,.slice A3 n3 c3,.slice D3 m3 e3,.bool b4,.slice A4 n4 c4,.slice D4 m4 e4]⟩,by simp,rfl,by simp,by simp,by simp,by simp,True.intro,fun _ _=>True.intro,⟨⟨11,.data⟩,by simp,rfl,rfl⟩,fun xf wq g7 hx hblk hd=>by
       have dq9:xf 9=.agg #[ae y.name,.bool b3,.slice A3 n3 c3,.slice D3 m3 e3,.bool b4,.slice A4 n4 c4,.slice D4 m4 e4]:=hd ⟨9,.data⟩ (by simp) rfl;dsimp only at hx hblk;refine ⟨[ae y.name,.bool b3,.slice A3 n3 c3,.slice D3 m3 e3,.bool b4,.slice A4 n4 c4,.slice D4 m4 e4],fun w' hk=>rfl,fun K hK=>?_⟩;have hc0:wq.cell? ⟨g7,0,none⟩=some (.string ⟨#[]⟩):=hblk.cell 0;have hc1:wq.cell? ⟨g7,1,none⟩=some (.bool false):=hblk.cell 1;have hc2:wq.cell? ⟨g7,2,none⟩=some (.slice none 0 0):=hblk.cell 2;have hc3:wq.cell? ⟨g7,3,none⟩=some (.slice none 0 0):=hblk.cell 3;have hc4:wq.cell? ⟨g7,4,none⟩=some (.bool false):=hblk.cell 4;have hc5:wq.cell? ⟨g7,5,none⟩=some (.slice none 0 0):=hblk.cell 5;have hc6:wq.cell? ⟨g7,6,none⟩=some (.slice none 0 0):=hblk.cell 6;have hf0:wq.frozen? ⟨g7,0,none⟩=false:=hblk.frozen 0;have hf1:wq.frozen? ⟨g7,1,none⟩=false:=hblk.frozen 1;have hf2:wq.frozen? ⟨g7,2,none⟩=false:=hblk.frozen 2;have hf3:wq.frozen? ⟨g7,3,none⟩=false:=hblk.frozen 3;have hf4:wq.frozen? ⟨g7,4,none⟩=false:=hblk.frozen 4;have hf5:wq.frozen? ⟨g7,5,none⟩=false:=hblk.frozen 5;have hf6:wq.frozen? ⟨g7,6,none⟩=false:=hblk.frozen 6;(try dsimp only);simp only [hx,dq9];go_simp;have hz:=hK.out undef;simp only [hx,dq9] at hz
       exact hz⟩))
     intro y7 w7 kq hbl lw how _ hfl hds;obtain ⟨_,za,ez,_⟩:=how _ (List.Mem.head _);obtain rfl:=ez (by simp);obtain ⟨_,zb,ez,_⟩:=how _ (List.Mem.tail _ (List.Mem.head _));obtain rfl:=ez (by simp);obtain ⟨g6,_,eg6,Gg6,xg6,rfl⟩:=hfl _ (List.Mem.head _);obtain ⟨g7,_,eg7,Gg7,xg7,rfl⟩:=hfl _ (List.Mem.tail _ (List.Mem.head _));dsimp only at za zb eg6 Gg6 xg6 eg7 Gg7 xg7;clear how hfl hds ez;have bw7:=bwa.trans kq;have lg6:g6 < w7.heap.size:=xg6.lt;have lg7:g7 < w7.heap.size:=xg7.lt;(try dsimp only);simp only [eg6,eg7];clear eg6 eg7;obtain ⟨k0,k1,k2,k3,k4,k5,k6⟩:=xg6.c7;obtain ⟨l0,l1,l2,l3,l4,l5,l6⟩:=xg7.c7;by_cases hnm:x.name=y.name
     ·have hnb:(x.name == y.name)=true:=beq_iff_eq.2 hnm
      have HNM:=Qh hnm;clear hnm;obtain ⟨v1,hv1⟩:=oJ (x.x=y.x);obtain ⟨v2,hv2⟩:=oJ (x.y=y.y);have HV1:=Qh hv1;have HV2:=Qh hv2;clear hv1 hv2;go_wp2_with fail;(with_reducible refine (sA w7 b1 A1 n1 c1 D1 m1 e1 b3 A3 n3 c3 D3 m3 e3 x.x y.x 1000000 1000000 (HQ.out.1.belw bw7) (HQ.out.2.2.1.belw bw7) (by decide) (by decide) v1 HV1.out).mono ?_);rintro e' w8 ⟨rfl,hb8⟩;have bw8:=bw7.trans (hb8.mono bw7.size);have za8:=za.below hb8 za.lt;have zb8:=zb.below hb8 zb.lt;have y6:=xg6.below hb8 xg6.lt;have y7':=xg7.below hb8 xg7.lt;clear k0 k1 k2 k3 k4 k5 k6 l0 l1 l2 l3 l4 l5 l6;cases v1
      ·have hvf:v=false:=by
        cases v
        ·rfl
        exfalso;have:=HV.out.1 rfl;subst this;have h9:=HXI.out.1.symm.trans HXI.out.2;injection h9 with h9;subst h9;exact absurd (HV1.out.2 rfl) (by decide)
       subst hvf;go_wp2;go_ret;exact ⟨rfl,bw8⟩
      have lg6:g6 < w8.heap.size:=y6.lt;have lg7:g7 < w8.heap.size:=y7'.lt;obtain ⟨k0,k1,k2,k3,k4,k5,k6⟩:=y6.c7;obtain ⟨l0,l1,l2,l3,l4,l5,l6⟩:=y7'.c7;go_wp2_with fail;(with_reducible refine (sA w8 b2 A2 n2 c2 D2 m2 e2 b4 A4 n4 c4 D4 m4 e4 x.y y.y 1000000 1000000 (HQ.out.2.1.belw bw8) (HQ.out.2.2.2.belw bw8) (by decide) (by decide) v2 HV2.out).mono ?_);rintro e' w9 ⟨rfl,hb9⟩;have bw9:=bw8.trans (hb9.mono bw8.size);have za9:=za8.below hb9 za8.lt;have zb9:=zb8.below hb9 zb8.lt;clear k0 k1 k2 k3 k4 k5 k6 l0 l1 l2 l3 l4 l5 l6;cases v2
      ·have hvf:v=false:=by
        cases v
        ·rfl
        exfalso;have:=HV.out.1 rfl;subst this;have h9:=HXI.out.1.symm.trans HXI.out.2;injection h9 with h9;subst h9;exact absurd (HV2.out.2 rfl) (by decide)
       subst hvf;go_wp2;go_ret;exact ⟨rfl,bw9⟩
      ·have hxy:x=y:=by
        have e1:=HNM.out;have e2:=HV1.out.1 (by simp);have e3:=HV2.out.1 (by simp);obtain ⟨x1,x2,x3⟩:=x;obtain ⟨y1,y2,y3⟩:=y;simp only at e1 e2 e3;rw [e1,e2,e3]
       have HI2:Hid (a.pts.take (i+1)=b.pts.take (i+1)):=Qh (iM HI.out HXI.out.1 (by rw [hxy];exact HXI.out.2));clear hxy;go_wp2_with fail;go_roundw
       case rel=>exact ⟨i+1,by go_num,by omega,HI2,za9,zb9,bw9⟩
       case measure=>simp [intOf];omega
     have hnb:(x.name == y.name)=false:=beq_eq_false_iff_ne.2 hnm
     have hvf:v=false:=by
      cases v
      ·rfl
      exfalso;have:=HV.out.1 rfl;subst this;have h9:=HXI.out.1.symm.trans HXI.out.2;injection h9 with h9;exact hnm (by rw [h9])
     subst hvf;clear hnm;go_wp2;go_ret;exact ⟨rfl,bw7⟩
    have hi1:((i:Int) < (n:Int))=False:=by simp;omega
    have e2:a.pts=b.pts:=by
     have:=HI.out;rwa [List.take_of_length_le (by rw [HLA.out];exact hge),List.take_of_length_le (by rw [HLB.out];exact hge)] at this
    have hvt:v=true:=HV.out.2 (by
     have e1:=HN.out;obtain ⟨a1,a2⟩:=a;obtain ⟨b1,b2⟩:=b;simp only at e1 e2
     rw [e1,e2])
    subst hvt;have ca1:=xa.cell 1;clear e2;go_wp2;go_ret;exact ⟨rfl,bwa⟩
  have el2:((n:Int) == (n':Int))=false:=by simp;omega
  have el3:¬ (n:Int)=(n':Int):=by omega
  have hvf:v=false:=by
   cases v
   ·rfl
   exfalso;have:=HV.out.1 rfl;subst this;exact el (H.out.1.1.symm.trans H.out.2.1)
  subst hvf;have hs:(a.name == b.name)=true:=beq_iff_eq.2 en;clear en;go_in;go_wp2;go_ret;exact ⟨rfl,((aa w).alloc Qr _).alloc (by simp) _⟩
 have hs:(a.name == b.name)=false:=beq_eq_false_iff_ne.2 en
 have hvf:v=false:=by
  cases v
  ·rfl
  exact absurd (by rw [HV.out.1 rfl]) en
 subst hvf;clear en;go_in;go_wp2;go_ret;exact ⟨rfl,((aa w).alloc Qr _).alloc (by simp) _⟩
theorem wz (w:World) (A:Option Addr) (n c:Nat) (B:Option Addr) (p d:Nat) (C:Option Addr) (q e:Nat) (L:ao) (h:LkS 1000000 w A n c B p d C q e L) (A':Option Addr) (n' c':Nat) (B':Option Addr) (p' d':Nat) (C':Option Addr) (q' e':Nat) (M:ao) (h':LkS 1000000 w A' n' c' B' p' d' C' q' e' M) (hps:∀ b∈L.bodies,b.pts.length≤1000) (hn:n≤1000) (hp:p≤1000) (hq:q≤1000) (v:Bool) (hv:v=true ↔ L=M) :
 Calls Tryz.prog 17 #[.agg #[ae L.name,.slice A n c,.slice B p d,.slice C q e],.agg #[ae M.name,.slice A' n' c',.slice B' p' d',.slice C' q' e']] w (av w (.bool v)):=by
 have H:=Qh h;have H':=Qh h';have HV:=Qh hv;have HPS:=Qh hps;have HLen:=Qh (And.intro (And.intro h.bodies.1 h'.bodies.1) (And.intro (And.intro h.joints.1 h'.joints.1) (And.intro h.drivers.1 h'.drivers.1)));have hnc:=h.bodies.2.1;have hnc':=h'.bodies.2.1;have hpd:=h.joints.2.1;have hpd':=h'.joints.2.1;have hqe:=h.drivers.2.1;have hqe':=h'.drivers.2.1;clear h h' hv hps
 have hno:∀ (P:Prop),P→(L=M→¬ P)→v=false:=by
  intro P hP hne;cases v
  ·rfl
  exact absurd hP (hne (HV.out.1 rfl))
 have HNO:=Qh hno;clear hno;have q00:Below w.heap.size w ((w.alloc (.cells #[ae L.name,.slice A n c,.slice B p d,.slice C q e] 36)).alloc (.cells #[ae M.name,.slice A' n' c',.slice B' p' d',.slice C' q' e'] 36)):=((aa w).alloc Qr _).alloc (by simp) _;by_cases en:L.name=M.name;rotate_left
 ·have hs:(L.name == M.name)=false:=beq_eq_false_iff_ne.2 en
  have hvf:=HNO.out _ en (fun h=>by rw [h];simp);subst hvf;clear en;go_in;go_wp2;go_ret;exact ⟨rfl,q00⟩
 have hs:(L.name == M.name)=true:=beq_iff_eq.2 en;have HN:=Qh en;clear en;by_cases e1:n=n';rotate_left
 ·have f1:((n:Int) == (n':Int))=false:=by simp;omega
  have f2:¬ (n:Int)=(n':Int):=by omega
  have hvf:=HNO.out _ e1 (fun h=>by rw [← HLen.out.1.1,← HLen.out.1.2,h];simp);subst hvf;clear e1;go_in;go_wp2;go_ret;exact ⟨rfl,q00⟩
 subst e1;by_cases e2:p=p';rotate_left
 ·have f1:((p:Int) == (p':Int))=false:=by simp;omega
  have f2:¬ (p:Int)=(p':Int):=by omega
  have hvf:=HNO.out _ e2 (fun h=>by rw [← HLen.out.2.1.1,← HLen.out.2.1.2,h];simp);subst hvf;clear e2;go_in;go_wp2;go_ret;exact ⟨rfl,q00⟩
 subst e2;by_cases e3:q=q';rotate_left
 ·have f1:((q:Int) == (q':Int))=false:=by simp;omega
  have f2:¬ (q:Int)=(q':Int):=by omega
  have hvf:=HNO.out _ e3 (fun h=>by rw [← HLen.out.2.2.1,← HLen.out.2.2.2,h];simp);subst hvf;clear e3;go_in;go_wp2;go_ret;exact ⟨rfl,q00⟩
 subst e3;go_in;go_wp2_with fail;go_loopw [5] (fun iv wr=>∃ i:Nat,iv=.int .i64 (i:Nat)∧i≤n∧Hid (L.bodies.take i=M.bodies.take i)∧Blk wr w.heap.size 36 #[ae L.name,.slice A n c,.slice B p d,.slice C q e]∧Blk wr (w.heap.size+1) 36 #[ae M.name,.slice A' n c',.slice B' p d',.slice C' q e']∧Below w.heap.size w wr) (fun iv _=>n - (intOf iv).toNat)
 case atStart=>exact ⟨0,rfl,Nat.zero_le _,Qh rfl,(ah w _ _ rfl).alloc _,ah _ _ _ (by simp),q00⟩
 case round =>
  clear q00;obtain ⟨i,rfl,hi,HI,xa,xb,bwa⟩:=hrel;rename World=>wa;have hla:w.heap.size < wa.heap.size:=xa.lt;have hlb:w.heap.size+1 < wa.heap.size:=xb.lt;rcases Nat.lt_or_ge i n with hlt | hge
  ·have hi1:((i:Int) < (n:Int))=True:=by simp;omega
   obtain ⟨g,o,x,e1,hg,_,hxi,hX⟩:=(H.out.bodies.bd bwa).at_ hlt;subst e1;obtain ⟨g9,o9,y,e1,hg9,_,hyi,hY⟩:=(H'.out.bodies.bd bwa).at_ hlt;subst e1;obtain ⟨A1,n1,c1,d0,d1,hM1,_⟩:=hX;obtain ⟨A2,n2,c2,f0,f1,hM2,_⟩:=hY;have hn1:n1≤1000:=by rw [← hM1.1];exact HPS.out x (List.mem_of_getElem? hxi)
   have HM:=Qh (And.intro hM1 hM2);have HXI:=Qh (And.intro hxi hyi);obtain ⟨v1,hv1⟩:=oJ (x=y);have HV1:=Qh hv1;have ca1:=xa.cell 1;have cb1:=xb.cell 1;have hi2:((i:Int) < (n:Int)):=by omega
   clear hM1 hM2 hxi hyi hv1;go_wp2_with fail
   go_region_held3 (fun w'=>Sees wa.heap.size wa w') (first | with_reducible exact Sees.of Qr (by assumption) | with_reducible exact Sees.of Qr (aa _).drew | exact Sees.of Qr (af (aa _) 1) | exact Sees.of Qr (af (by assumption) _))
    (first
     | (go_at_call 47;(with_reducible refine (wy _ A1 n1 c1 x ?_ A2 n2 c2 y ?_ hn1 v1 HV1.out).mono ?_);(exact HM.out.1.mk_ (by first | exact (aa wa).drew | exact af (aa wa) _));(exact HM.out.2.mk_ (by first | exact (aa wa).drew | exact af (aa wa) _));rintro e' w8 ⟨rfl,hb8⟩;have q8:Below wa.heap.size wa w8:=(by first | exact ak (aa wa).drew hb8 | exact ak (af (aa wa) _) hb8)))
   have bw8:=bwa.trans (q8.mono bwa.size);have xa8:=xa.below q8 xa.lt;have xb8:=xb.below q8 xb.lt;clear ca1 cb1 d0 d1 f0 f1;cases v1
   ·have hvf:=HNO.out (x≠y) (fun h=>absurd (HV1.out.2 h) (by decide)) (fun h=>by
     subst h;have h9:=HXI.out.1.symm.trans HXI.out.2;injection h9 with h9
     exact fun h=>h h9)
    subst hvf;go_wp2;go_ret;exact ⟨rfl,bw8⟩
   have hxy:x=y:=HV1.out.1 (by simp);have HI2:Hid (L.bodies.take (i+1)=M.bodies.take (i+1)):=Qh (iM HI.out HXI.out.1 (by rw [hxy];exact HXI.out.2));clear hxy;go_wp2_with fail;go_roundw
   case rel=>exact ⟨i+1,by go_num,by omega,HI2,xa8,xb8,bw8⟩
   case measure=>simp [intOf];omega
  have hi1:((i:Int) < (n:Int))=False:=by simp;omega
  have e2:L.bodies=M.bodies:=by
   have:=HI.out;rwa [List.take_of_length_le (by rw [HLen.out.1.1];exact hge),List.take_of_length_le (by rw [HLen.out.1.2];exact hge)] at this
  have HB:=Qh e2;have ca1:=xa.cell 1;have ca2:=xa.cell 2;clear e2;go_wp2_with fail;clear ca1 ca2;go_loopw [6] (fun iv wr=>∃ i2:Nat,iv=.int .i64 (i2:Nat)∧i2≤p∧Hid (L.joints.take i2=M.joints.take i2)∧Blk wr w.heap.size 36 #[ae L.name,.slice A n c,.slice B p d,.slice C q e]∧Blk wr (w.heap.size+1) 36 #[ae M.name,.slice A' n c',.slice B' p d',.slice C' q e']∧Below w.heap.size w wr) (fun iv _=>p - (intOf iv).toNat)
  case atStart=>exact ⟨0,rfl,Nat.zero_le _,Qh rfl,xa,xb,bwa⟩
  case round =>
   clear xa xb bwa;obtain ⟨i2,rfl,hii2,HI,xa,xb,bwa⟩:=hrel;rename World=>wi2;have hla:w.heap.size < wi2.heap.size:=xa.lt;have hlb:w.heap.size+1 < wi2.heap.size:=xb.lt;rcases Nat.lt_or_ge i2 p with hlt | hgei2
   ·have hi1:((i2:Int) < (p:Int))=True:=by simp;omega
    have hi3:((i2:Int) < (p:Int)):=by omega
    obtain ⟨g,o,x,e1,hg,_,hxi,hX⟩:=(H.out.joints.jt bwa).at_ hlt;subst e1;obtain ⟨g9,o9,y,e1,hg9,_,hyi,hY⟩:=(H'.out.joints.jt bwa).at_ hlt;subst e1;have HXI:=Qh (And.intro hxi hyi);obtain ⟨d0,d1,d2,d3,d4,d5,d6,_⟩:=hX;obtain ⟨f0,f1,f2,f3,f4,f5,f6,_⟩:=hY;have ca1:=xa.cell 2;have cb1:=xb.cell 2;have gt1:=yJ;have gt2:=yK;clear hxi hyi;by_cases k0:x.name=y.name;rotate_left
    ·have h0:(x.name == y.name)=false:=beq_eq_false_iff_ne.2 k0
     have t0:((⟨x.name.toArray⟩:ByteArray).toList == (⟨y.name.toArray⟩:ByteArray).toList)=false:=by rw [ByteArray.toList_eq,ByteArray.toList_eq];simpa using k0
     have hvf:=HNO.out _ k0 (fun h=>by
      subst h;have h9:=HXI.out.1.symm.trans HXI.out.2;injection h9 with h9
      rw [h9];simp)
     subst hvf;clear k0;go_wp2_with fail;go_quiet (fail);go_wp2;go_ret;exact ⟨rfl,by first | exact bwa | exact af bwa _⟩
    have h0:(x.name == y.name)=true:=beq_iff_eq.2 k0;have t0:((⟨x.name.toArray⟩:ByteArray).toList == (⟨y.name.toArray⟩:ByteArray).toList)=true:=by rw [ByteArray.toList_eq,ByteArray.toList_eq];simpa using k0
    have K0:=Qh k0;clear k0;by_cases k1:x.kind=y.kind;rotate_left
    ·have h1:(x.kind == y.kind)=false:=beq_eq_false_iff_ne.2 k1
     have hvf:=HNO.out _ k1 (fun h=>by
      subst h;have h9:=HXI.out.1.symm.trans HXI.out.2;injection h9 with h9
      rw [h9];simp)
     subst hvf;clear k1;go_wp2_with fail;go_quiet (fail);go_wp2;go_ret;exact ⟨rfl,by first | exact bwa | exact af bwa _⟩
    have h1:(x.kind == y.kind)=true:=beq_iff_eq.2 k1;have K1:=Qh k1;clear k1;by_cases k2:x.a=y.a;rotate_left
    ·have h2:(x.a == y.a)=false:=beq_eq_false_iff_ne.2 k2
     have hvf:=HNO.out _ k2 (fun h=>by
      subst h;have h9:=HXI.out.1.symm.trans HXI.out.2;injection h9 with h9
      rw [h9];simp)
     subst hvf;clear k2;go_wp2_with fail;go_quiet (fail);go_wp2;go_ret;exact ⟨rfl,by first | exact bwa | exact af bwa _⟩
    have h2:(x.a == y.a)=true:=beq_iff_eq.2 k2;have K2:=Qh k2;clear k2;by_cases k3:x.point=y.point;rotate_left
    ·have h3:(x.point == y.point)=false:=beq_eq_false_iff_ne.2 k3
     have hvf:=HNO.out _ k3 (fun h=>by
      subst h;have h9:=HXI.out.1.symm.trans HXI.out.2;injection h9 with h9
      rw [h9];simp)
     subst hvf;clear k3;go_wp2_with fail;go_quiet (fail);go_wp2;go_ret;exact ⟨rfl,by first | exact bwa | exact af bwa _⟩
    have h3:(x.point == y.point)=true:=beq_iff_eq.2 k3;have K3:=Qh k3;clear k3;by_cases k4:x.b=y.b;rotate_left
    ·have h4:(x.b == y.b)=false:=beq_eq_false_iff_ne.2 k4
     have hvf:=HNO.out _ k4 (fun h=>by
      subst h;have h9:=HXI.out.1.symm.trans HXI.out.2;injection h9 with h9
      rw [h9];simp)
     subst hvf;clear k4;go_wp2_with fail;go_quiet (fail);go_wp2;go_ret;exact ⟨rfl,by first | exact bwa | exact af bwa _⟩
    have h4:(x.b == y.b)=true:=beq_iff_eq.2 k4;have K4:=Qh k4;clear k4;by_cases k5:x.on=y.on;rotate_left
    ·have h5:(x.on == y.on)=false:=beq_eq_false_iff_ne.2 k5
     have hvf:=HNO.out _ k5 (fun h=>by
      subst h;have h9:=HXI.out.1.symm.trans HXI.out.2;injection h9 with h9
      rw [h9];simp)
     subst hvf;clear k5;go_wp2_with fail;go_quiet (fail);go_wp2;go_ret;exact ⟨rfl,by first | exact bwa | exact af bwa _⟩
    have h5:(x.on == y.on)=true:=beq_iff_eq.2 k5;have K5:=Qh k5;clear k5;by_cases k6:x.to_=y.to_;rotate_left
    ·have h6:(x.to_ == y.to_)=false:=beq_eq_false_iff_ne.2 k6
     have hvf:=HNO.out _ k6 (fun h=>by
      subst h;have h9:=HXI.out.1.symm.trans HXI.out.2;injection h9 with h9
      rw [h9];simp)
     subst hvf;clear k6;go_wp2_with fail;go_quiet (fail);go_wp2;go_ret;exact ⟨rfl,by first | exact bwa | exact af bwa _⟩
    have h6:(x.to_ == y.to_)=true:=beq_iff_eq.2 k6;have K6:=Qh k6;clear k6
    have hxy:x=y:=by
     have q0:=K0.out;have q1:=K1.out;have q2:=K2.out;have q3:=K3.out;have q4:=K4.out;have q5:=K5.out;have q6:=K6.out;obtain ⟨x0,x1,x2,x3,x4,x5,x6⟩:=x;obtain ⟨y0,y1,y2,y3,y4,y5,y6⟩:=y;simp only at q0 q1 q2 q3 q4 q5 q6;rw [q0,q1,q2,q3,q4,q5,q6]
    have HI2:Hid (L.joints.take (i2+1)=M.joints.take (i2+1)):=Qh (iM HI.out HXI.out.1 (by rw [hxy];exact HXI.out.2));clear hxy;go_wp2_with fail;go_quiet (fail);go_wp2_with fail;go_roundw
    case rel=>first | exact ⟨i2+1,by go_num,by omega,HI2,xa,xb,bwa⟩ | exact ⟨i2+1,by go_num,by omega,HI2,xa.drewN _,xb.drewN _,af bwa _⟩
    case measure=>simp [intOf];omega
   have hi1:((i2:Int) < (p:Int))=False:=by simp;omega
   have e2:L.joints=M.joints:=by
    have:=HI.out;rwa [List.take_of_length_le (by rw [HLen.out.2.1.1];exact hgei2),List.take_of_length_le (by rw [HLen.out.2.1.2];exact hgei2)] at this
   have Hjt:=Qh e2;have ca1:=xa.cell 2;clear e2;go_wp2_with fail;clear ca1;go_loopw [7] (fun iv wr=>∃ i3:Nat,iv=.int .i64 (i3:Nat)∧i3≤q∧Hid (L.drivers.take i3=M.drivers.take i3)∧Blk wr w.heap.size 36 #[ae L.name,.slice A n c,.slice B p d,.slice C q e]∧Blk wr (w.heap.size+1) 36 #[ae M.name,.slice A' n c',.slice B' p d',.slice C' q e']∧Below w.heap.size w wr) (fun iv _=>q - (intOf iv).toNat)
   case atStart=>exact ⟨0,rfl,Nat.zero_le _,Qh rfl,xa,xb,bwa⟩
   case round =>
    clear xa xb bwa;obtain ⟨i3,rfl,hii3,HI,xa,xb,bwa⟩:=hrel;rename World=>wi3;have hla:w.heap.size < wi3.heap.size:=xa.lt;have hlb:w.heap.size+1 < wi3.heap.size:=xb.lt;rcases Nat.lt_or_ge i3 q with hlt | hgei3
    ·have hi1:((i3:Int) < (q:Int))=True:=by simp;omega
     have hi3:((i3:Int) < (q:Int)):=by omega
     obtain ⟨g,o,x,e1,hg,_,hxi,hX⟩:=(H.out.drivers.dr bwa).at_ hlt;subst e1;obtain ⟨g9,o9,y,e1,hg9,_,hyi,hY⟩:=(H'.out.drivers.dr bwa).at_ hlt;subst e1;have HXI:=Qh (And.intro hxi hyi);obtain ⟨d0,d1,_⟩:=hX;obtain ⟨f0,f1,_⟩:=hY;have ca1:=xa.cell 3;have cb1:=xb.cell 3;have gt1:=yL;have gt2:=yM;clear hxi hyi;by_cases k0:x.name=y.name;rotate_left
     ·have h0:(x.name == y.name)=false:=beq_eq_false_iff_ne.2 k0
      have t0:((⟨x.name.toArray⟩:ByteArray).toList == (⟨y.name.toArray⟩:ByteArray).toList)=false:=by rw [ByteArray.toList_eq,ByteArray.toList_eq];simpa using k0
      have hvf:=HNO.out _ k0 (fun h=>by
       subst h;have h9:=HXI.out.1.symm.trans HXI.out.2;injection h9 with h9
       rw [h9];simp)
      subst hvf;clear k0;go_wp2_with fail;go_quiet (fail);go_wp2;go_ret;exact ⟨rfl,by first | exact bwa | exact af bwa _⟩
     have h0:(x.name == y.name)=true:=beq_iff_eq.2 k0;have t0:((⟨x.name.toArray⟩:ByteArray).toList == (⟨y.name.toArray⟩:ByteArray).toList)=true:=by rw [ByteArray.toList_eq,ByteArray.toList_eq];simpa using k0
     have K0:=Qh k0;clear k0;by_cases k1:x.body=y.body;rotate_left
     ·have h1:(x.body == y.body)=false:=beq_eq_false_iff_ne.2 k1
      have hvf:=HNO.out _ k1 (fun h=>by
       subst h;have h9:=HXI.out.1.symm.trans HXI.out.2;injection h9 with h9
       rw [h9];simp)
      subst hvf;clear k1;go_wp2_with fail;go_quiet (fail);go_wp2;go_ret;exact ⟨rfl,by first | exact bwa | exact af bwa _⟩
     have h1:(x.body == y.body)=true:=beq_iff_eq.2 k1;have K1:=Qh k1;clear k1
     have hxy:x=y:=by
      have q0:=K0.out;have q1:=K1.out;obtain ⟨x0,x1⟩:=x;obtain ⟨y0,y1⟩:=y;simp only at q0 q1;rw [q0,q1]
     have HI2:Hid (L.drivers.take (i3+1)=M.drivers.take (i3+1)):=Qh (iM HI.out HXI.out.1 (by rw [hxy];exact HXI.out.2));clear hxy;go_wp2_with fail;go_quiet (fail);go_wp2_with fail;go_roundw
     case rel=>first | exact ⟨i3+1,by go_num,by omega,HI2,xa,xb,bwa⟩ | exact ⟨i3+1,by go_num,by omega,HI2,xa.drewN _,xb.drewN _,af bwa _⟩
     case measure=>simp [intOf];omega
    have hi1:((i3:Int) < (q:Int))=False:=by simp;omega
    have e2:L.drivers=M.drivers:=by
     have:=HI.out;rwa [List.take_of_length_le (by rw [HLen.out.2.2.1];exact hgei3),List.take_of_length_le (by rw [HLen.out.2.2.2];exact hgei3)] at this
    have Hdr:=Qh e2;have ca1:=xa.cell 3;clear e2
    have hvt:v=true:=HV.out.2 (by
     have q0:=HN.out;have q1:=HB.out;have q2:=Hjt.out;have q3:=Hdr.out;obtain ⟨a1,a2,a3,a4⟩:=L;obtain ⟨b1,b2,b3,b4⟩:=M;simp only at q0 q1 q2 q3
     rw [q0,q1,q2,q3])
    subst hvt;go_wp2;go_ret;exact ⟨rfl,bwa⟩
def qf:List UInt8:=[108,105,110,107,97,103,101,32,109,59,32,98,111,100,121,32,102,114,97,109,101,32,123,32,79,32,48,32,48,59,32,67,32,52,32,48,59,32,125,32,98,111,100,121,32,99,114,97,110,107,32,123,32,79].append [32,48,32,48,59,32,65,32,49,32,49,47,50,59,32,125,32,112,105,110,32,106,32,99,114,97,110,107,46,79,32,102,114,97,109,101,46,79,59,32,100,114,105,118,101,114,32,100,32,99,114,97,110,107,59]
theorem rk:Bn.shape (dC qf)=some (mc exL):=by decide +kernel
theorem tV:rX exL.bodies≠true:=by decide +kernel
theorem rdw (q:Rat):RdW (rd q):=yQ q
theorem AZ:LkW exL:=by
 intro b hb m hm;have h:b=bdF∨b=bdC:=by simpa [exL] using hb
 have hm2:m=mkO∨m=mkC∨m=mkA:=by
  rcases h with rfl | rfl
  ·have:m=mkO∨m=mkC:=by simpa [bdF] using hm
   rcases this with h | h
   ·exact .inl h
   exact .inr (.inl h)
  have:m=mkO∨m=mkA:=by simpa [bdC] using hm
  rcases this with h | h
  ·exact .inl h
  exact .inr (.inr h)
 rcases hm2 with rfl | rfl | rfl <;> exact ⟨rdw _,rdw _⟩
theorem BD:ch qf 0 exL:=by
 have h:=rk
 cases ht:dC qf with
 | err n=>rw [ht] at h;cases h
 | ok l =>
  rw [ht] at h;injection h with h;obtain ⟨h1,h2⟩:=tR (l:=l) h (lP wl) AZ tV;exact .ok l (.ok (by decide) ht rfl) h1 (by rw [h2];exact wl) rfl h2.symm
theorem kr (w:World) (hmx:Mx w):Calls Tryz.prog 14 #[] w (av w (.bool true)):=by
 have HM:=Qh hmx;clear hmx;go_in;go_wp2_with fail
 have he:Calls Tryz.prog 35 #[] w (av w (ae qf)):=by
  go_in;go_wp2;go_ret;exact ⟨rfl,aa w⟩
 (with_reducible refine he.mono ?_);rintro e w1 ⟨rfl,hb1⟩;clear he;go_wp2_with fail;(with_reducible refine (l8 w1 qf 0 exL (HM.out.belw hb1) BD).mono ?_);rintro e w2 ⟨A,n,c,B,p,d,C,q,f,rfl,hL,hb2⟩;rw [dE];have hb:=hb1.trans (hb2.mono hb1.size);obtain rfl:2=n:=hL.bodies.1;obtain rfl:1=p:=hL.joints.1;obtain rfl:1=q:=hL.drivers.1;obtain ⟨g1,o1,j,e1,hg1,hc1,hj,hJ⟩:=hL.joints.at_ (i:=0) (by decide);obtain ⟨g2,o2,dr,e2,hg2,hc2,hd,hD⟩:=hL.drivers.at_ (i:=0) (by decide);subst e1 e2;injection hj with hj;injection hd with hd;subst hj hd;obtain ⟨d0,d1,d2,d3,d4,d5,d6,_⟩:=hJ;obtain ⟨f0,f1,_⟩:=hD;simp only [Nat.zero_mul,Nat.add_zero] at d0 d1 d2 d3 d4 d5 d6 f0 f1;have d0:w2.cell? ⟨g1,o1,none⟩=some (.string ⟨#[106]⟩):=d0;have f0:w2.cell? ⟨g2,o2,none⟩=some (.string ⟨#[100]⟩):=f0;have hne1:¬ g1=w2.heap.size:=by omega
 have hne2:¬ g2=w2.heap.size:=by omega
 have gt1:=yJ;have gt2:=yK;have gt3:=yL;have gt4:=yM;clear hL hb1 hb2;go_wp2;go_ret;exact ⟨rfl,hb.alloc hb.size _⟩
theorem ch.ok0 {s:List UInt8}{L:ao}(h:ch s 0 L):dh L=0:=by
 cases h with
 | split _ _ hx _=>exact absurd rfl hx
 | read _ _ _ hx _=>exact absurd rfl hx
 | check _ _ _ _ hx _=>exact absurd rfl hx
 | ok l hs hr hc hx hL=>rw [hL];exact hc
theorem ch.err {s:List UInt8}{x:Int}{L:ao}(h:ch s x L) (hx:x≠0):L=L0:=by
 cases h with
 | split _ _ _ h=>exact h
 | read _ _ _ _ h=>exact h
 | check _ _ _ _ _ h=>exact h
 | ok l hs hr hc h hL=>exact absurd h hx
theorem LkS.mono {k k':Nat}{w:World}{A B C:Option Addr}{n c p d q e:Nat}{L:ao}(h:LkS k w A n c B p d C q e L) (hk:k≤k'):LkS k' w A n c B p d C q e L:=by
 have hr:∀ g o r,dG w g o r k→dG w g o r k':=fun g o r ⟨b,A,n,c,D,m,e,h1,h2,h3,h4⟩=>⟨b,A,n,c,D,m,e,h1,h2,h3,h4.1,h4.2.1,h4.2.2.1,Nat.le_trans h4.2.2.2.1 hk,Nat.le_trans h4.2.2.2.2 hk⟩
 refine ⟨h.name,h.bodies.mono_ fun g o b _ hp=>?_,h.joints,h.drivers⟩;obtain ⟨A',n',c',c0,c1,hM,hn⟩:=hp;exact ⟨A',n',c',c0,c1,hM.mono_ fun g o m _ hm=>⟨hm.1,hr _ _ _ hm.2.1,hr _ _ _ hm.2.2.1,hm.2.2.2⟩,hn⟩
theorem ch.small {s:List UInt8}{x:Int}{L:ao}(h:ch s x L):(∀ b∈L.bodies,b.pts.length≤1000)∧L.bodies.length≤1000∧L.joints.length≤1000∧L.drivers.length≤1000:=by
 by_cases hx:x=0
 ·subst hx
  have hF:=(lP h.ok0).ok;exact ⟨fun b hb=>by have:=(hF.body b hb).2.1;omega,by have:=hF.nb;omega,by have:=hF.nj;omega,by have:=hF.nd;omega⟩
 have:=h.err hx;subst this;exact ⟨fun b hb=>absurd (show b∈([]:List al) from hb) List.not_mem_nil,by decide,by decide,by decide⟩
end Go.Proofs.YtfilnhompchciaaGreatDoor
namespace Go.Proofs.YtfilnhompchciaaGreatDoor
open Go Go.RowKit Bn Go.Lib
attribute [local go_sem ↓] Go.wp_at_zero Go.wp_at_succ
theorem gl {D r:List UInt8}(hD:D.all aK=true) (hr:∀ c t,r=c :: t→aK c=false):cg (D ++ r)=D.length:=by
 induction D with
 | nil =>
  cases r with
  | nil=>rfl
  | cons c t=>unfold cg;rw [List.nil_append,List.takeWhile_cons,hr c t rfl];rfl
 | cons x D ih =>
  rw [List.all_cons,Bool.and_eq_true] at hD;unfold cg at ih ⊢;rw [List.cons_append,List.takeWhile_cons,hD.1,if_pos rfl,List.length_cons,List.length_cons,ih hD.2]
end Go.Proofs.YtfilnhompchciaaGreatDoor
namespace Go.Proofs.YtfilnhompchciaaGreatDoor
open Go Go.RowKit Bn
attribute [local go_sem ↓] Go.wp_at_zero Go.wp_at_succ
theorem wA {s:List UInt8}{i:Nat}(h:i < s.length):aj (s.take (i+1))=aj (s.take i) * 10+iT (atB s i):=by
 have:s.take (i+1)=s.take i ++ [atB s i]:=by rw [List.take_add_one,List.getElem?_eq_getElem h,cw h];rfl
 rw [this,fo]
theorem wC (a d:Nat):(((a:Nat):Int):Rat) * ((10:Int):Rat)+(((d:Nat):Int):Rat)=(((a * 10+d:Nat):Int):Rat):=by
 rw [← Rat.intCast_mul,← Rat.intCast_add];congr 1
theorem A0 {s:List UInt8}{i:Nat}(h:s.all aK=true) (hl:i < s.length):aK (atB s i)=true:=by
 rw [cw hl];exact List.all_eq_true.1 h _ (List.getElem_mem _)
theorem kU (w:World) (s:List UInt8) (hD:s.all aK=true) (hl:s.length≤60):Calls Tryz.prog 200 #[ae s] w (ph w (((aj s:Nat):Int):Rat) 181):=by
 have hszs:=bX s;have HD:=Qh hD;clear hD;go_in;go_wp2_with fail;have p1:=(((Kp.refl w).alloc (.cells #[.bool false,.slice none 0 0,.slice none 0 0] 65)).alloc (.cells #[.bool false,.slice none 0 0,.slice none 0 0] 65));have bw1:=(((aa w).alloc (by first | omega | (simp <;> omega)) (.cells #[.bool false,.slice none 0 0,.slice none 0 0] 65)).alloc (by first | omega | (simp <;> omega)) (.cells #[.bool false,.slice none 0 0,.slice none 0 0] 65));have x1a:Blk ((w.alloc (.cells #[.bool false,.slice none 0 0,.slice none 0 0] 65)).alloc (.cells #[.bool false,.slice none 0 0,.slice none 0 0] 65)) w.heap.size 65 #[.bool false,.slice none 0 0,.slice none 0 0]:=((ah _ _ _ (by simp)).alloc (.cells #[.bool false,.slice none 0 0,.slice none 0 0] 65));have x1b:Blk ((w.alloc (.cells #[.bool false,.slice none 0 0,.slice none 0 0] 65)).alloc (.cells #[.bool false,.slice none 0 0,.slice none 0 0] 65)) (w.heap.size+1) 65 #[.bool false,.slice none 0 0,.slice none 0 0]:=(ah _ _ _ (by simp));have lw1:w.heap.size+2≤((w.alloc (.cells #[.bool false,.slice none 0 0,.slice none 0 0] 65)).alloc (.cells #[.bool false,.slice none 0 0,.slice none 0 0] 65)).heap.size:=by simp
 generalize hE1:((w.alloc (.cells #[.bool false,.slice none 0 0,.slice none 0 0] 65)).alloc (.cells #[.bool false,.slice none 0 0,.slice none 0 0] 65))=w1 at p1 bw1 lw1 x1a x1b ⊢;clear hE1;go_loopw [4] (fun iv wr=>∃ (i:Nat) (bo:Bool) (Ao:Option Addr) (no co:Nat) (Do:Option Addr) (mo eo:Nat),iv=.int .i64 (i:Nat)∧i≤s.length∧QV wr bo Ao no co Do mo eo (((aj (s.take i):Nat):Int):Rat) (1+3 * i)∧Kp w1 wr∧Below w.heap.size w wr∧w1.heap.size≤wr.heap.size∧Blk wr w.heap.size 65 #[.bool false,.slice none 0 0,.slice none 0 0]∧Blk wr (w.heap.size+1) 65 #[.bool bo,.slice Ao no co,.slice Do mo eo]) (fun iv _=>s.length - (intOf iv).toNat)
 case atStart=>exact ⟨0,false,none,0,0,none,0,0,rfl,Nat.zero_le _,QV.zero _ _,Kp.refl _,bw1,Qr,x1a,x1b⟩
 case round =>
  clear x1a;clear x1b;obtain ⟨i,bo,Ao,no,co,Do,mo,eo,rfl,hi,ho,hkp,hbw,hlw,x1a,x1b⟩:=hrel;by_cases hlt:i < s.length
  ·have hi1:((i:Int) < (s.length:Int))=True:=by simp;omega
   have hlts:i < s.length:=hlt;have hq:=wC (aj (s.take i)) (iT (atB s i));rw [← wA hlt] at hq;obtain ⟨v,hv⟩:∃ v:Rat,(((aj (s.take i):Nat):Int):Rat)=v:=⟨_,rfl⟩;rw [hv] at ho hq;have hdg:=A0 HD.out hlt;obtain ⟨c0,hc0⟩:∃ c,atB s i=c:=⟨_,rfl⟩;have hget:∀ h,(⟨s.toArray⟩:ByteArray)[i]'h=c0:=fun h=>by rw [← hc0];exact (cw hlt).symm
   rw [hc0] at hdg hq;obtain ⟨d,hd⟩:∃ d,iT c0=d:=⟨_,rfl⟩;have hd9:48≤c0.toNat∧c0.toNat≤57:=by unfold aK at hdg;simpa using hdg
   have hdv:c0.toNat - 48=d:=hd;rw [hd] at hq;obtain ⟨cn,hcn⟩:∃ cn,c0.toNat=cn:=⟨_,rfl⟩;rw [hcn] at hd9 hdv;have hw8:IntKind.u8.wrap ((cn:Int) - 48)=(d:Int):=by rw [show (cn:Int) - 48=(d:Int) by omega];exact IntWalk.u8_in _ ⟨by omega,by omega⟩
   have hd10:d < 10:=by omega
   have hw64:IntKind.i64.wrap (d:Int)=(d:Int):=IntWalk.i64_in _ ⟨by omega,by omega⟩;have HQ:=Qh hq;clear hq hv hc0 hdg hd hd9 hdv hlt;obtain ⟨cx1ba,cx1bb,cx1bc⟩:=x1b.c3;obtain ⟨lx1ba,lx1bb,lx1bc,lx1bd⟩:=gG x1b.lt;go_wp2_with fail
   refine iY (B:=w.heap.size) (fr:=fun xf=>⟨List.toArray (ae s :: undef :: .pointer (some ⟨w.heap.size,0,none⟩) :: .pointer (some ⟨w.heap.size+1,0,none⟩) :: .int .i64 (i:Nat) :: .agg #[.bool false,.slice none 0 0,.slice none 0 0] :: .int .i64 (i:Nat) :: ae s :: .int .i64 (s.length:Nat) :: .bool true :: u10 :: u11 :: xf 0 :: xf 1 :: xf 2 :: xf 3 :: xf 4 :: xf 5 :: xf 6 :: xf 7 :: xf 8 :: xf 9 :: undef :: []),[]⟩) (R:=fun ri=>List.getD ((PEq (.agg #[.bool bo,.slice Ao no co,.slice Do mo eo])) :: (VQ (((10:Int):Rat)) (1)) :: (VQ ((v) * (((10:Int):Rat))) (((1+3 * i))+(1))) :: (PEq (ae s)) :: (PEq (.int .i64 (i:Nat))) :: (PEq (.int .u8 (cn:Nat))) :: (PEq (.int .u8 (d:Nat))) :: (PEq (.int .i64 (d:Nat))) :: (VQ ((((d:Nat):Int):Rat)) (1)) :: (VQ (((v) * (((10:Int):Rat)))+((((d:Nat):Int):Rat))) ((((1+3 * i))+(1))+(1)+1)) :: od :: []) ri (fun _ _=>True)) (es:=[]) (ow:=[⟨w.heap.size,11,0,65,#[.bool false,.slice none 0 0,.slice none 0 0],oe⟩,⟨w.heap.size+1,10,0,65,#[.bool bo,.slice Ao no co,.slice Do mo eo],CQ (((v) * (((10:Int):Rat)))+((((d:Nat):Int):Rat))) ((((1+3 * i))+(1))+(1)+1)⟩]) (x0:=(upd (upd (upd (upd (upd (upd (upd (upd (upd (upd (fun _=>undef) 0 (u12)) 1 (u13)) 2 (u14)) 3 (u15)) 4 (u16)) 5 (u17)) 6 (u18)) 7 (u19)) 8 (u20)) 9 (u21))) (by kernel_rfl)
    (aG ⟨fun _ _=>rfl,fun _ _=>rfl,fun _ _=>rfl,fun _ _=>rfl,fun _ _=>rfl,fun _ _=>rfl,fun _ _=>rfl,fun _ _=>rfl,fun _ _=>rfl,fun _ _=>rfl,fun _ _=>rfl,trivial⟩) (aG (cd _ 0 (by kernel_rfl))) (jD.get _ ⟨kF _,stQ _ _,stQ _ _,kF _,kF _,kF _,kF _,kF _,stQ _ _,stQ _ _,yA,trivial⟩)
    (fun _ h=>nomatch h) (fmc ⟨ls,fmc ⟨scQ _ _,fun _ h=>nomatch h⟩⟩) (fun _ h=>nomatch h) hbw.size
    (fmc ⟨⟨x1a,by show w.heap.size≤w.heap.size;omega⟩,fmc ⟨⟨x1b,by show w.heap.size≤w.heap.size+1;omega⟩,fun _ h=>nomatch h⟩⟩) (rM (by simp <;> omega))
    (aG ⟨?_,?_,?_,?_,?_,?_,?_,?_,?_,?_,?_,trivial⟩) ?_
   ·exact .inl ⟨by simp,by simp,fun xf wq hk hbl hd K hK=>by
     have y:Blk wq (w.heap.size+1) 65 #[.bool bo,.slice Ao no co,.slice Do mo eo]:=hbl _ (List.Mem.tail _ (List.Mem.head _)) (by simp [Region.binds]);have hcl0:=y.c3;(try dsimp only);go_simp
     exact hK.out (.agg #[.bool bo,.slice Ao no co,.slice Do mo eo]) _ rfl (aa _)⟩
   ·exact .inl ⟨by simp,by simp,fun xf wq hk hbl hd K hK=>by
     (try dsimp only);go_simp;go_at_call 202;(with_reducible refine (zF _ (10) ?_ ?_).mono ?_);(omega);(omega);rintro e wr ⟨b3,A3,n3,c3,A'3,n'3,c'3,rfl,h3,hbr⟩
     exact hK.out _ _ ⟨b3,A3,n3,c3,A'3,n'3,c'3,rfl,h3⟩ hbr⟩
   ·exact .inl ⟨by simp,by simp,fun xf wq hk hbl hd K hK=>by
     have dq0:xf 0=.agg #[.bool bo,.slice Ao no co,.slice Do mo eo]:=hd ⟨0,.data⟩ (by simp) rfl;obtain ⟨b3,A3,n3,c3,A'3,n'3,c'3,dq1,h3⟩:VQ (((10:Int):Rat)) (1) (xf 1) wq:=hd ⟨1,.data⟩ (by simp) rfl;(try dsimp only);(try simp only [dq0,dq1]);go_simp;go_at_call 234;(with_reducible refine (AM _ bo Ao no co Do mo eo (v) ((1+3 * i)) ?_ b3 A3 n3 c3 A'3 n'3 c'3 (((10:Int):Rat)) (1) ?_ ?_ ?_ ?_ ?_).mono ?_);(exact (ho.keep hk).qz);(exact h3.qz);(omega);(omega);(omega);(omega);rintro e wr ⟨b4,A4,n4,c4,A'4,n'4,c'4,rfl,h4,hbr⟩;have hz:=hK.out _ _ ⟨b4,A4,n4,c4,A'4,n'4,c'4,rfl,h4⟩ hbr;simp only [dq0,dq1] at hz
     exact hz⟩
   ·exact .inl ⟨by simp,by simp,fun xf wq hk hbl hd K hK=>by
     (try dsimp only);go_simp
     exact hK.out (ae s) _ rfl (aa _)⟩
   ·exact .inl ⟨by simp,by simp,fun xf wq hk hbl hd K hK=>by
     (try dsimp only);go_simp
     exact hK.out (.int .i64 (i:Nat)) _ rfl (aa _)⟩
   ·exact .inl ⟨by simp,by simp,fun xf wq hk hbl hd K hK=>by
     have dq3:xf 3=ae s:=hd ⟨3,.data⟩ (by simp) rfl;have dq4:xf 4=.int .i64 (i:Nat):=hd ⟨4,.data⟩ (by simp) rfl;(try dsimp only);(try simp only [dq3,dq4]);go_simp;have hz:=hK.out (.int .u8 (cn:Nat)) _ rfl (aa _);simp only [dq3,dq4] at hz
     exact hz⟩
   ·exact .inl ⟨by simp,by simp,fun xf wq hk hbl hd K hK=>by
     have dq5:xf 5=.int .u8 (cn:Nat):=hd ⟨5,.data⟩ (by simp) rfl;(try dsimp only);(try simp only [dq5]);go_simp;have hz:=hK.out (.int .u8 (d:Nat)) _ rfl (aa _);simp only [dq5] at hz
     exact hz⟩
   ·exact .inl ⟨by simp,by simp,fun xf wq hk hbl hd K hK=>by
     have dq6:xf 6=.int .u8 (d:Nat):=hd ⟨6,.data⟩ (by simp) rfl;(try dsimp only);(try simp only [dq6]);go_simp;have hz:=hK.out (.int .i64 (d:Nat)) _ rfl (aa _);simp only [dq6] at hz
     exact hz⟩
   ·exact .inl ⟨by simp,by simp,fun xf wq hk hbl hd K hK=>by
     have dq7:xf 7=.int .i64 (d:Nat):=hd ⟨7,.data⟩ (by simp) rfl;(try dsimp only);(try simp only [dq7]);go_simp;go_at_call 202;(with_reducible refine (zF _ ((d:Nat)) ?_ ?_).mono ?_);(omega);(omega);rintro e wr ⟨b5,A5,n5,c5,A'5,n'5,c'5,rfl,h5,hbr⟩;have hz:=hK.out _ _ ⟨b5,A5,n5,c5,A'5,n'5,c'5,rfl,h5⟩ hbr;simp only [dq7] at hz
     exact hz⟩
   ·exact .inl ⟨by simp,by simp,fun xf wq hk hbl hd K hK=>by
     obtain ⟨b4,A4,n4,c4,A'4,n'4,c'4,dq2,h4⟩:VQ ((v) * (((10:Int):Rat))) (((1+3 * i))+(1)) (xf 2) wq:=hd ⟨2,.data⟩ (by simp) rfl;obtain ⟨b5,A5,n5,c5,A'5,n'5,c'5,dq8,h5⟩:VQ ((((d:Nat):Int):Rat)) (1) (xf 8) wq:=hd ⟨8,.data⟩ (by simp) rfl;(try dsimp only);(try simp only [dq2,dq8]);go_simp;go_at_call 217;(with_reducible refine (yD _ b4 A4 n4 c4 A'4 n'4 c'4 ((v) * (((10:Int):Rat))) (((1+3 * i))+(1)) ?_ b5 A5 n5 c5 A'5 n'5 c'5 ((((d:Nat):Int):Rat)) (1) ?_ ?_ ?_ ?_ ?_).mono ?_);(exact h4.qz);(exact h5.qz);(omega);(omega);(omega);(omega);rintro e wr ⟨b6,A6,n6,c6,A'6,n'6,c'6,rfl,h6,hbr⟩;have hz:=hK.out _ _ ⟨b6,A6,n6,c6,A'6,n'6,c'6,rfl,h6⟩ hbr;simp only [dq2,dq8] at hz
     exact hz⟩
   ·exact .inr (.inr (.inr ⟨⟨w.heap.size+1,10,0,65,#[.bool bo,.slice Ao no co,.slice Do mo eo],CQ (((v) * (((10:Int):Rat)))+((((d:Nat):Int):Rat))) ((((1+3 * i))+(1))+(1)+1)⟩,by simp,rfl,by simp,by simp,(show KT 65=false by decide),fun _ _=>True.intro,fun xf wq hblk hd=>by
     obtain ⟨b6,A6,n6,c6,A'6,n'6,c'6,dq9,h6⟩:VQ (((v) * (((10:Int):Rat)))+((((d:Nat):Int):Rat))) ((((1+3 * i))+(1))+(1)+1) (xf 9) wq:=hd ⟨9,.data⟩ (by simp) rfl;dsimp only at hblk;refine ⟨[.bool b6,.slice A6 n6 c6,.slice A'6 n'6 c'6],fun w' hk=>⟨b6,A6,n6,c6,A'6,n'6,c'6,rfl,h6.keep hk⟩,fun K hK=>?_⟩;have hc0:wq.cell? ⟨w.heap.size+1,0,none⟩=some (.bool bo):=hblk.cell 0;have hc1:wq.cell? ⟨w.heap.size+1,1,none⟩=some (.slice Ao no co):=hblk.cell 1;have hc2:wq.cell? ⟨w.heap.size+1,2,none⟩=some (.slice Do mo eo):=hblk.cell 2;have hf0:wq.frozen? ⟨w.heap.size+1,0,none⟩=false:=hblk.frozen 0;have hf1:wq.frozen? ⟨w.heap.size+1,1,none⟩=false:=hblk.frozen 1;have hf2:wq.frozen? ⟨w.heap.size+1,2,none⟩=false:=hblk.frozen 2;(try dsimp only);simp only [dq9];go_simp;have hz:=hK.out undef;simp only [dq9] at hz
     exact hz⟩))
   clear cx1ba cx1bb cx1bc lx1ba lx1bb lx1bc lx1bd;intro y2 w2 kq2 hbl2 lw2 how hrr hfl hds;replace ho:=ho.keep kq2;replace hkp:=hkp.trans kq2;obtain ⟨_,z2_0,ez,_⟩:=how _ (List.Mem.head _);obtain rfl:=ez (by simp);dsimp only at z2_0;obtain ⟨_,z2_1,_,ez⟩:=how _ (List.Mem.tail _ (List.Mem.head _));obtain ⟨b6,A6,n6,c6,A'6,n'6,c'6,rfl,h6⟩:=ez (by simp);dsimp only at z2_1;(try dsimp only);clear hrr hfl how hds;clear x1a x1b;have bw2:=hbw.trans hbl2;have cz2_1_0:w2.cell? ⟨w.heap.size+1,0,none⟩=some (.bool b6):=z2_1.cell 0;have cz2_1_1:w2.cell? ⟨w.heap.size+1,1,none⟩=some (.slice A6 n6 c6):=z2_1.cell 1;have cz2_1_2:w2.cell? ⟨w.heap.size+1,2,none⟩=some (.slice A'6 n'6 c'6):=z2_1.cell 2;have lz2_1:=gG z2_1.lt;go_wp2_with fail;clear cz2_1_0 cz2_1_1 cz2_1_2 lz2_1;go_roundw
   case rel=>exact ⟨i+1,b6,A6,n6,c6,A'6,n'6,c'6,by go_num,by omega,by rw [← HQ.out];exact h6.mono (by omega),hkp,bw2,by omega,z2_0,z2_1⟩
   case measure=>simp [intOf];omega
  have hi1:((i:Int) < (s.length:Int))=False:=by simp;omega
  obtain rfl:i=s.length:=by omega
  rw [List.take_length] at ho;have cx1a:=x1a.c3;have fx1a:=x1a.f3;have lx1a:=fM x1a.lt;obtain ⟨cx1ba,cx1bb,cx1bc⟩:=x1b.c3;obtain ⟨lx1ba,lx1bb,lx1bc,lx1bd⟩:=gG x1b.lt;go_wp2_with fail;refine bodyPost_ret (v:=.agg #[.bool bo,.slice Ao no co,.slice Do mo eo]) (by simp [results,Tryz.results200,go_sem, *] <;> trivial) rfl ?_;exact ⟨_,_,_,_,_,_,_,rfl,(ho.keep ((((Kp.refl wr).sb w.heap.size 0 x1a.box (by decide) (.bool bo)).sb w.heap.size 1 (x1a.box.set ⟨w.heap.size,0,none⟩ (.bool bo)) (by decide) (.slice Ao no co)).sb w.heap.size 2 ((x1a.box.set ⟨w.heap.size,0,none⟩ (.bool bo)).set ⟨w.heap.size,1,none⟩ (.slice Ao no co)) (by decide) (.slice Do mo eo))).mono (by omega),(((hbw.sc w.heap.size 0 (by omega) (.bool bo)).sc w.heap.size 1 (by omega) (.slice Ao no co)).sc w.heap.size 2 (by omega) (.slice Do mo eo))⟩
theorem yf (N:Int) (j:Nat):Rat.divInt N ((10 ^ j:Nat):Int) / ((10:Int):Rat)=Rat.divInt N ((10 ^ (j+1):Nat):Int):=by
 rw [Rat.divInt_eq_div,Rat.divInt_eq_div,Nat.pow_succ,Int.natCast_mul,Rat.intCast_mul,Rat.div_def,Rat.div_def,Rat.div_def,Rat.inv_mul_rev,Rat.mul_assoc];congr 1;exact Rat.mul_comm _ _
theorem div_one (N:Int):((N:Int):Rat)=Rat.divInt N ((10 ^ 0:Nat):Int):=(uI N).symm
def wD (N j:Nat):Rat:=Rat.divInt ((N:Nat):Int) ((10 ^ j:Nat):Int)
theorem sB (N:Int) (d:Int):-(Rat.divInt N d)=Rat.divInt (-N) d:=by rw [Rat.neg_divInt]
theorem zV (m:Bool) {D r:List UInt8}(h:isD D):((((atB (sg m (D ++ r)) 0).toNat:Nat):Int) == 45)=m:=by
 obtain ⟨c,t,rfl,hc⟩:=fT h;cases m
 ·refine (am c 45).trans ?_
  have h45:c≠45:=by rintro rfl;exact absurd hc (by decide)
  simpa using h45
 rfl
theorem kV (D r:List UInt8) (c:UInt8):atB (D ++ c :: r) D.length=c:=by
 unfold atB;rw [List.getD_eq_getElem?_getD,List.getElem?_append_right Qr];simp
theorem sC (D:List UInt8):atB D D.length=0:=fd Qr
theorem mH (w:World) (s:List UInt8) (h:60 < s.length):Calls Tryz.prog 157 #[ae s] w (dZ w (.int .i64 4) 0 1):=by
 have hszs:=bX s;have hlen:((60:Int) < (s.length:Int))=True:=eq_true (by omega);go_in;go_wp2_with fail;refine bodyPost_ret (v:=.tuple #[.agg #[.bool false,.slice none 0 0,.slice none 0 0],.int .i64 4]) (by simp [results,Tryz.results157,go_sem, *] <;> trivial) rfl ?_;exact ⟨_,_,_,_,_,_,_,rfl,QV.zero _ _,((aa w).alloc (by first | omega | (simp <;> omega)) (.cells #[.bool false,.slice none 0 0,.slice none 0 0] 65))⟩
theorem qg (w:World) (s:List UInt8) (h:s.length≤60) (hb:s.length=0∨bC s≠s.length):Calls Tryz.prog 157 #[ae s] w (dZ w (.int .i64 2) 0 1):=by
 have hszs:=bX s;have hlen:((60:Int) < (s.length:Int))=False:=eq_false (by omega);obtain ⟨n,hn⟩:∃ n,bC s=n:=⟨_,rfl⟩;rw [hn] at hb;by_cases h0:s.length=0
 ·have hz:(((s.length:Nat):Int) == 0)=true:=by simp [h0]
  have hz2:(((s.length:Nat):Int)=0)=True:=eq_true (by omega);clear hb hn h0;go_in;go_wp2_with fail;refine bodyPost_ret (v:=.tuple #[.agg #[.bool false,.slice none 0 0,.slice none 0 0],.int .i64 2]) (by simp [results,Tryz.results157,go_sem, *] <;> trivial) rfl ?_;exact ⟨_,_,_,_,_,_,_,rfl,QV.zero _ _,((aa w).alloc (by first | omega | (simp <;> omega)) (.cells #[.bool false,.slice none 0 0,.slice none 0 0] 65))⟩
 have e0:((s.length:Int) == 0)=false:=beq_eq_false_iff_ne.2 (by omega);have e00:((s.length:Int)=0)=False:=eq_false (by omega);have e1:((n:Int) == (s.length:Int))=false:=beq_eq_false_iff_ne.2 (by omega);have hsl:s.length < 4611686018427387904:=by omega
 clear hb h0;go_in;go_wp2_with fail;(with_reducible refine (bN _ (s) (0) 0 rfl (Nat.zero_le _) hsl (n:Nat) (by rw [List.drop_zero,Nat.zero_add,hn])).mono ?_);rintro e w1 ⟨rfl,hb1⟩;have q1:=hb1.q1;have x1a:Blk w1 w.heap.size 65 #[.bool false,.slice none 0 0,.slice none 0 0]:=(ah _ _ _ (by simp)).below hb1 (by simp);have bw1:=(aa w).trans (q1.mono (aa w).size);have lw1:=hb1.l1;clear q1;have cx1a:=x1a.c3;have fx1a:=x1a.f3;have lx1a:=fM x1a.lt;go_wp2_with fail;refine bodyPost_ret (v:=.tuple #[.agg #[.bool false,.slice none 0 0,.slice none 0 0],.int .i64 2]) (by simp [results,Tryz.results157,go_sem, *] <;> trivial) rfl ?_;exact ⟨_,_,_,_,_,_,_,rfl,QV.zero _ _,(((bw1.sc w.heap.size 0 (by omega) (.bool false)).sc w.heap.size 1 (by omega) (.slice none 0 0)).sc w.heap.size 2 (by omega) (.slice none 0 0))⟩
inductive RO (D R:List UInt8) (x:Int) (q:Rat):Prop
  | whole (h:R=[]) (hx:x=0) (hq:q=((aj D:Int):Rat))
  | zero (E:List UInt8) (hE:isD E) (h:R=47 :: E) (h0:aj E=0) (hx:x=8) (hq:q=0)
  | quo (E:List UInt8) (hE:isD E) (h:R=47 :: E) (h0:aj E≠0) (hx:x=0) (hq:q=((aj D:Int):Rat) / ((aj E:Int):Rat))
  | dot (E:List UInt8) (hE:isD E) (h:R=46 :: E) (hx:x=0) (hq:q=wD (aj (D ++ E)) E.length)
theorem iO (w:World) (s:List UInt8) (m:Bool) (D R:List UInt8) (h:s.length≤60) (hn:bC s=s.length) (hD:isD D) (hs:s=sg m (D ++ R)) (x:Int) (q1:Rat) (hO:RO D R x q1) (q:Rat) (hq:x=0→(if m then -q1 else q1)=q) (hq0:x≠0→q=0) :
 Calls Tryz.prog 157 #[ae s] w (dZ w (.int .i64 x) q 500):=by
 have hDl:0 < D.length:=List.length_pos_iff.2 hD.1;obtain ⟨B,hB⟩:∃ B:List UInt8,D ++ R=B:=⟨_,rfl⟩;have hBl:B.length=D.length+R.length:=by rw [← hB,List.length_append]
 have hsl:B.length≤s.length∧s.length≤B.length+1:=by rw [hs,hB];cases m <;> simp [sg]
 have hszs:=bX s;have hszB:=bX B;have hlen:((60:Int) < (s.length:Int))=False:=eq_false (by omega);have hn0:((s.length:Int) == 0)=false:=beq_eq_false_iff_ne.2 (by omega);have hn00:((s.length:Int)=0)=False:=eq_false (by omega);have he45:=zV m (r:=R) hD;rw [← hs] at he45;have hlt0:0 < s.length:=by omega
 obtain ⟨c0,hc0⟩:∃ c,atB s 0=c:=⟨_,rfl⟩;have hget:∀ h,(⟨s.toArray⟩:ByteArray)[0]'h=c0:=fun h=>by rw [← hc0];exact (cw hlt0).symm
 rw [hc0] at he45;have hss:s.length < 4611686018427387904:=by omega
 have hBs:B.length < 4611686018427387904:=by omega
 have hD6:D.length≤60:=by omega
 have hs1:(1:Int)≤(s.length:Int):=by omega
 have hdg:cg B=D.length:=by
  rw [← hB];rcases hO with ⟨h,_⟩ | ⟨E,_,h,_⟩ | ⟨E,_,h,_⟩ | ⟨E,_,h,_⟩
  ·rw [h,List.append_nil];have:=gl (D:=D) (r:=[]) hD.2 (fun c t e=>by cases e);rwa [List.append_nil] at this
  ·rw [h];exact gl hD.2 (fun c t e=>by injection e with e _;rw [← e];rfl)
  ·rw [h];exact gl hD.2 (fun c t e=>by injection e with e _;rw [← e];rfl)
  rw [h];exact gl hD.2 (fun c t e=>by injection e with e _;rw [← e];rfl)
 have e2:(⟨B.toArray⟩:ByteArray).extract 0 D.length=⟨D.toArray⟩:=by rw [fQ,List.drop_zero,Nat.sub_zero,← hB];simp
 have hDB:(D.length:Int)≤(B.length:Int):=by omega
 have hD0:(0:Int)≤(D.length:Int):=by omega
 have HN:=Qh hn;have HO:=Qh hO;have HQ:=Qh hq;have HQ0:=Qh hq0;have HDD:=Qh hD;have HB:=Qh hB;have HS:=Qh hs;have HDG:=Qh hdg;have HL:=Qh (And.intro hBl hsl);clear hn hO hq hq0 hD hB hs hdg hc0 hBl hsl;go_in;go_wp2_with fail;(refine (bN _ s 0 0 rfl (Nat.zero_le _) hss (s.length:Nat) (by rw [List.drop_zero,Nat.zero_add,HN.out])).mono ?_);rintro e w1 ⟨rfl,hb1⟩;have q1_:Below w.heap.size w w1:=((aa w).alloc Qr _).trans (hb1.mono (by simp));have x1:Blk w1 w.heap.size 65 #[.bool false,.slice none 0 0,.slice none 0 0]:=(ah _ _ _ (by simp)).below hb1 (by simp);clear hb1;go_upto_if 27 with fail;go_cut [0] (fun s0 wx=>s0=ae B∧w1=wx)
 case first =>
  cases m
  ·have e:s=B:=by have:=HS.out;rw [HB.out] at this;exact this
   subst e;go_wp2_with fail;go_meet;exact ⟨rfl,rfl⟩
  ·have e1:(⟨s.toArray⟩:ByteArray).extract 1 s.length=⟨B.toArray⟩:=by
    rw [fQ,HS.out,HB.out];simp [sg]
   go_wp2_with fail;go_meet;exact ⟨rfl,rfl⟩
 case rest =>
  obtain ⟨rfl,rfl⟩:=hcut;clear hget;go_wp2_with fail;(refine (au _ B 0 0 rfl (Nat.zero_le _) hBs (D.length:Nat) (by rw [List.drop_zero,Nat.zero_add,HDG.out])).mono ?_);rintro e w2 ⟨rfl,hb2⟩;replace x1:=x1.b hb2;replace q1_:=q1_.trans (hb2.mono q1_.size);clear hb2;go_wp2_with fail;(refine (kU _ D HDD.out.2 hD6).mono ?_);rintro e w3 ⟨b3,A3,n3,c3,D3,m3,e3,rfl,h3,hb3⟩;replace x1:=x1.b hb3;replace q1_:=q1_.trans (hb3.mono q1_.size);clear hb3;go_upto_region 10 with fail;refine ef ?_;intro w4 hw4;have q4:Below w3.heap.size w3 w4:=by rw [hw4];exact (aa w3).alloc Qr _
  have x4:Blk w4 w3.heap.size 65 #[.bool b3,.slice A3 n3 c3,.slice D3 m3 e3]:=by rw [hw4];exact Blk.new w3 _ _
  have l4:=x1.lt;replace x1:=x1.b q4;replace h3:=h3.belw q4;replace q1_:=q1_.trans (q4.mono q1_.size);obtain ⟨g,hg⟩:∃ g,w3.heap.size=g:=⟨_,rfl⟩;rw [hg] at x4 l4 ⊢;clear hw4 q4 hg;obtain ⟨c,hc⟩:∃ c,atB B D.length=c:=⟨_,rfl⟩;have HC:=Qh hc;clear hc;go_wp2_with fail;(refine (aY _ B (D.length:Nat) D.length rfl c HC.out).mono ?_);rintro e w5 ⟨rfl,hb5⟩;replace x1:=x1.b hb5;replace x4:=x4.b hb5;replace h3:=h3.belw hb5;replace q1_:=q1_.trans (hb5.mono q1_.size);clear hb5;go_upto_if 39 with fail;go_cut [] (fun wx=>∃ qa b A n d D' m' e',Blk wx w.heap.size 65 #[.bool false,.slice none 0 0,.slice none 0 0]∧Blk wx g 65 #[.bool b,.slice A n d,.slice D' m' e']∧QV wx b A n d D' m' e' qa 363∧Below w.heap.size w wx∧x=0∧(c=46∨(c≠46∧qa=q1)))
  case first =>
   rcases HO.out with ⟨h,rfl,rfl⟩ | ⟨E,hE,h,h0,rfl,rfl⟩ | ⟨E,hE,h,h0,rfl,rfl⟩ | ⟨E,hE,h,rfl,rfl⟩
   ·obtain rfl:c=0:=by rw [← HC.out,← HB.out,h,List.append_nil];exact sC D
    go_wp2_with fail;go_meet;exact ⟨_,_,_,_,_,_,_,_,x1,x4,h3.mono (by decide),q1_,by trivial,.inr ⟨by decide,rfl⟩⟩
   ·obtain rfl:q=0:=HQ0.out (by decide)
    obtain rfl:c=47:=by rw [← HC.out,← HB.out,h];exact kV D E 47
    have hRl:B.length=D.length+(E.length+1):=by have:=HL.out.1;rw [h] at this;simpa using this
    have hw1:IntKind.i64.wrap ((D.length:Int)+1)=(D.length:Int)+1:=IntWalk.i64_in _ ⟨by omega,by omega⟩;have ht1:((D.length:Int)+1).toNat=D.length+1:=by omega
    have hD1:(D.length:Int)+1≤(B.length:Int):=by omega
    have hD2:(0:Int)≤(D.length:Int)+1:=by omega
    have e3:(⟨B.toArray⟩:ByteArray).extract (D.length+1) B.length=⟨E.toArray⟩:=by
     rw [fQ,← HB.out,h];simp;exact List.take_of_length_le (by omega)
    have hE6:E.length≤60:=by have:=HL.out.2.1;omega
    clear hRl h;go_wp2_with fail;(refine (kU _ E hE.2 hE6).mono ?_);rintro e w6 ⟨b5,A5,n5,c5,D5,m5,e5,rfl,h5,hb6⟩;replace x1:=x1.b hb6;replace x4:=x4.b hb6;replace h3:=h3.belw hb6;replace q1_:=q1_.trans (hb6.mono q1_.size);clear hb6;go_upto_region 12 with fail;refine ef ?_;intro w7 hw7;have q7:Below w6.heap.size w6 w7:=by rw [hw7];exact (aa w6).alloc Qr _
    have x7:Blk w7 w6.heap.size 65 #[.bool b5,.slice A5 n5 c5,.slice D5 m5 e5]:=by rw [hw7];exact Blk.new w6 _ _
    replace x1:=x1.b q7;replace x4:=x4.b q7;replace h3:=h3.belw q7;replace h5:=h5.belw q7;replace q1_:=q1_.trans (q7.mono q1_.size);clear hw7 q7;have y:=x7.v3;go_wp2_with fail;(refine (pN _ b5 A5 n5 c5 D5 m5 e5 _ 181 h5.qz 0 (by rw [h0];rfl) (by decide) (by decide)).mono ?_);rintro e w8 ⟨rfl,hb8⟩;replace x1:=x1.b hb8;replace x4:=x4.b hb8;replace x7:=x7.b hb8;replace h3:=h3.belw hb8;replace h5:=h5.belw hb8;replace q1_:=q1_.trans (hb8.mono q1_.size);clear hb8 y;have y:=x1.v3;go_wp2_with fail;refine bodyPost_ret (v:=.tuple #[.agg #[.bool false,.slice none 0 0,.slice none 0 0],.int .i64 8]) (by simp [results,Tryz.results157,go_sem, *] <;> trivial) rfl ?_;exact ⟨_,_,_,_,_,_,_,rfl,QV.zero _ _,((q1_.setCell (p:=⟨w.heap.size,0,none⟩) Qr _).setCell (p:=⟨w.heap.size,1,none⟩) Qr _).setCell (p:=⟨w.heap.size,2,none⟩) Qr _⟩
   ·have hpos:(((aj E:Nat):Int):Rat).num.sign=1:=by rw [Rat.num_intCast];exact Int.sign_eq_one_iff_pos.2 (by omega)
    obtain rfl:c=47:=by rw [← HC.out,← HB.out,h];exact kV D E 47
    have hRl:B.length=D.length+(E.length+1):=by have:=HL.out.1;rw [h] at this;simpa using this
    have hw1:IntKind.i64.wrap ((D.length:Int)+1)=(D.length:Int)+1:=IntWalk.i64_in _ ⟨by omega,by omega⟩;have ht1:((D.length:Int)+1).toNat=D.length+1:=by omega
    have hD1:(D.length:Int)+1≤(B.length:Int):=by omega
    have hD2:(0:Int)≤(D.length:Int)+1:=by omega
    have e3:(⟨B.toArray⟩:ByteArray).extract (D.length+1) B.length=⟨E.toArray⟩:=by
     rw [fQ,← HB.out,h];simp;exact List.take_of_length_le (by omega)
    have hE6:E.length≤60:=by have:=HL.out.2.1;omega
    clear hRl h;go_wp2_with fail;(refine (kU _ E hE.2 hE6).mono ?_);rintro e w6 ⟨b5,A5,n5,c5,D5,m5,e5,rfl,h5,hb6⟩;replace x1:=x1.b hb6;replace x4:=x4.b hb6;replace h3:=h3.belw hb6;replace q1_:=q1_.trans (hb6.mono q1_.size);clear hb6;go_upto_region 12 with fail;refine ef ?_;intro w7 hw7;have q7:Below w6.heap.size w6 w7:=by rw [hw7];exact (aa w6).alloc Qr _
    have x7:Blk w7 w6.heap.size 65 #[.bool b5,.slice A5 n5 c5,.slice D5 m5 e5]:=by rw [hw7];exact Blk.new w6 _ _
    replace x1:=x1.b q7;replace x4:=x4.b q7;replace h3:=h3.belw q7;replace h5:=h5.belw q7;replace q1_:=q1_.trans (q7.mono q1_.size);clear hw7 q7;have y:=x7.v3;go_wp2_with fail;(refine (pN _ b5 A5 n5 c5 D5 m5 e5 _ 181 h5.qz 1 (by exact hpos) (by decide) (by decide)).mono ?_);rintro e w8 ⟨rfl,hb8⟩;replace x1:=x1.b hb8;replace x4:=x4.b hb8;replace x7:=x7.b hb8;replace h3:=h3.belw hb8;replace h5:=h5.belw hb8;replace q1_:=q1_.trans (hb8.mono q1_.size);clear hb8 y;have y:=And.intro x4.v3 x7.v3;go_wp2_with fail;clear e2 e3 he45;(refine (yE _ b3 A3 n3 c3 D3 m3 e3 _ 181 h3.qz b5 A5 n5 c5 D5 m5 e5 _ 181 h5.qz (by decide) (by decide) (by decide) (by decide) (fun e=>by rw [e] at hpos;exact absurd hpos (by decide))).mono ?_);rintro e w9 ⟨b6,A6,n6,c6,D6,m6,e6,rfl,h6,hb9⟩;replace x1:=x1.b hb9;replace x4:=x4.b hb9;replace q1_:=q1_.trans (hb9.mono q1_.size);clear hb9 y;have y:=x4.v3;go_wp2_with fail;go_meet;exact ⟨_,_,_,_,_,_,_,_,((x1.far (p:=⟨g,0,none⟩) (by show w.heap.size≠g;omega) _).far (p:=⟨g,1,none⟩) (by show w.heap.size≠g;omega) _).far (p:=⟨g,2,none⟩) (by show w.heap.size≠g;omega) _,((x4.set_ 0 _).set_ 1 _).set_ 2 _,(h6.keep (x4.k3 (by decide) _ _ _)).mono (by decide),((q1_.setCell (p:=⟨g,0,none⟩) (by show w.heap.size≤g;omega) _).setCell (p:=⟨g,1,none⟩) (by show w.heap.size≤g;omega) _).setCell (p:=⟨g,2,none⟩) (by show w.heap.size≤g;omega) _,by trivial,.inr ⟨by decide,rfl⟩⟩
   obtain rfl:c=46:=by rw [← HC.out,← HB.out,h];exact kV D E 46
   go_wp2_with fail;go_meet;exact ⟨_,_,_,_,_,_,_,_,x1,x4,h3.mono (by decide),q1_,by trivial,.inl (by trivial)⟩
  case rest =>
   clear x1 x4 h3 q1_;obtain ⟨qa,b,A,n,d,D',m',e',x1,x4,h3,q1_,rfl,hcc⟩:=hcut;rename World=>w6;have HCC:=Qh hcc;clear hcc;go_wp2_with fail;(refine (aY _ B (D.length:Nat) D.length rfl c HC.out).mono ?_);rintro e w7 ⟨rfl,hb7⟩;replace x1:=x1.b hb7;replace x4:=x4.b hb7;replace h3:=h3.belw hb7;replace q1_:=q1_.trans (hb7.mono q1_.size);clear hb7;go_upto_if 58 with fail;go_cut [] (fun wx=>∃ b A n d D' m' e',Blk wx w.heap.size 65 #[.bool false,.slice none 0 0,.slice none 0 0]∧Blk wx g 65 #[.bool b,.slice A n d,.slice D' m' e']∧QV wx b A n d D' m' e' q1 363∧Below w.heap.size w wx)
   case first =>
    rcases HCC.out with hc | ⟨hc,rfl⟩
    ·subst hc
     obtain ⟨E,hE,h,hq1⟩:∃ E,isD E∧R=46 :: E∧q1=wD (aj (D ++ E)) E.length:=by
      have hcc:=HC.out;rw [← HB.out] at hcc;rcases HO.out with ⟨h,_⟩ | ⟨E,_,_,_,hx,_⟩ | ⟨E,_,h,_⟩ | ⟨E,hE,h,_,hq⟩
      ·rw [h,List.append_nil,sC] at hcc;exact absurd hcc (by decide)
      ·exact absurd hx (by decide)
      ·rw [h,kV] at hcc;exact absurd hcc (by decide)
      exact ⟨E,hE,h,hq⟩
     subst hq1;have hRl:B.length=D.length+(E.length+1):=by have:=HL.out.1;rw [h] at this;simpa using this
     have hw1:IntKind.i64.wrap ((D.length:Int)+1)=(D.length:Int)+1:=IntWalk.i64_in _ ⟨by omega,by omega⟩;have ht1:((D.length:Int)+1).toNat=D.length+1:=by omega
     have hD1:(D.length:Int)+1≤(B.length:Int):=by omega
     have hD2:(0:Int)≤(D.length:Int)+1:=by omega
     have e3:(⟨B.toArray⟩:ByteArray).extract (D.length+1) B.length=⟨E.toArray⟩:=by
      rw [fQ,← HB.out,h];simp;exact List.take_of_length_le (by omega)
     have hE6:E.length≤60:=by have:=HL.out.2.1;omega
     have ha1:=vK D E;have hk1:(9223372036854775807 < D.length+E.length)=False:=eq_false (by omega);have hDE:(D ++ E).all aK=true∧(D ++ E).length≤60:=⟨by rw [List.all_append,HDD.out.2,hE.2];rfl,by have:=HL.out.2.1;rw [List.length_append];omega⟩;have HDE:=Qh hDE;have hbe:B.length≤D.length+(E.length+1)∧D.length+(E.length+1)≤B.length:=by omega
     clear hDE h hRl hE;go_wp2_with fail
     go_region_with (first
      | (go_at_call 200;(with_reducible refine (kU _ (D ++ E) HDE.out.1 HDE.out.2).mono ?_);rintro e w8 ⟨b6,A6,n6,c6,D6,m6,e6,rfl,h6,hb8⟩;replace hb8:=ak (af (aa _) 1) hb8;replace x1:=x1.b hb8;replace x4:=x4.b hb8;replace q1_:=q1_.trans (hb8.mono q1_.size);have y:=x4.v3))
     all_goals
      go_wp2_with fail;refine ef ?_;intro w10 hw10;have z1:Blk w10 w.heap.size 65 #[.bool false,.slice none 0 0,.slice none 0 0]:=by rw [hw10];exact ((x1.far (p:=⟨g,0,none⟩) (by show w.heap.size≠g;omega) _).far (p:=⟨g,1,none⟩) (by show w.heap.size≠g;omega) _).far (p:=⟨g,2,none⟩) (by show w.heap.size≠g;omega) _
      have z4:Blk w10 g 65 #[.bool b6,.slice A6 n6 c6,.slice D6 m6 e6]:=by rw [hw10];exact ((x4.set_ 0 _).set_ 1 _).set_ 2 _
      have z6:QV w10 b6 A6 n6 c6 D6 m6 e6 (((aj (D ++ E):Nat):Int):Rat) 181:=by rw [hw10];exact h6.keep (x4.k3 (by decide) _ _ _)
      have zq:Below w.heap.size w w10:=by rw [hw10];exact ((q1_.setCell (p:=⟨g,0,none⟩) (by show w.heap.size≤g;omega) _).setCell (p:=⟨g,1,none⟩) (by show w.heap.size≤g;omega) _).setCell (p:=⟨g,2,none⟩) (by show w.heap.size≤g;omega) _
      clear hw10 x1 x4 h6 h3 q1_ y hb8 e2 e3 ha1;go_loopw [8] (fun iv wr=>∃ (j:Nat) (b:Bool) (A:Option Addr) (n d:Nat) (D':Option Addr) (m' e':Nat),iv=.int .i64 (j:Nat)∧D.length+1≤j∧j≤B.length∧QV wr b A n d D' m' e' (wD (aj (D ++ E)) (j - (D.length+1))) (181+(j - (D.length+1)))∧Blk wr w.heap.size 65 #[.bool false,.slice none 0 0,.slice none 0 0]∧Blk wr g 65 #[.bool b,.slice A n d,.slice D' m' e']∧Below w.heap.size w wr) (fun iv _=>B.length - (intOf iv).toNat)
      case atStart=>exact ⟨D.length+1,b6,A6,n6,c6,D6,m6,e6,rfl,Qr,by omega,by rw [Nat.sub_self];unfold wD;rw [← div_one];exact z6,z1,z4,zq⟩
      case round =>
       clear z1 z4 z6 zq;obtain ⟨j,b,A,n,d,D',m',e',rfl,hj,hj2,h6,x1,x4,q1_⟩:=hrel;rename World=>wr;by_cases hlt:j < B.length
       ·have hi1:((j:Int) < (B.length:Int))=True:=by simp;omega
        have hq:=yf ((aj (D ++ E):Nat):Int) (j - (D.length+1));obtain ⟨v,hv⟩:∃ v:Rat,wD (aj (D ++ E)) (j - (D.length+1))=v:=⟨_,rfl⟩;obtain ⟨S,hS⟩:∃ S,181+(j - (D.length+1))=S:=⟨_,rfl⟩;rw [show Rat.divInt ((aj (D ++ E):Nat):Int) ((10 ^ (j - (D.length+1)):Nat):Int)=v from hv,show j - (D.length+1)+1=j+1 - (D.length+1) by omega] at hq;rw [hv,hS] at h6;have hS2:1≤S∧S≤300:=by omega
        have HQ9:=Qh hq;have HLT:=Qh hlt;have HSS:=Qh hS;have y:=x4.v3;clear hq hv hS hlt;go_wp2_with fail
        go_region_with (first
         | (go_at_call 202;(with_reducible refine (zF _ 10 ?_ ?_).mono ?_);(decide);(decide);rintro e w11 ⟨b7,A7,n7,c7,D7,m7,e7,rfl,h7,hb11⟩;replace hb11:=ak (af (aa _) 1) hb11;replace h6:=h6.belw hb11;replace x1:=x1.b hb11;replace x4:=x4.b hb11;replace q1_:=q1_.trans (hb11.mono q1_.size);have y:=x4.v3)
         | (go_at_call 201;(with_reducible refine (yE _ b A n d D' m' e' v S ?_ b7 A7 n7 c7 D7 m7 e7 ((10:Int):Rat) 1 ?_ ?_ ?_ ?_ ?_ ?_).mono ?_);(exact h6.qz);(exact h7.qz);(omega);(omega);(decide);(decide);(decide);rintro e w12 ⟨b8,A8,n8,c8,D8,m8,e8,rfl,h8,hb12⟩;replace x1:=x1.b hb12;replace x4:=x4.b hb12;replace q1_:=q1_.trans (hb12.mono q1_.size);have y:=x4.v3))
        all_goals
         go_wp2_with fail;go_roundw
         case rel=>exact ⟨j+1,b8,A8,n8,c8,D8,m8,e8,by go_num,by omega,by have:=HLT.out;omega,(by have h9:=h8.keep (x4.k3 (by decide) (.bool b8) (.slice A8 n8 c8) (.slice D8 m8 e8));rw [HQ9.out] at h9;exact h9.mono (by have:=HSS.out;omega)),((x1.far (p:=⟨g,0,none⟩) (by show w.heap.size≠g;omega) _).far (p:=⟨g,1,none⟩) (by show w.heap.size≠g;omega) _).far (p:=⟨g,2,none⟩) (by show w.heap.size≠g;omega) _,((x4.set_ 0 _).set_ 1 _).set_ 2 _,((q1_.setCell (p:=⟨g,0,none⟩) (by show w.heap.size≤g;omega) _).setCell (p:=⟨g,1,none⟩) (by show w.heap.size≤g;omega) _).setCell (p:=⟨g,2,none⟩) (by show w.heap.size≤g;omega) _⟩
         case measure=>have:=HLT.out;simp [intOf];omega
       have hi1:((j:Int) < (B.length:Int))=False:=by simp;omega
       have e9:j - (D.length+1)=E.length:=by omega
       rw [e9] at h6;go_wp2_with fail;go_meet;exact ⟨_,_,_,_,_,_,_,x1,x4,h6.mono (by omega),q1_⟩
    have t1:(((c.toNat:Nat):Int) == 46)=false:=(am c 46).trans (by simpa using hc);clear hc;go_wp2_with fail;go_meet;exact ⟨_,_,_,_,_,_,_,x1,x4,h3,q1_⟩
   case rest =>
    clear x1 x4 h3 q1_;obtain ⟨b,A,n,d,D',m',e',x1,x4,h3,q1_⟩:=hcut;rename World=>w9;go_upto_if 82 with fail;go_cut [] (fun wx=>∃ b A n d D' m' e',Blk wx w.heap.size 65 #[.bool false,.slice none 0 0,.slice none 0 0]∧Blk wx g 65 #[.bool b,.slice A n d,.slice D' m' e']∧QV wx b A n d D' m' e' q 500∧Below w.heap.size w wx)
    case first =>
     cases m
     ·obtain rfl:q1=q:=HQ.out (by trivial)
      go_wp2_with fail;go_meet;exact ⟨_,_,_,_,_,_,_,x1,x4,h3.mono (by decide),q1_⟩
     obtain rfl:-q1=q:=HQ.out (by trivial);have y:=x4.v3;go_wp2_with fail;(refine (yC _ b A n d D' m' e' q1 363 h3.qz (by decide) (by decide)).mono ?_);rintro e w10 ⟨b6,A6,n6,c6,D6,m6,e6,rfl,h6,hb10⟩;replace x1:=x1.b hb10;replace x4:=x4.b hb10;replace q1_:=q1_.trans (hb10.mono q1_.size);clear hb10 y;have y:=x4.v3;go_wp2_with fail;go_meet;exact ⟨_,_,_,_,_,_,_,((x1.far (p:=⟨g,0,none⟩) (by show w.heap.size≠g;omega) _).far (p:=⟨g,1,none⟩) (by show w.heap.size≠g;omega) _).far (p:=⟨g,2,none⟩) (by show w.heap.size≠g;omega) _,((x4.set_ 0 _).set_ 1 _).set_ 2 _,(h6.keep (x4.k3 (by decide) _ _ _)).mono (by decide),((q1_.setCell (p:=⟨g,0,none⟩) (by show w.heap.size≤g;omega) _).setCell (p:=⟨g,1,none⟩) (by show w.heap.size≤g;omega) _).setCell (p:=⟨g,2,none⟩) (by show w.heap.size≤g;omega) _⟩
    case rest =>
     clear x1 x4 h3 q1_;obtain ⟨b,A,n,d,D',m',e',x1,x4,h3,q1_⟩:=hcut;rename World=>w11;have y:=And.intro x1.v3 x4.v3;go_wp2_with fail;refine bodyPost_ret (v:=.tuple #[.agg #[.bool b,.slice A n d,.slice D' m' e'],.int .i64 0]) (by simp [results,Tryz.results157,go_sem, *] <;> trivial) rfl ?_;exact ⟨_,_,_,_,_,_,_,rfl,h3.keep (x1.k3 (by decide) _ _ _),((q1_.setCell (p:=⟨w.heap.size,0,none⟩) Qr _).setCell (p:=⟨w.heap.size,1,none⟩) Qr _).setCell (p:=⟨w.heap.size,2,none⟩) Qr _⟩
theorem tW (w:World) (s:List UInt8) (x:Int) (q:Rat) (h:lQ s x q):Calls Tryz.prog 157 #[ae s] w (dZ w (.int .i64 x) q 500):=by
 have hm:∀ {v:Value}{e:Ending}{w':World},dZ w v q 1 e w'→dZ w v q 500 e w':=fun h=>by
  obtain ⟨b,A,n,c,A',n',c',h1,h2,h3⟩:=h;exact ⟨b,A,n,c,A',n',c',h1,h2.mono (by decide),h3⟩
 rcases h with ⟨h,rfl,rfl⟩ | ⟨h,hb,rfl,rfl⟩ | ⟨m,D,h,hn,hD,hs,rfl,rfl⟩ | ⟨m,D,E,h,hn,hD,hE,hs,h0,rfl,rfl⟩ | ⟨m,D,E,h,hn,hD,hE,hs,h0,rfl,rfl⟩ | ⟨m,D,E,h,hn,hD,hE,hs,rfl,rfl⟩
 ·exact (mH w s h).mono fun _ _ r=>hm r
 ·exact (qg w s h hb).mono fun _ _ r=>hm r
 ·exact iO w s m D [] h hn hD (by rw [List.append_nil];exact hs) 0 _ (.whole rfl rfl rfl) _ (fun _=>by cases m <;> simp [sgI]) (fun h=>absurd rfl h)
 ·exact iO w s m D (47 :: E) h hn hD hs 8 0 (.zero E hE rfl h0 rfl rfl) 0 (fun h=>absurd h (by decide)) (fun _=>rfl)
 ·exact iO w s m D (47 :: E) h hn hD hs 0 _ (.quo E hE rfl h0 rfl rfl) _ (fun _=>by
   have e:((aj D:Int):Rat) / ((aj E:Int):Rat)=Rat.divInt (aj D) (aj E):=by rw [Rat.divInt_eq_div]
   rw [e];cases m
   ·rfl
   exact sB _ _) (fun h=>absurd rfl h)
 exact iO w s m D (46 :: E) h hn hD hs 0 _ (.dot E hE rfl rfl rfl) _ (fun _=>by
 cases m
 ·rfl
 exact sB _ _) (fun h=>absurd rfl h)
def aL (l:List Tkn) (p:Nat) (x:Int) (text:List UInt8):Bool:=decide (x=0) && match l[p]? with | some t=>!(t.kind == 1) && (t.text == text) | none=>false
def bE (l:List Tkn) (p:Nat) (x:Int) (k:Nat):Bool:=decide (x=0) && match l[p]? with | some t=>t.kind == k | none=>false
def takeF (l:List Tkn) (p:Nat) (x:Int) (may:Bool):Nat × Int × List UInt8 :=
  if x≠0 then (p,x,[]) else match l[p]? with
    | none=>(p,18,[])
    | some t=>if may then (p+1,0,t.text) else (p,2,[])
theorem TkS.none_ {w:World}{A:Option Addr}{n c:Nat}{l:List Tkn}(h:TkS w A n c l) {p:Nat}(hp:n≤p):l[p]?=none:=List.getElem?_eq_none (by rw [h.1];exact hp)
theorem iP (w:World) (A:Option Addr) (n c:Nat) (l:List Tkn) (h:TkS w A n c l) (hn:n≤65536) (p:Nat) (hp:p≤n) (x:Int) (Ln:List UInt8) (B1:Option Addr) (m1 e1:Nat) (B2:Option Addr) (m2 e2:Nat) (B3:Option Addr) (m3 e3:Nat) (text:List UInt8) (v:Bool) (hv:aL l p x text=v) :
 Calls Tryz.prog 82 #[.agg #[.slice A n c,.int .i64 (p:Nat),.int .i64 x,ae Ln,.slice B1 m1 e1,.slice B2 m2 e2,.slice B3 m3 e3],ae text] w (av w (.bool v)):=by
 have HV:=Qh hv;clear hv;by_cases hx:x=0
 ·subst hx
  rcases Nat.lt_or_ge p n with hlt | hge
  ·obtain ⟨g,t,e,_,ht,d0,d1,_,_⟩:=h.cells hlt
   subst e;have hp1:((p:Int) < (n:Int))=True:=by simp;omega
   have hv:=HV.out;unfold aL at hv;rw [ht] at hv;have htt:=az t.text;have htx:=az text;have hgw:g < w.heap.size:=World.block_lt_of_cell? w ⟨g,p * 4,none⟩ d0;have hgn:¬ g=w.heap.size:=by omega
   clear h ht HV;by_cases hk:t.kind=1
   ·have hk1:((t.kind:Int) == 1)=true:=by simp [hk]
    have hk2:((t.kind:Int)=1)=True:=by simp [hk]
    have e:v=false:=by rw [← hv];simp [hk]
    subst e;clear hv hk;go_in;go_wp2;go_ret;exact ⟨rfl,(aa w).alloc Qr _⟩
   have hk1:((t.kind:Int) == 1)=false:=beq_eq_false_iff_ne.2 (by omega);have hk2:((t.kind:Int)=1)=False:=by simp;omega
   have hk3:((t.kind:Int) != 1)=true:=by unfold bne;rw [hk1];rfl
   have e:(t.text == text)=v:=by rw [← hv];simp [hk]
   clear hv hk;go_in;go_wp2;go_ret;exact ⟨rfl,(aa w).alloc Qr _⟩
  have hp1:((p:Int) < (n:Int))=False:=by simp;omega
  have e:v=false:=by rw [← HV.out];unfold aL;rw [h.none_ hge];rfl
  subst e;clear h;go_in;go_wp2;go_ret;exact ⟨rfl,(aa w).alloc Qr _⟩
 have hx1:(x == 0)=false:=beq_eq_false_iff_ne.2 hx;have e:v=false:=by rw [← HV.out];unfold aL;simp [hx]
 subst e;clear h hx;go_in;go_wp2;go_ret;exact ⟨rfl,(aa w).alloc Qr _⟩
theorem sD (w:World) (A:Option Addr) (n c:Nat) (l:List Tkn) (h:TkS w A n c l) (hn:n≤65536) (p:Nat) (hp:p≤n) (x:Int) (Ln:List UInt8) (B1:Option Addr) (m1 e1:Nat) (B2:Option Addr) (m2 e2:Nat) (B3:Option Addr) (m3 e3:Nat) (k:Nat) (z:Int) (hz:z=(k:Int)) (v:Bool) (hv:bE l p x k=v) :
 Calls Tryz.prog 83 #[.agg #[.slice A n c,.int .i64 (p:Nat),.int .i64 x,ae Ln,.slice B1 m1 e1,.slice B2 m2 e2,.slice B3 m3 e3],.int .i64 z] w (av w (.bool v)):=by
 subst hz;have HV:=Qh hv;clear hv;by_cases hx:x=0
 ·subst hx
  rcases Nat.lt_or_ge p n with hlt | hge
  ·obtain ⟨g,t,e,_,ht,d0,d1,_,_⟩:=h.cells hlt
   subst e;have hp1:((p:Int) < (n:Int))=True:=by simp;omega
   have hv:=HV.out;unfold bE at hv;rw [ht] at hv;have hgw:g < w.heap.size:=World.block_lt_of_cell? w ⟨g,p * 4,none⟩ d0;have hgn:¬ g=w.heap.size:=by omega
   have e:((t.kind:Int) == (k:Int))=v:=by
    rw [← hv];simp only [decide_true,Bool.true_and];rw [Bool.eq_iff_iff,beq_iff_eq,beq_iff_eq];omega
   clear h ht HV hv;go_in;go_wp2;go_ret;exact ⟨rfl,(aa w).alloc Qr _⟩
  have hp1:((p:Int) < (n:Int))=False:=by simp;omega
  have e:v=false:=by rw [← HV.out];unfold bE;rw [h.none_ hge];rfl
  subst e;clear h;go_in;go_wp2;go_ret;exact ⟨rfl,(aa w).alloc Qr _⟩
 have hx1:(x == 0)=false:=beq_eq_false_iff_ne.2 hx;have e:v=false:=by rw [← HV.out];unfold bE;simp [hx]
 subst e;clear h hx;go_in;go_wp2;go_ret;exact ⟨rfl,(aa w).alloc Qr _⟩
theorem bT {l:List Tkn}{p:Nat}{x:Int}{may:Bool}(hp:p≤l.length):(takeF l p x may).1≤l.length:=by
 unfold takeF;split
 ·exact hp
 split
 ·exact hp
 rename_i t ht;have:=(List.getElem?_eq_some_iff.1 ht).1;split
 ·show p+1≤_
  omega
 exact hp
theorem kW (w:World) (A:Option Addr) (n c:Nat) (l:List Tkn) (h:TkS w A n c l) (hn:n≤65536) (p:Nat) (hp:p≤n) (x:Int) (Ln:List UInt8) (B1:Option Addr) (m1 e1:Nat) (B2:Option Addr) (m2 e2:Nat) (B3:Option Addr) (m3 e3:Nat) (may:Bool) :
 Calls Tryz.prog 81 #[.agg #[.slice A n c,.int .i64 (p:Nat),.int .i64 x,ae Ln,.slice B1 m1 e1,.slice B2 m2 e2,.slice B3 m3 e3],.bool may] w (av w (.tuple #[.agg #[.slice A n c,.int .i64 ((takeF l p x may).1:Nat),.int .i64 (takeF l p x may).2.1,ae Ln,.slice B1 m1 e1,.slice B2 m2 e2,.slice B3 m3 e3],ae (takeF l p x may).2.2])):=by
 by_cases hx:x=0
 ·subst hx
  rcases Nat.lt_or_ge p n with hlt | hge
  ·obtain ⟨g,t,e,_,ht,d0,d1,_,_⟩:=h.cells hlt
   subst e;have hp1:((p:Int) == (n:Int))=false:=beq_eq_false_iff_ne.2 (by omega);have hp2:((p:Int)=(n:Int))=False:=by simp;omega
   have hgw:g < w.heap.size:=World.block_lt_of_cell? w ⟨g,p * 4,none⟩ d0;have hgn:¬ g=w.heap.size:=by omega
   have hgn1:¬ g=w.heap.size+1:=by omega
   cases may
   ·have e:takeF l p 0 false=(p,2,[]):=by unfold takeF;rw [ht];simp
    rw [e];clear h ht e;go_in;go_wp2_with fail;refine bodyPost_ret (v:=.tuple #[.agg #[.slice (some ⟨g,0,none⟩) n c,.int .i64 (p:Nat),.int .i64 2,ae Ln,.slice B1 m1 e1,.slice B2 m2 e2,.slice B3 m3 e3],ae []]) (by simp [results,Tryz.results81,go_sem, *] <;> trivial) rfl ?_;exact ⟨rfl,((aa w).alloc Qr _).alloc (by simp) _⟩
   have e:takeF l p 0 true=(p+1,0,t.text):=by unfold takeF;rw [ht];simp
   have hpp:(((p+1:Nat):Int))=(p:Int)+1:=by omega
   have hpw:wrap64 ((p:Int)+1)=(p:Int)+1:=by unfold wrap64;omega
   have hpw2:wrap64 ((p:Int)+1 - 1)=(p:Int):=by unfold wrap64;omega
   rw [e,hpp];clear h ht e hpp;go_in;go_wp2_with fail;go_region
   all_goals
    go_wp2_with fail;refine bodyPost_ret (v:=.tuple #[.agg #[.slice (some ⟨g,0,none⟩) n c,.int .i64 ((p:Int)+1),.int .i64 0,ae Ln,.slice B1 m1 e1,.slice B2 m2 e2,.slice B3 m3 e3],ae t.text]) (by simp [results,Tryz.results81,go_sem, *] <;> trivial) rfl ?_;exact ⟨rfl,by first | exact ((aa w).alloc Qr _).alloc (by simp) _ | exact (((aa w).alloc Qr _).alloc (by simp) _).drew⟩
  have e:takeF l p 0 may=(p,18,[]):=by unfold takeF;rw [h.none_ hge];simp
  rw [e];obtain rfl:p=n:=by omega
  have hp1:((p:Int) == (p:Int))=true:=by simp
  clear h e;go_in;go_wp2_with fail;refine bodyPost_ret (v:=.tuple #[.agg #[.slice A p c,.int .i64 (p:Nat),.int .i64 18,ae Ln,.slice B1 m1 e1,.slice B2 m2 e2,.slice B3 m3 e3],ae []]) (by simp [results,Tryz.results81,go_sem, *] <;> trivial) rfl ?_;exact ⟨rfl,((aa w).alloc Qr _).alloc (by simp) _⟩
 have e:takeF l p x may=(p,x,[]):=if_pos hx;rw [e];have hx1:(x == 0)=false:=beq_eq_false_iff_ne.2 hx;have hx2:(x=0)=False:=eq_false hx;clear h e hx;go_in;go_wp2_with fail;refine bodyPost_ret (v:=.tuple #[.agg #[.slice A n c,.int .i64 (p:Nat),.int .i64 x,ae Ln,.slice B1 m1 e1,.slice B2 m2 e2,.slice B3 m3 e3],ae []]) (by simp [results,Tryz.results81,go_sem, *] <;> trivial) rfl ?_;exact ⟨rfl,((aa w).alloc Qr _).alloc (by simp) _⟩
def TR (W w:World) (gx gy:Nat) (A:Option Addr) (n c:Nat) (l:List Tkn) (cx cz cy:Array Value) (k:Nat) (wq:World):Prop :=
  Below W.heap.size W wq∧TkS wq A n c l∧Blk wq gx 94 cx∧w.heap.size≤wq.heap.size∧((k < 3∧Blk wq gy 94 cz)∨(k=3∧Blk wq gy 94 cy))
theorem TR.belw {W w:World}{gx gy:Nat}{A:Option Addr}{n c:Nat}{l:List Tkn}{cx cz cy:Array Value}{k:Nat}{wq w':World}(h:TR W w gx gy A n c l cx cz cy k wq) (hW:W.heap.size≤w.heap.size) (hb:Below wq.heap.size wq w') (hk:k+1 < 3):TR W w gx gy A n c l cx cz cy (k+1) w':=by
 obtain ⟨h1,h2,h3,h4,h5⟩:=h;refine ⟨h1.trans (hb.mono (by omega)),h2.belw hb,h3.below hb h3.lt,Nat.le_trans h4 hb.size,.inl ⟨hk,?_⟩⟩;rcases h5 with ⟨_,h5⟩ | ⟨h5,_⟩
 ·exact h5.below hb h5.lt
 omega
theorem Blk.s70 {w:World}{g t:Nat}{a0 a1 a2 a3 a4 a5 a6:Value}(h:Blk w g t #[a0,a1,a2,a3,a4,a5,a6]) (u:Value):Blk (w.setCell ⟨g,0,none⟩ u) g t #[u,a1,a2,a3,a4,a5,a6]:=h.set_ 0 u
theorem Blk.s71 {w:World}{g t:Nat}{a0 a1 a2 a3 a4 a5 a6:Value}(h:Blk w g t #[a0,a1,a2,a3,a4,a5,a6]) (u:Value):Blk (w.setCell ⟨g,1,none⟩ u) g t #[a0,u,a2,a3,a4,a5,a6]:=h.set_ 1 u
theorem Blk.s72 {w:World}{g t:Nat}{a0 a1 a2 a3 a4 a5 a6:Value}(h:Blk w g t #[a0,a1,a2,a3,a4,a5,a6]) (u:Value):Blk (w.setCell ⟨g,2,none⟩ u) g t #[a0,a1,u,a3,a4,a5,a6]:=h.set_ 2 u
theorem Blk.s73 {w:World}{g t:Nat}{a0 a1 a2 a3 a4 a5 a6:Value}(h:Blk w g t #[a0,a1,a2,a3,a4,a5,a6]) (u:Value):Blk (w.setCell ⟨g,3,none⟩ u) g t #[a0,a1,a2,u,a4,a5,a6]:=h.set_ 3 u
theorem Blk.s74 {w:World}{g t:Nat}{a0 a1 a2 a3 a4 a5 a6:Value}(h:Blk w g t #[a0,a1,a2,a3,a4,a5,a6]) (u:Value):Blk (w.setCell ⟨g,4,none⟩ u) g t #[a0,a1,a2,a3,u,a5,a6]:=h.set_ 4 u
theorem Blk.s75 {w:World}{g t:Nat}{a0 a1 a2 a3 a4 a5 a6:Value}(h:Blk w g t #[a0,a1,a2,a3,a4,a5,a6]) (u:Value):Blk (w.setCell ⟨g,5,none⟩ u) g t #[a0,a1,a2,a3,a4,u,a6]:=h.set_ 5 u
theorem Blk.s76 {w:World}{g t:Nat}{a0 a1 a2 a3 a4 a5 a6:Value}(h:Blk w g t #[a0,a1,a2,a3,a4,a5,a6]) (u:Value):Blk (w.setCell ⟨g,6,none⟩ u) g t #[a0,a1,a2,a3,a4,a5,u]:=h.set_ 6 u
theorem TR.fin {W w:World}{gx gy:Nat}{A:Option Addr}{n c:Nat}{l:List Tkn}{cx:Array Value}{z0 z1 z2 z3 z4 z5 z6 b0 b1 b2 b3 b4 b5 b6:Value}{wq:World}(h:TR W w gx gy A n c l cx #[z0,z1,z2,z3,z4,z5,z6] #[b0,b1,b2,b3,b4,b5,b6] 2 wq) (hk:TkS W A n c l) (hxy:gx≠gy) (hgy:W.heap.size≤gy) :
 TR W w gx gy A n c l cx #[z0,z1,z2,z3,z4,z5,z6] #[b0,b1,b2,b3,b4,b5,b6] 3 (((((((wq.setCell ⟨gy,0,none⟩ b0).setCell ⟨gy,1,none⟩ b1).setCell ⟨gy,2,none⟩ b2).setCell ⟨gy,3,none⟩ b3).setCell ⟨gy,4,none⟩ b4).setCell ⟨gy,5,none⟩ b5).setCell ⟨gy,6,none⟩ b6):=by
 obtain ⟨h1,_,h3,h4,h5⟩:=h;have hb:=(((((((h1.setCell (p:=⟨gy,0,none⟩) hgy b0).setCell (p:=⟨gy,1,none⟩) hgy b1).setCell (p:=⟨gy,2,none⟩) hgy b2).setCell (p:=⟨gy,3,none⟩) hgy b3).setCell (p:=⟨gy,4,none⟩) hgy b4).setCell (p:=⟨gy,5,none⟩) hgy b5).setCell (p:=⟨gy,6,none⟩) hgy b6);rcases h5 with ⟨_,h5⟩ | ⟨h5,_⟩
 ·exact ⟨hb,hk.belw hb,(((((((h3.far (p:=⟨gy,0,none⟩) hxy b0).far (p:=⟨gy,1,none⟩) hxy b1).far (p:=⟨gy,2,none⟩) hxy b2).far (p:=⟨gy,3,none⟩) hxy b3).far (p:=⟨gy,4,none⟩) hxy b4).far (p:=⟨gy,5,none⟩) hxy b5).far (p:=⟨gy,6,none⟩) hxy b6),by simp [World.setCell,h4],.inr ⟨rfl,(((((((h5.s70 b0).s71 b1).s72 b2).s73 b3).s74 b4).s75 b5).s76 b6)⟩⟩
 omega
theorem TR.y {W w:World}{gx gy:Nat}{A:Option Addr}{n c:Nat}{l:List Tkn}{cx cz cy:Array Value}{wq:World}(h:TR W w gx gy A n c l cx cz cy 2 wq):Blk wq gy 94 cz:=by
 rcases h.2.2.2.2 with ⟨_,h5⟩ | ⟨h5,_⟩
 ·exact h5
 omega
theorem TR.tk {W w:World}{gx gy:Nat}{A:Option Addr}{n c:Nat}{l:List Tkn}{cx cz cy:Array Value}{k:Nat}{wq:World}(h:TR W w gx gy A n c l cx cz cy k wq):TkS wq A n c l:=h.2.1
theorem TR.drew {W w:World}{gx gy:Nat}{A:Option Addr}{n c:Nat}{l:List Tkn}{cx cz cy:Array Value}{k:Nat}{wq:World}(h:TR W w gx gy A n c l cx cz cy k wq):TR W w gx gy A n c l cx cz cy k wq.drew :=
 ⟨h.1.drew,h.2.1,h.2.2.1,h.2.2.2.1,h.2.2.2.2⟩
theorem gn (w:World) (A:Option Addr) (n c:Nat) (l:List Tkn) (h:TkS w A n c l) (hn:n≤65536) (p:Nat) (hp:p≤n) (x:Int) (Ln:List UInt8) (B1:Option Addr) (m1 e1:Nat) (B2:Option Addr) (m2 e2:Nat) (B3:Option Addr) (m3 e3:Nat) (T:Nat × Int × List UInt8) (hT:takeF l p x (bE l p x 0)=T) :
 Calls Tryz.prog 45 #[.agg #[.slice A n c,.int .i64 (p:Nat),.int .i64 x,ae Ln,.slice B1 m1 e1,.slice B2 m2 e2,.slice B3 m3 e3]] w (av w (.tuple #[.agg #[.slice A n c,.int .i64 (T.1:Nat),.int .i64 T.2.1,ae Ln,.slice B1 m1 e1,.slice B2 m2 e2,.slice B3 m3 e3],ae T.2.2])):=by
 have HT:=Qh hT;have HK:=Qh h;clear hT h;go_in;go_wp2_with fail;have hX:=(Blk.new w 94 #[.slice A n c,.int .i64 (p:Nat),.int .i64 x,ae Ln,.slice B1 m1 e1,.slice B2 m2 e2,.slice B3 m3 e3]).alloc (.cells #[.slice none 0 0,.int .i64 0,.int .i64 0,.string ⟨#[]⟩,.slice none 0 0,.slice none 0 0,.slice none 0 0] 94);have hY:=Blk.new (w.alloc (.cells #[.slice A n c,.int .i64 (p:Nat),.int .i64 x,ae Ln,.slice B1 m1 e1,.slice B2 m2 e2,.slice B3 m3 e3] 94)) 94 #[.slice none 0 0,.int .i64 0,.int .i64 0,.string ⟨#[]⟩,.slice none 0 0,.slice none 0 0,.slice none 0 0];have hB:=((aa w).alloc Qr (.cells #[.slice A n c,.int .i64 (p:Nat),.int .i64 x,ae Ln,.slice B1 m1 e1,.slice B2 m2 e2,.slice B3 m3 e3] 94)).alloc (by simp) (.cells #[.slice none 0 0,.int .i64 0,.int .i64 0,.string ⟨#[]⟩,.slice none 0 0,.slice none 0 0,.slice none 0 0] 94);have h0:TR w ((w.alloc (.cells #[.slice A n c,.int .i64 (p:Nat),.int .i64 x,ae Ln,.slice B1 m1 e1,.slice B2 m2 e2,.slice B3 m3 e3] 94)).alloc (.cells #[.slice none 0 0,.int .i64 0,.int .i64 0,.string ⟨#[]⟩,.slice none 0 0,.slice none 0 0,.slice none 0 0] 94)) w.heap.size (w.heap.size+1) A n c l #[.slice A n c,.int .i64 (p:Nat),.int .i64 x,ae Ln,.slice B1 m1 e1,.slice B2 m2 e2,.slice B3 m3 e3] #[.slice none 0 0,.int .i64 0,.int .i64 0,.string ⟨#[]⟩,.slice none 0 0,.slice none 0 0,.slice none 0 0] #[.slice A n c,.int .i64 (T.1:Nat),.int .i64 T.2.1,ae Ln,.slice B1 m1 e1,.slice B2 m2 e2,.slice B3 m3 e3] 0 _:=⟨hB,HK.out.belw hB,hX,Qr,.inl ⟨by decide,by simpa using hY⟩⟩;have H0:=Qh h0;clear hX hY hB h0;generalize (w.alloc (.cells #[.slice A n c,.int .i64 (p:Nat),.int .i64 x,ae Ln,.slice B1 m1 e1,.slice B2 m2 e2,.slice B3 m3 e3] 94)).alloc (.cells #[.slice none 0 0,.int .i64 0,.int .i64 0,.string ⟨#[]⟩,.slice none 0 0,.slice none 0 0,.slice none 0 0] 94)=w2 at H0 ⊢;refine mD [2,3,6] (n:=7) (fr:=fun xf=>⟨List.toArray (.agg #[.slice A n c,.int .i64 (p:Nat),.int .i64 x,ae Ln,.slice B1 m1 e1,.slice B2 m2 e2,.slice B3 m3 e3] :: .pointer (some ⟨w.heap.size,0,none⟩) :: .pointer (some ⟨w.heap.size+1,0,none⟩) :: .string ⟨#[]⟩ :: xf 0 :: xf 1 :: xf 2 :: xf 3 :: xf 4 :: xf 5 :: []),[]⟩) (x0:=fun _=>undef) (R:=fun ri=>List.getD (VE (.agg #[.slice A n c,.int .i64 (p:Nat),.int .i64 x,ae Ln,.slice B1 m1 e1,.slice B2 m2 e2,.slice B3 m3 e3]) :: VE (.agg #[.slice A n c,.int .i64 (p:Nat),.int .i64 x,ae Ln,.slice B1 m1 e1,.slice B2 m2 e2,.slice B3 m3 e3]) :: VE (.bool (bE l p x 0)) :: VE (.tuple #[.agg #[.slice A n c,.int .i64 (T.1:Nat),.int .i64 T.2.1,ae Ln,.slice B1 m1 e1,.slice B2 m2 e2,.slice B3 m3 e3],ae T.2.2]) :: VE (.agg #[.slice A n c,.int .i64 (T.1:Nat),.int .i64 T.2.1,ae Ln,.slice B1 m1 e1,.slice B2 m2 e2,.slice B3 m3 e3]) :: VE (ae T.2.2) :: VA :: []) ri VA) (T:=fun k _ wq=>TR w w2 w.heap.size (w.heap.size+1) A n c l #[.slice A n c,.int .i64 (p:Nat),.int .i64 x,ae Ln,.slice B1 m1 e1,.slice B2 m2 e2,.slice B3 m3 e3] #[.slice none 0 0,.int .i64 0,.int .i64 0,.string ⟨#[]⟩,.slice none 0 0,.slice none 0 0,.slice none 0 0] #[.slice A n c,.int .i64 (T.1:Nat),.int .i64 T.2.1,ae Ln,.slice B1 m1 e1,.slice B2 m2 e2,.slice B3 m3 e3] k wq) (by kernel_rfl) rfl ?_ ?_ ?_ ?_ ?_ ?_ ?_ ?_ ?_ ?_ ?_
 ·exact aG ⟨(fun _ _ _=>rfl),(fun _ _ _=>rfl),(fun _ _ _=>rfl),(fun _ _ _=>rfl),(fun _ _ _=>rfl),(fun _ _ _=>rfl),(fun _ _ _=>rfl),(fun h=>absurd h (by decide)),trivial⟩
 ·exact aG (cd _ 0 (by kernel_rfl))
 ·exact (fun j hj=>gV (by kernel_rfl) hj)
 ·decide
 ·intro j hj
  obtain rfl | rfl | rfl:=(show j=0∨j=1∨j=2 by simp at hj;omega)
  ·exact ⟨2,rfl,rfl⟩
  ·exact ⟨3,rfl,rfl⟩
  exact ⟨6,rfl,rfl⟩
 ·intro i o j ho hj
  have hlt:=eJ hj;obtain rfl | rfl:=(show j=0∨j=1 by simp at hlt;omega)
  ·injection hj with hj;subst hj
   injection ho with ho;subst ho;exact ⟨⟨2,.data⟩,by simp,rfl,rfl⟩
  injection hj with hj;subst hj;injection ho with ho;subst ho;exact ⟨⟨3,.chain⟩,by simp,rfl,rfl⟩
 ·exact fun _ _ _ _ _ _ h=>h
 ·exact H0.out.drew
 ·refine aG ⟨?_,?_,(fun _ h=>absurd (by decide) h),(fun _ h=>absurd (by decide) h),?_,?_,(fun _ h=>absurd (by decide) h),(fun h=>absurd h (by decide)),trivial⟩
  ·intro _ _ k xf wq hT hd K hK
   obtain ⟨x0,x1,x2,x3,x4,x5,x6⟩:=hT.2.2.1.c7;(try dsimp only);go_simp;have hz:=hK.out _ rfl;exact hz
  ·intro _ _ k xf wq hT hd K hK
   obtain ⟨x0,x1,x2,x3,x4,x5,x6⟩:=hT.2.2.1.c7;(try dsimp only);go_simp;have hz:=hK.out _ rfl;exact hz
  ·intro _ _ k xf wq hT hd K hK
   have dq3:xf 3=.tuple #[.agg #[.slice A n c,.int .i64 (T.1:Nat),.int .i64 T.2.1,ae Ln,.slice B1 m1 e1,.slice B2 m2 e2,.slice B3 m3 e3],ae T.2.2]:=hd ⟨3,.data⟩ (by simp) rfl;(try dsimp only);(try simp only [dq3]);go_simp;have hz:=hK.out _ rfl;dsimp only at hz;simp only [dq3] at hz;exact hz
  intro _ _ k xf wq hT hd K hK;have dq3:xf 3=.tuple #[.agg #[.slice A n c,.int .i64 (T.1:Nat),.int .i64 T.2.1,ae Ln,.slice B1 m1 e1,.slice B2 m2 e2,.slice B3 m3 e3],ae T.2.2]:=hd ⟨3,.data⟩ (by simp) rfl;(try dsimp only);(try simp only [dq3]);go_simp;have hz:=hK.out _ rfl;dsimp only at hz;simp only [dq3] at hz;exact hz
 ·intro k i o hk ho
  have hlt:=eJ hk;obtain rfl | rfl | rfl:=(show k=0∨k=1∨k=2 by simp at hlt;omega)
  ·injection hk with hk;subst hk
   injection ho with ho;subst ho;intro xf wq hT hd K hK;have dq1:xf 1=.agg #[.slice A n c,.int .i64 (p:Nat),.int .i64 x,ae Ln,.slice B1 m1 e1,.slice B2 m2 e2,.slice B3 m3 e3]:=hd ⟨1,.data⟩ (by simp) rfl;(try dsimp only);(try simp only [dq1]);go_simp;go_at_call 83;(with_reducible refine (sD _ A n c l hT.tk hn p hp x Ln B1 m1 e1 B2 m2 e2 B3 m3 e3 0 0 rfl _ rfl).mono ?_);rintro e wr ⟨rfl,hb⟩;have hz:=hK.out _ _ rfl (hT.belw H0.out.1.size hb (by decide));dsimp only at hz;simp only [dq1] at hz;exact hz
  ·injection hk with hk;subst hk
   injection ho with ho;subst ho;intro xf wq hT hd K hK;have dq0:xf 0=.agg #[.slice A n c,.int .i64 (p:Nat),.int .i64 x,ae Ln,.slice B1 m1 e1,.slice B2 m2 e2,.slice B3 m3 e3]:=hd ⟨0,.data⟩ (by simp) rfl;have dq2:xf 2=.bool (bE l p x 0):=hd ⟨2,.data⟩ (by simp) rfl;(try dsimp only);(try simp only [dq0,dq2]);go_simp;go_at_call 81;(with_reducible refine (kW _ A n c l hT.tk hn p hp x Ln B1 m1 e1 B2 m2 e2 B3 m3 e3 (bE l p x 0)).mono ?_);rintro e wr ⟨he,hb⟩;rw [HT.out] at he;subst he;have hz:=hK.out _ _ rfl (hT.belw H0.out.1.size hb (by decide));dsimp only at hz;simp only [dq0,dq2] at hz;exact hz
  injection hk with hk;subst hk;injection ho with ho;subst ho;intro xf wq hT hd K hK;have dq4:xf 4=.agg #[.slice A n c,.int .i64 (T.1:Nat),.int .i64 T.2.1,ae Ln,.slice B1 m1 e1,.slice B2 m2 e2,.slice B3 m3 e3]:=hd ⟨4,.data⟩ (by simp) rfl;have hy:=TR.y hT;obtain ⟨y0,y1,y2,y3,y4,y5,y6⟩:=hy.c7;have f0:=hy.f7;(try dsimp only);(try simp only [dq4]);go_simp;have hz:=hK.out undef _ trivial (TR.fin hT HK.out (by omega) (by omega));dsimp only at hz;simp only [dq4] at hz;exact hz
 intro o ho xf wq hT hr K hK;injection ho with ho;subst ho;have dq5:xf 5=ae T.2.2:=hr 5 (by decide);have hT:TR w w2 w.heap.size (w.heap.size+1) A n c l _ _ _ 3 wq:=hT;have hb:=hT.1
 have hy:Blk wq (w.heap.size+1) 94 #[.slice A n c,.int .i64 (T.1:Nat),.int .i64 T.2.1,ae Ln,.slice B1 m1 e1,.slice B2 m2 e2,.slice B3 m3 e3]:=by
  rcases hT.2.2.2.2 with ⟨h5,_⟩ | ⟨_,h5⟩
  ·omega
  exact h5
 obtain ⟨y0,y1,y2,y3,y4,y5,y6⟩:=hy.c7;(try dsimp only);(try simp only [dq5]);go_simp;refine hK.out _ _ ?_;go_wp2_with fail;refine bodyPost_ret (v:=.tuple #[.agg #[.slice A n c,.int .i64 (T.1:Nat),.int .i64 T.2.1,ae Ln,.slice B1 m1 e1,.slice B2 m2 e2,.slice B3 m3 e3],ae T.2.2]) (by simp [results,Tryz.results45,go_sem, *] <;> trivial) rfl ?_;exact ⟨rfl,hb⟩
section
variable (P:Program) (ops:Array Oper) (Q:Exit→Act→World→Prop) (fr:(Nat→Value)→Act) (R:Nat→Value→Prop) (T:Nat→(Nat→Value)→World→Prop)
def nK (b i:Nat) (o:Oper):Prop :=
  ∀ k x wq,k≤b→T k x wq→(∀ e∈o.after,Region.binds .any e=true→R e.on (x e.on))→∀ K':Act→World→Prop,Shut (∀ v,R i v→K' ((fr x).put o.dst v) wq) →
      if Region.wanted o (yielded ops (fr x).tmps)=true then Oper.wp P o (fr x) wq K' Q else K' ((fr x).put o.dst undef) wq
end
section
variable {P:Program}{ops:Array Oper}{Q:Exit→Act→World→Prop}{fr:(Nat→Value)→Act}{R:Nat→Value→Prop}{T:Nat→(Nat→Value)→World→Prop}{st:Nat→Option Nat}{K:Nat}{id:Nat}{w:World}{x0:Nat→Value}
theorem mI (bd:Nat→Nat) (hm:P.follows .mixedOrders=true)
 (hput:∀ i o,ops[i]?=some o→∀ x v,(fr x).put o.dst v=fr (upd x i v))
 (hac:∀ i o,ops[i]?=some o→∀ e∈o.after,Region.binds .any e=true→e.on < i)
 (hst:∀ i j,st i=some j→i < ops.size∧j < K)
 (hinj:∀ i i' j,st i=some j→st i'=some j→i=i')
 (hall:∀ j,j < K→∃ i,st i=some j)
 (hchain:∀ i o j,ops[i]?=some o→st i=some (j+1)→∃ e∈o.after,Region.binds .any e=true∧st e.on=some j)
 (hT:∀ k x i v w,st i=none→T k x w→T k (upd x i v) w)
 (h0:T 0 x0 w.drew)
 (hbd:∀ i,st i=none→K≤bd i∨∃ i' o',st i'=some (bd i)∧ops[i']?=some o'∧∃ e∈o'.after,Region.binds .any e=true∧e.on=i)
 (hpure:∀ i o,ops[i]?=some o→st i=none→nK P ops Q fr R T (bd i) i o)
 (hstage:∀ i o k,ops[i]?=some o→st i=some k→fW P ops Q fr R T k i o)
 (hend:∀ x wq,T K x wq→(∀ j,j < ops.size→R j (x j))→Q .normal (fr x) wq) :
 (Code.region id ops true).wp P Q (fr x0) w:=by
 refine wp_region_any hm (im (fun L a w'=>AV ops fr R T st K L a w') ?_ ?_ _ _ _ _ (by simp) ?_ ?_)
 ·rintro L a w1 i hs hi ⟨x,k,rfl,hkK,hTk,hLk,hr,hcl⟩
  obtain ⟨hun,o,ho,hall'⟩:=mem_ready.1 hi
  have hlt:i < L.size:=by
   rcases Nat.lt_or_ge i L.size with h | h
   ·exact h
   rw [Array.getD_eq_getD_getElem?,Array.getElem?_eq_none h] at hun;cases hun
  have hunf:L.getD i false=false:=by
   rw [Array.getD_eq_getD_getElem?,Array.getElem?_eq_getElem hlt] at hun ⊢;exact hun
  have hdep:∀ e∈o.after,Region.binds .any e=true→R e.on (x e.on):=fun e he hbd=>hr _ (hall' e he hbd)
  refine wpOp_step ho fun K' hK=>?_
  have hr':∀ v,R i v→∀ j,(L.setIfInBounds i true).getD j false=true→R j (upd x i v j):=by
   intro v hv j hj;by_cases h:j=i
   ·subst h;rw [di];exact hv
   rw [aH _ _ h];rw [ai hlt] at hj;exact hr j (by simpa [h] using hj)
  cases hsi:st i with
  | none =>
   have hkb:k≤bd i:=by
    rcases hbd i hsi with h | ⟨i',o',h1,h2,e,he,hb,hon⟩
    ·omega
    rcases Nat.lt_or_ge (bd i) k with h | h
    ·have h3:=(hLk i' (bd i) h1).2 h
     have h4:=hcl i' o' h2 h3 e he hb;rw [hon,hunf] at h4;cases h4
    exact h
   refine hpure i o ho hsi k x w1 hkb hTk hdep K' (fun v hRv=>hK _ _ ⟨upd x i v,k,hput i o ho x v,hkK,hT _ _ _ _ _ hsi hTk,fun i' j hj=>?_,hr' v hRv,jU hlt ho hall' hcl⟩);have hne:i'≠i:=by rintro rfl;rw [hsi] at hj;cases hj
   rw [ai hlt,← hLk i' j hj];simp [hne]
  | some j0 =>
   have hk:k=j0:=by
    have h1:¬ j0 < k:=fun h=>by
     have:=(hLk i j0 hsi).2 h;rw [hunf] at this;cases this
    cases j0 with
    | zero=>omega
    | succ j =>
     obtain ⟨e,he,hbd,hse⟩:=hchain i o j ho hsi;have:=(hLk e.on j hse).1 (hall' e he hbd);omega
   subst hk;refine hstage i o k ho hsi x w1 hTk hdep K' (fun v w' hRv hTv=>hK _ _ ⟨upd x i v,k+1,hput i o ho x v,(hst i k hsi).2,hTv,fun i' j hj=>?_,hr' v hRv,jU hlt ho hall' hcl⟩);rw [ai hlt];by_cases h:i'=i
   ·subst h
    rw [hsi] at hj;injection hj with hj;subst hj;simp
   have hjk:j≠k:=fun e=>h (hinj _ _ _ hj (by rw [e];exact hsi))
   rw [show (decide (i'=i) || L.getD i' false)=L.getD i' false by simp [h],hLk i' j hj];omega
 ·rintro L a w1 hs hr0 ⟨x,k,rfl,hkK,hTk,hLk,hr,hcl⟩
  have hallL:∀ i,i < ops.size→L.getD i false=true:=by
   intro i
   induction i using Nat.strongRecOn with
   | ind i ih =>
    intro hi;cases h:L.getD i false
    ·exfalso
     have:i∈Region.ready .any ops L:=by
      refine mem_ready.2 ⟨?_,ops[i],Array.getElem?_eq_getElem hi,fun e he hbd=>?_⟩
      ·rw [Array.getD_eq_getD_getElem?,Array.getElem?_eq_getElem (by omega)] at h ⊢;exact h
      have h1:=hac i _ (Array.getElem?_eq_getElem hi) e he hbd;exact ih e.on h1 (by omega)
     rw [hr0] at this;cases this
    rfl
  have hkk:k=K:=by
   rcases Nat.lt_or_ge k K with h | h
   ·obtain ⟨i',hi'⟩:=hall k h
    have:=(hLk i' k hi').1 (hallL i' (hst i' k hi').1);omega
   omega
  subst hkk;exact hend x w1 hTk (fun j hj=>hr j (hallL j hj))
 ·simp
 ·have hz:∀ j,(Array.replicate ops.size false).getD j false=false:=by
   intro j;rw [Array.getD_eq_getD_getElem?,Array.getElem?_replicate];split <;> rfl
  refine ⟨x0,0,rfl,Nat.zero_le _,h0,fun i j hj=>?_,fun i h=>?_,fun i o _ h=>?_⟩
  ·rw [hz];simp
  ·rw [hz] at h;cases h
  rw [hz] at h;cases h
end
section
variable {P:Program}{ops:Array Oper}{Q:Exit→Act→World→Prop}{fr:(Nat→Value)→Act}{R:Nat→Value→Prop}{T:Nat→(Nat→Value)→World→Prop}{id:Nat}{w:World}{x0:Nat→Value}
theorem dW (sl:List Nat) (bd:Nat→Nat) (hm:P.follows .mixedOrders=true)
 (hput:∀ i o,ops[i]?=some o→∀ x v,(fr x).put o.dst v=fr (upd x i v))
 (hac:∀ i o,ops[i]?=some o→∀ e∈o.after,Region.binds .any e=true→e.on < i)
 (hsl:∀ i∈sl,i < ops.size) (hidx:∀ j,j < sl.length→∃ i,sl[j]?=some i∧stl sl i=some j)
 (hchain:∀ i o j,ops[i]?=some o→sl[j+1]?=some i→∃ e∈o.after,Region.binds .any e=true∧stl sl e.on=some j)
 (hT:∀ k x i v w,i ∉ sl→T k x w→T k (upd x i v) w)
 (h0:T 0 x0 w.drew)
 (hbd:∀ i,i ∉ sl→sl.length≤bd i∨∃ i' o',stl sl i'=some (bd i)∧ops[i']?=some o'∧∃ e∈o'.after,Region.binds .any e=true∧e.on=i)
 (hpure:∀ i o,ops[i]?=some o→i ∉ sl→nK P ops Q fr R T (bd i) i o)
 (hstage:∀ k i o,sl[k]?=some i→ops[i]?=some o→fW P ops Q fr R T k i o)
 (hend:∀ x wq,T sl.length x wq→(∀ j,j < ops.size→R j (x j))→Q .normal (fr x) wq) :
 (Code.region id ops true).wp P Q (fr x0) w :=
 mI (R:=R) (T:=T) (st:=stl sl) (K:=sl.length) bd hm hput hac
  (fun i j h=>⟨hsl i (List.mem_of_getElem? (cO h)),eJ (cO h)⟩)
  (fun i i' j h h'=>by have h1:=cO h;rw [cO h'] at h1;injection h1 with h1;exact h1.symm)
  (fun j h=>by obtain ⟨i,_,hi⟩:=hidx j h;exact ⟨i,hi⟩)
  (fun i o j ho h=>hchain i o j ho (cO h))
  (fun k x i v w h=>hT k x i v w (gX h)) h0
  (fun i h=>hbd i (gX h))
  (fun i o ho h=>hpure i o ho (gX h))
  (fun i o k ho h=>hstage k i o (cO h) ho) hend
end
theorem dp {B g:Nat}{a w:World}(h:Below B a w) (hB:B≤g) (b0 b1 b2 b3 b4 b5 b6:Value):Below B a (((((((w.setCell ⟨g,0,none⟩ b0).setCell ⟨g,1,none⟩ b1).setCell ⟨g,2,none⟩ b2).setCell ⟨g,3,none⟩ b3).setCell ⟨g,4,none⟩ b4).setCell ⟨g,5,none⟩ b5).setCell ⟨g,6,none⟩ b6) :=
 (((((((h.setCell (p:=⟨g,0,none⟩) hB b0).setCell (p:=⟨g,1,none⟩) hB b1).setCell (p:=⟨g,2,none⟩) hB b2).setCell (p:=⟨g,3,none⟩) hB b3).setCell (p:=⟨g,4,none⟩) hB b4).setCell (p:=⟨g,5,none⟩) hB b5).setCell (p:=⟨g,6,none⟩) hB b6)
abbrev frX (u0 u1 u2 u3 u4 u13:Value) (xf:Nat→Value):Act:=⟨List.toArray (u0 :: u1 :: u2 :: u3 :: u4 :: xf 5 :: xf 0 :: xf 1 :: xf 2 :: xf 3 :: xf 4 :: xf 6 :: xf 7 :: u13 :: []),[]⟩
theorem de (w:World) (A:Option Addr) (n c:Nat) (l:List Tkn) (h:TkS w A n c l) (hn:n≤65536) (p:Nat) (hp:p≤n) (x:Int) (Ln:List UInt8) (B1:Option Addr) (m1 e1:Nat) (B2:Option Addr) (m2 e2:Nat) (B3:Option Addr) (m3 e3:Nat) (text:List UInt8) (T:Nat × Int × List UInt8) (hT:takeF l p x (aL l p x text)=T) :
 Calls Tryz.prog 44 #[.agg #[.slice A n c,.int .i64 (p:Nat),.int .i64 x,ae Ln,.slice B1 m1 e1,.slice B2 m2 e2,.slice B3 m3 e3],ae text] w (av w (.agg #[.slice A n c,.int .i64 (T.1:Nat),.int .i64 T.2.1,ae Ln,.slice B1 m1 e1,.slice B2 m2 e2,.slice B3 m3 e3])):=by
 have HT:=Qh hT;have HK:=Qh h;clear hT h;go_in;go_wp2_with fail;have hX:=(Blk.new w 94 #[.slice A n c,.int .i64 (p:Nat),.int .i64 x,ae Ln,.slice B1 m1 e1,.slice B2 m2 e2,.slice B3 m3 e3]).alloc (.cells #[.slice none 0 0,.int .i64 0,.int .i64 0,.string ⟨#[]⟩,.slice none 0 0,.slice none 0 0,.slice none 0 0] 94);have hY:=Blk.new (w.alloc (.cells #[.slice A n c,.int .i64 (p:Nat),.int .i64 x,ae Ln,.slice B1 m1 e1,.slice B2 m2 e2,.slice B3 m3 e3] 94)) 94 #[.slice none 0 0,.int .i64 0,.int .i64 0,.string ⟨#[]⟩,.slice none 0 0,.slice none 0 0,.slice none 0 0];have hB:=((aa w).alloc Qr (.cells #[.slice A n c,.int .i64 (p:Nat),.int .i64 x,ae Ln,.slice B1 m1 e1,.slice B2 m2 e2,.slice B3 m3 e3] 94)).alloc (by simp) (.cells #[.slice none 0 0,.int .i64 0,.int .i64 0,.string ⟨#[]⟩,.slice none 0 0,.slice none 0 0,.slice none 0 0] 94);have h0:TR w ((w.alloc (.cells #[.slice A n c,.int .i64 (p:Nat),.int .i64 x,ae Ln,.slice B1 m1 e1,.slice B2 m2 e2,.slice B3 m3 e3] 94)).alloc (.cells #[.slice none 0 0,.int .i64 0,.int .i64 0,.string ⟨#[]⟩,.slice none 0 0,.slice none 0 0,.slice none 0 0] 94)) (w.heap.size+1) w.heap.size A n c l #[.slice none 0 0,.int .i64 0,.int .i64 0,.string ⟨#[]⟩,.slice none 0 0,.slice none 0 0,.slice none 0 0] #[.slice A n c,.int .i64 (p:Nat),.int .i64 x,ae Ln,.slice B1 m1 e1,.slice B2 m2 e2,.slice B3 m3 e3] #[.slice A n c,.int .i64 (T.1:Nat),.int .i64 T.2.1,ae Ln,.slice B1 m1 e1,.slice B2 m2 e2,.slice B3 m3 e3] 0 _:=⟨hB,HK.out.belw hB,by simpa using hY,Qr,.inl ⟨by decide,hX⟩⟩;have H0:=Qh h0;clear hX hY hB h0;generalize (w.alloc (.cells #[.slice A n c,.int .i64 (p:Nat),.int .i64 x,ae Ln,.slice B1 m1 e1,.slice B2 m2 e2,.slice B3 m3 e3] 94)).alloc (.cells #[.slice none 0 0,.int .i64 0,.int .i64 0,.string ⟨#[]⟩,.slice none 0 0,.slice none 0 0,.slice none 0 0] 94)=w2 at H0 ⊢;change Code.wp _ _ _ (frX _ _ _ _ _ _ (fun _=>undef)) _;refine dW [3,4,8] (fun i=>if i=0 then 1 else if i=1 then 0 else 3) (x0:=fun _=>undef) (R:=fun ri=>List.getD (VE (.agg #[.slice A n c,.int .i64 (p:Nat),.int .i64 x,ae Ln,.slice B1 m1 e1,.slice B2 m2 e2,.slice B3 m3 e3]) :: VE (.agg #[.slice A n c,.int .i64 (p:Nat),.int .i64 x,ae Ln,.slice B1 m1 e1,.slice B2 m2 e2,.slice B3 m3 e3]) :: VE (ae text) :: VE (.bool (aL l p x text)) :: VE (.tuple #[.agg #[.slice A n c,.int .i64 (T.1:Nat),.int .i64 T.2.1,ae Ln,.slice B1 m1 e1,.slice B2 m2 e2,.slice B3 m3 e3],ae T.2.2]) :: VE (.tuple #[.agg #[.slice A n c,.int .i64 (T.1:Nat),.int .i64 T.2.1,ae Ln,.slice B1 m1 e1,.slice B2 m2 e2,.slice B3 m3 e3],ae T.2.2]) :: VE (.agg #[.slice A n c,.int .i64 (T.1:Nat),.int .i64 T.2.1,ae Ln,.slice B1 m1 e1,.slice B2 m2 e2,.slice B3 m3 e3]) :: VE (ae T.2.2) :: []) ri VA) (T:=fun k _ wq=>TR w w2 (w.heap.size+1) w.heap.size A n c l #[.slice none 0 0,.int .i64 0,.int .i64 0,.string ⟨#[]⟩,.slice none 0 0,.slice none 0 0,.slice none 0 0] #[.slice A n c,.int .i64 (p:Nat),.int .i64 x,ae Ln,.slice B1 m1 e1,.slice B2 m2 e2,.slice B3 m3 e3] #[.slice A n c,.int .i64 (T.1:Nat),.int .i64 T.2.1,ae Ln,.slice B1 m1 e1,.slice B2 m2 e2,.slice B3 m3 e3] k wq) (by kernel_rfl) ?_ ?_ ?_ ?_ ?_ ?_ ?_ ?_ ?_ ?_ ?_
 ·exact aG ⟨(fun _ _=>rfl),(fun _ _=>rfl),(fun _ _=>rfl),(fun _ _=>rfl),(fun _ _=>rfl),(fun _ _=>rfl),(fun _ _=>rfl),(fun _ _=>rfl),(fun _ _=>rfl),trivial⟩
 ·exact aG (cd _ 0 (by kernel_rfl))
 ·decide
 ·intro j hj
  obtain rfl | rfl | rfl:=(show j=0∨j=1∨j=2 by simp at hj;omega)
  ·exact ⟨3,rfl,rfl⟩
  ·exact ⟨4,rfl,rfl⟩
  exact ⟨8,rfl,rfl⟩
 ·intro i o j ho hj
  have hlt:=eJ hj;obtain rfl | rfl:=(show j=0∨j=1 by simp at hlt;omega)
  ·injection hj with hj;subst hj
   injection ho with ho;subst ho;exact ⟨⟨3,.data⟩,by simp,rfl,rfl⟩
  injection hj with hj;subst hj;injection ho with ho;subst ho;exact ⟨⟨4,.chain⟩,by simp,rfl,rfl⟩
 ·exact fun _ _ _ _ _ _ h=>h
 ·exact H0.out.drew
 ·intro i hi
  rcases (show i=0∨i=1∨(i≠0∧i≠1) by omega) with rfl | rfl | ⟨h1,h2⟩
  ·exact .inr ⟨4,_,rfl,rfl,⟨0,.data⟩,by simp,rfl,rfl⟩
  ·exact .inr ⟨3,_,rfl,rfl,⟨1,.data⟩,by simp,rfl,rfl⟩
  exact .inl (by rw [if_neg h1,if_neg h2];exact Qr)
 ·refine aG ⟨?_,?_,?_,(fun h=>absurd (by decide) h),(fun h=>absurd (by decide) h),?_,?_,?_,(fun h=>absurd (by decide) h),trivial⟩
  ·intro _ k xf wq hkb hT hd K hK
   have hk2:k≤1:=hkb
   have hyb:Blk wq w.heap.size 94 #[.slice A n c,.int .i64 (p:Nat),.int .i64 x,ae Ln,.slice B1 m1 e1,.slice B2 m2 e2,.slice B3 m3 e3]:=by
    rcases hT.2.2.2.2 with ⟨_,h5⟩ | ⟨h5,_⟩
    ·exact h5
    omega
   obtain ⟨x0,x1,x2,x3,x4,x5,x6⟩:=hyb.c7;(try dsimp only [frX]);go_simp;have hz:=hK.out _ rfl;dsimp only [frX] at hz;exact hz
  ·intro _ k xf wq hkb hT hd K hK
   have hk2:k≤0:=hkb
   have hyb:Blk wq w.heap.size 94 #[.slice A n c,.int .i64 (p:Nat),.int .i64 x,ae Ln,.slice B1 m1 e1,.slice B2 m2 e2,.slice B3 m3 e3]:=by
    rcases hT.2.2.2.2 with ⟨_,h5⟩ | ⟨h5,_⟩
    ·exact h5
    omega
   obtain ⟨x0,x1,x2,x3,x4,x5,x6⟩:=hyb.c7;(try dsimp only [frX]);go_simp;have hz:=hK.out _ rfl;dsimp only [frX] at hz;exact hz
  ·intro _ k xf wq hkb hT hd K hK
   (try dsimp only [frX]);go_simp;have hz:=hK.out _ rfl;dsimp only [frX] at hz;exact hz
  ·intro _ k xf wq hkb hT hd K hK
   have dq4:xf 4=(.tuple #[.agg #[.slice A n c,.int .i64 (T.1:Nat),.int .i64 T.2.1,ae Ln,.slice B1 m1 e1,.slice B2 m2 e2,.slice B3 m3 e3],ae T.2.2]):=hd ⟨4,.data⟩ (by simp) rfl;(try dsimp only [frX]);(try simp only [dq4]);go_simp;have hz:=hK.out _ rfl;dsimp only [frX] at hz;simp only [dq4] at hz;exact hz
  ·intro _ k xf wq hkb hT hd K hK
   have dq5:xf 5=(.tuple #[.agg #[.slice A n c,.int .i64 (T.1:Nat),.int .i64 T.2.1,ae Ln,.slice B1 m1 e1,.slice B2 m2 e2,.slice B3 m3 e3],ae T.2.2]):=hd ⟨5,.data⟩ (by simp) rfl;(try dsimp only [frX]);(try simp only [dq5]);go_simp;have hz:=hK.out _ rfl;dsimp only [frX] at hz;simp only [dq5] at hz;exact hz
  intro _ k xf wq hkb hT hd K hK;have dq5:xf 5=(.tuple #[.agg #[.slice A n c,.int .i64 (T.1:Nat),.int .i64 T.2.1,ae Ln,.slice B1 m1 e1,.slice B2 m2 e2,.slice B3 m3 e3],ae T.2.2]):=hd ⟨5,.data⟩ (by simp) rfl;(try dsimp only [frX]);(try simp only [dq5]);go_simp;have hz:=hK.out _ rfl;dsimp only [frX] at hz;simp only [dq5] at hz;exact hz
 ·intro k i o hk ho
  have hlt:=eJ hk;obtain rfl | rfl | rfl:=(show k=0∨k=1∨k=2 by simp at hlt;omega)
  ·injection hk with hk;subst hk
   injection ho with ho;subst ho;intro xf wq hT hd K hK;have dq1:xf 1=(.agg #[.slice A n c,.int .i64 (p:Nat),.int .i64 x,ae Ln,.slice B1 m1 e1,.slice B2 m2 e2,.slice B3 m3 e3]):=hd ⟨1,.data⟩ (by simp) rfl;have dq2:xf 2=ae text:=hd ⟨2,.data⟩ (by simp) rfl;(try dsimp only [frX]);(try simp only [dq1,dq2]);go_simp;go_at_call 82;(with_reducible refine (iP _ A n c l hT.tk hn p hp x Ln B1 m1 e1 B2 m2 e2 B3 m3 e3 text _ rfl).mono ?_);rintro e wr ⟨rfl,hb⟩;have hz:=hK.out _ _ rfl (hT.belw H0.out.1.size hb (by decide));dsimp only [frX] at hz;simp only [dq1,dq2] at hz;exact hz
  ·injection hk with hk;subst hk
   injection ho with ho;subst ho;intro xf wq hT hd K hK;have dq0:xf 0=(.agg #[.slice A n c,.int .i64 (p:Nat),.int .i64 x,ae Ln,.slice B1 m1 e1,.slice B2 m2 e2,.slice B3 m3 e3]):=hd ⟨0,.data⟩ (by simp) rfl;have dq3:xf 3=.bool (aL l p x text):=hd ⟨3,.data⟩ (by simp) rfl;(try dsimp only [frX]);(try simp only [dq0,dq3]);go_simp;go_at_call 81;(with_reducible refine (kW _ A n c l hT.tk hn p hp x Ln B1 m1 e1 B2 m2 e2 B3 m3 e3 (aL l p x text)).mono ?_);rintro e wr ⟨he,hb⟩;rw [HT.out] at he;subst he;have hz:=hK.out _ _ rfl (hT.belw H0.out.1.size hb (by decide));dsimp only [frX] at hz;simp only [dq0,dq3] at hz;exact hz
  injection hk with hk;subst hk;injection ho with ho;subst ho;intro xf wq hT hd K hK;have hT:TR w w2 (w.heap.size+1) w.heap.size A n c l #[.slice none 0 0,.int .i64 0,.int .i64 0,.string ⟨#[]⟩,.slice none 0 0,.slice none 0 0,.slice none 0 0] #[.slice A n c,.int .i64 (p:Nat),.int .i64 x,ae Ln,.slice B1 m1 e1,.slice B2 m2 e2,.slice B3 m3 e3] #[.slice A n c,.int .i64 (T.1:Nat),.int .i64 T.2.1,ae Ln,.slice B1 m1 e1,.slice B2 m2 e2,.slice B3 m3 e3] 2 wq:=hT;have dq6:xf 6=(.agg #[.slice A n c,.int .i64 (T.1:Nat),.int .i64 T.2.1,ae Ln,.slice B1 m1 e1,.slice B2 m2 e2,.slice B3 m3 e3]):=hd ⟨6,.data⟩ (by simp) rfl;have hy:=TR.y hT;obtain ⟨y0,y1,y2,y3,y4,y5,y6⟩:=hy.c7;obtain ⟨f0,f1,f2,f3,f4,f5,f6⟩:=hy.f7;(try dsimp only [frX]);(try simp only [dq6]);go_simp;have hz:=hK.out undef _ trivial (TR.fin hT HK.out (by omega) Qr);dsimp only [frX] at hz;simp only [dq6] at hz;exact hz
 intro xf wq hT hr;have hT:TR w w2 (w.heap.size+1) w.heap.size A n c l #[.slice none 0 0,.int .i64 0,.int .i64 0,.string ⟨#[]⟩,.slice none 0 0,.slice none 0 0,.slice none 0 0] #[.slice A n c,.int .i64 (p:Nat),.int .i64 x,ae Ln,.slice B1 m1 e1,.slice B2 m2 e2,.slice B3 m3 e3] #[.slice A n c,.int .i64 (T.1:Nat),.int .i64 T.2.1,ae Ln,.slice B1 m1 e1,.slice B2 m2 e2,.slice B3 m3 e3] 3 wq:=hT;have hb:=hT.1;have hzz:=hT.2.2.1
 have hy:Blk wq w.heap.size 94 #[.slice A n c,.int .i64 (T.1:Nat),.int .i64 T.2.1,ae Ln,.slice B1 m1 e1,.slice B2 m2 e2,.slice B3 m3 e3]:=by
  rcases hT.2.2.2.2 with ⟨h5,_⟩ | ⟨_,h5⟩
  ·omega
  exact h5
 obtain ⟨y0,y1,y2,y3,y4,y5,y6⟩:=hy.c7;have z0:=hzz.c7;obtain ⟨f0,f1,f2,f3,f4,f5,f6⟩:=hzz.f7;dsimp only [frX];clear hT hr hy hzz;go_wp2_with fail;refine bodyPost_ret (v:=.agg #[.slice A n c,.int .i64 (T.1:Nat),.int .i64 T.2.1,ae Ln,.slice B1 m1 e1,.slice B2 m2 e2,.slice B3 m3 e3]) (by simp [results,Tryz.results44,go_sem, *] <;> trivial) rfl ?_;exact ⟨rfl,dp hb (by omega) _ _ _ _ _ _ _⟩
abbrev frY (u0 u1 u2 u3 u5 u6 u14 u15 u16 u17 u18 u19 u20 u21 u22 u23 u24 u25 u26 u27:Value) (xf:Nat→Value):Act:=⟨List.toArray (u0 :: u1 :: u2 :: u3 :: xf 8 :: u5 :: u6 :: xf 4 :: xf 0 :: xf 1 :: xf 2 :: xf 3 :: xf 5 :: xf 6 :: u14 :: u15 :: u16 :: u17 :: u18 :: u19 :: u20 :: u21 :: u22 :: u23 :: u24 :: u25 :: u26 :: u27 :: []),[]⟩
noncomputable def numF (l:List Tkn) (p:Nat) (x:Int):Nat × Int × Rat :=
  if (takeF l p x (bE l p x 1)).2.1≠0 then ((takeF l p x (bE l p x 1)).1,(takeF l p x (bE l p x 1)).2.1,0)
  else ((takeF l p x (bE l p x 1)).1,valX (takeF l p x (bE l p x 1)).2.2,valQ (takeF l p x (bE l p x 1)).2.2)
def Ba (w:World) (v:Value) (q:Rat) (k:Nat) (e:Ending) (w':World):Prop:=∃ b A n c D m d,e=.returned (.tuple #[v,.agg #[.bool b,.slice A n c,.slice D m d]])∧QV w' b A n c D m d q k∧Below w.heap.size w w'
theorem fi {T:TypeId→Bool}{w:World}{g:Nat}{t:TypeId}{a0 a1 a2 a3 a4 a5 a6:Value}(z:Blk w g t #[a0,a1,a2,a3,a4,a5,a6]) (hT:T t=true) (hz:([a0,a1,a2,a3,a4,a5,a6]:List Value).all noW=true) (b0 b1 b2 b3 b4 b5 b6:Value):Tch T w (((((((w.setCell ⟨g,0,none⟩ b0).setCell ⟨g,1,none⟩ b1).setCell ⟨g,2,none⟩ b2).setCell ⟨g,3,none⟩ b3).setCell ⟨g,4,none⟩ b4).setCell ⟨g,5,none⟩ b5).setCell ⟨g,6,none⟩ b6) :=
 Tch.of_ne (by simp [World.setCell]) z hT hz fun g' _ hne=>by
  rw [Below.heap_setCell _ _ _ _ hne,Below.heap_setCell _ _ _ _ hne,Below.heap_setCell _ _ _ _ hne,Below.heap_setCell _ _ _ _ hne,Below.heap_setCell _ _ _ _ hne,Below.heap_setCell _ _ _ _ hne,Below.heap_setCell _ _ _ _ hne]
theorem Bb {T:TypeId→Bool}{w:World}{g:Nat}{t:TypeId}{a0 a1 a2:Value}(z:Blk w g t #[a0,a1,a2]) (hT:T t=true) (hz:([a0,a1,a2]:List Value).all noW=true) (b0 b1 b2:Value):Tch T w (((w.setCell ⟨g,0,none⟩ b0).setCell ⟨g,1,none⟩ b1).setCell ⟨g,2,none⟩ b2) :=
 Tch.of_ne (by simp [World.setCell]) z hT hz fun g' _ hne=>by
  rw [Below.heap_setCell _ _ _ _ hne,Below.heap_setCell _ _ _ _ hne,Below.heap_setCell _ _ _ _ hne]
theorem dF {w:World}{g g':Nat}{t:TypeId}{cs:Array Value}(h:Blk w g t cs) (hne:g≠g') (b0 b1 b2 b3 b4 b5 b6:Value):Blk (((((((w.setCell ⟨g',0,none⟩ b0).setCell ⟨g',1,none⟩ b1).setCell ⟨g',2,none⟩ b2).setCell ⟨g',3,none⟩ b3).setCell ⟨g',4,none⟩ b4).setCell ⟨g',5,none⟩ b5).setCell ⟨g',6,none⟩ b6) g t cs :=
 (((((((h.far (p:=⟨g',0,none⟩) hne b0).far (p:=⟨g',1,none⟩) hne b1).far (p:=⟨g',2,none⟩) hne b2).far (p:=⟨g',3,none⟩) hne b3).far (p:=⟨g',4,none⟩) hne b4).far (p:=⟨g',5,none⟩) hne b5).far (p:=⟨g',6,none⟩) hne b6)
theorem nL (w:World) (A:Option Addr) (n c:Nat) (l:List Tkn) (h:TkS w A n c l) (hn:n≤65536) (p:Nat) (hp:p≤n) (x:Int) (Ln:List UInt8) (B1:Option Addr) (m1 e1:Nat) (B2:Option Addr) (m2 e2:Nat) (B3:Option Addr) (m3 e3:Nat) (N:Nat × Int × Rat) (hN:numF l p x=N) :
 Calls Tryz.prog 119 #[.agg #[.slice A n c,.int .i64 (p:Nat),.int .i64 x,ae Ln,.slice B1 m1 e1,.slice B2 m2 e2,.slice B3 m3 e3]] w (Ba w (.agg #[.slice A n c,.int .i64 (N.1:Nat),.int .i64 N.2.1,ae Ln,.slice B1 m1 e1,.slice B2 m2 e2,.slice B3 m3 e3]) N.2.2 500):=by
 obtain ⟨T,hT⟩:∃ T,takeF l p x (bE l p x 1)=T:=⟨_,rfl⟩;have HT:=Qh hT;have HK:=Qh h;unfold numF at hN;rw [hT] at hN;have HN:=Qh hN;clear hT h hN;go_in;go_wp2_with fail;have hX:=((Blk.new w 94 #[.slice A n c,.int .i64 (p:Nat),.int .i64 x,ae Ln,.slice B1 m1 e1,.slice B2 m2 e2,.slice B3 m3 e3]).alloc (.cells #[.slice none 0 0,.int .i64 0,.int .i64 0,.string ⟨#[]⟩,.slice none 0 0,.slice none 0 0,.slice none 0 0] 94)).alloc (.cells #[.bool false,.slice none 0 0,.slice none 0 0] 65);have hY:=(Blk.new (w.alloc (.cells #[.slice A n c,.int .i64 (p:Nat),.int .i64 x,ae Ln,.slice B1 m1 e1,.slice B2 m2 e2,.slice B3 m3 e3] 94)) 94 #[.slice none 0 0,.int .i64 0,.int .i64 0,.string ⟨#[]⟩,.slice none 0 0,.slice none 0 0,.slice none 0 0]).alloc (.cells #[.bool false,.slice none 0 0,.slice none 0 0] 65);have hZ:=Blk.new ((w.alloc (.cells #[.slice A n c,.int .i64 (p:Nat),.int .i64 x,ae Ln,.slice B1 m1 e1,.slice B2 m2 e2,.slice B3 m3 e3] 94)).alloc (.cells #[.slice none 0 0,.int .i64 0,.int .i64 0,.string ⟨#[]⟩,.slice none 0 0,.slice none 0 0,.slice none 0 0] 94)) 65 #[.bool false,.slice none 0 0,.slice none 0 0];have hB:=(((aa w).alloc Qr (.cells #[.slice A n c,.int .i64 (p:Nat),.int .i64 x,ae Ln,.slice B1 m1 e1,.slice B2 m2 e2,.slice B3 m3 e3] 94)).alloc (by simp) (.cells #[.slice none 0 0,.int .i64 0,.int .i64 0,.string ⟨#[]⟩,.slice none 0 0,.slice none 0 0,.slice none 0 0] 94)).alloc (by simp;omega) (.cells #[.bool false,.slice none 0 0,.slice none 0 0] 65);have h0:TR w (((w.alloc (.cells #[.slice A n c,.int .i64 (p:Nat),.int .i64 x,ae Ln,.slice B1 m1 e1,.slice B2 m2 e2,.slice B3 m3 e3] 94)).alloc (.cells #[.slice none 0 0,.int .i64 0,.int .i64 0,.string ⟨#[]⟩,.slice none 0 0,.slice none 0 0,.slice none 0 0] 94)).alloc (.cells #[.bool false,.slice none 0 0,.slice none 0 0] 65)) (w.heap.size+1) w.heap.size A n c l #[.slice none 0 0,.int .i64 0,.int .i64 0,.string ⟨#[]⟩,.slice none 0 0,.slice none 0 0,.slice none 0 0] #[.slice A n c,.int .i64 (p:Nat),.int .i64 x,ae Ln,.slice B1 m1 e1,.slice B2 m2 e2,.slice B3 m3 e3] #[.slice A n c,.int .i64 (T.1:Nat),.int .i64 T.2.1,ae Ln,.slice B1 m1 e1,.slice B2 m2 e2,.slice B3 m3 e3] 0 _:=⟨hB,HK.out.belw hB,by simpa using hY,Qr,.inl ⟨by decide,hX⟩⟩;have hZ:Blk (((w.alloc (.cells #[.slice A n c,.int .i64 (p:Nat),.int .i64 x,ae Ln,.slice B1 m1 e1,.slice B2 m2 e2,.slice B3 m3 e3] 94)).alloc (.cells #[.slice none 0 0,.int .i64 0,.int .i64 0,.string ⟨#[]⟩,.slice none 0 0,.slice none 0 0,.slice none 0 0] 94)).alloc (.cells #[.bool false,.slice none 0 0,.slice none 0 0] 65)) (w.heap.size+2) 65 #[.bool false,.slice none 0 0,.slice none 0 0]:=by simpa using hZ
 have H0:=Qh (And.intro h0 hZ);clear hX hY hB h0 hZ;generalize ((w.alloc (.cells #[.slice A n c,.int .i64 (p:Nat),.int .i64 x,ae Ln,.slice B1 m1 e1,.slice B2 m2 e2,.slice B3 m3 e3] 94)).alloc (.cells #[.slice none 0 0,.int .i64 0,.int .i64 0,.string ⟨#[]⟩,.slice none 0 0,.slice none 0 0,.slice none 0 0] 94)).alloc (.cells #[.bool false,.slice none 0 0,.slice none 0 0] 65)=w2 at H0 ⊢;change Code.wp _ _ _ (frY _ _ _ _ _ _ _ _ _ _ _ _ _ _ _ _ _ _ _ _ (upd (fun _=>undef) 8 _)) _;refine dW [2,3,7] (fun i=>if i=0 then 1 else if i=1 then 0 else 3) (R:=fun ri=>List.getD (VE (.agg #[.slice A n c,.int .i64 (p:Nat),.int .i64 x,ae Ln,.slice B1 m1 e1,.slice B2 m2 e2,.slice B3 m3 e3]) :: VE (.agg #[.slice A n c,.int .i64 (p:Nat),.int .i64 x,ae Ln,.slice B1 m1 e1,.slice B2 m2 e2,.slice B3 m3 e3]) :: VE (.bool (bE l p x 1)) :: VE (.tuple #[.agg #[.slice A n c,.int .i64 (T.1:Nat),.int .i64 T.2.1,ae Ln,.slice B1 m1 e1,.slice B2 m2 e2,.slice B3 m3 e3],ae T.2.2]) :: VE (.tuple #[.agg #[.slice A n c,.int .i64 (T.1:Nat),.int .i64 T.2.1,ae Ln,.slice B1 m1 e1,.slice B2 m2 e2,.slice B3 m3 e3],ae T.2.2]) :: VE (.agg #[.slice A n c,.int .i64 (T.1:Nat),.int .i64 T.2.1,ae Ln,.slice B1 m1 e1,.slice B2 m2 e2,.slice B3 m3 e3]) :: VE (ae T.2.2) :: VA :: VE (ae T.2.2) :: []) ri VA) (T:=fun k _ wq=>TR w w2 (w.heap.size+1) w.heap.size A n c l #[.slice none 0 0,.int .i64 0,.int .i64 0,.string ⟨#[]⟩,.slice none 0 0,.slice none 0 0,.slice none 0 0] #[.slice A n c,.int .i64 (p:Nat),.int .i64 x,ae Ln,.slice B1 m1 e1,.slice B2 m2 e2,.slice B3 m3 e3] #[.slice A n c,.int .i64 (T.1:Nat),.int .i64 T.2.1,ae Ln,.slice B1 m1 e1,.slice B2 m2 e2,.slice B3 m3 e3] k wq∧Blk wq (w.heap.size+2) 65 #[.bool false,.slice none 0 0,.slice none 0 0]) (by kernel_rfl) ?_ ?_ ?_ ?_ ?_ ?_ ?_ ?_ ?_ ?_ ?_
 ·exact aG ⟨(fun _ _=>rfl),(fun _ _=>rfl),(fun _ _=>rfl),(fun _ _=>rfl),(fun _ _=>rfl),(fun _ _=>rfl),(fun _ _=>rfl),(fun _ _=>rfl),(fun _ _=>rfl),trivial⟩
 ·exact aG (cd _ 0 (by kernel_rfl))
 ·decide
 ·intro j hj
  obtain rfl | rfl | rfl:=(show j=0∨j=1∨j=2 by simp at hj;omega)
  ·exact ⟨2,rfl,rfl⟩
  ·exact ⟨3,rfl,rfl⟩
  exact ⟨7,rfl,rfl⟩
 ·intro i o j ho hj
  have hlt:=eJ hj;obtain rfl | rfl:=(show j=0∨j=1 by simp at hlt;omega)
  ·injection hj with hj;subst hj
   injection ho with ho;subst ho;exact ⟨⟨2,.data⟩,by simp,rfl,rfl⟩
  injection hj with hj;subst hj;injection ho with ho;subst ho;exact ⟨⟨3,.chain⟩,by simp,rfl,rfl⟩
 ·exact fun _ _ _ _ _ _ h=>h
 ·exact ⟨H0.out.1.drew,H0.out.2⟩
 ·intro i hi
  rcases (show i=0∨i=1∨(i≠0∧i≠1) by omega) with rfl | rfl | ⟨h1,h2⟩
  ·exact .inr ⟨3,_,rfl,rfl,⟨0,.data⟩,by simp,rfl,rfl⟩
  ·exact .inr ⟨2,_,rfl,rfl,⟨1,.data⟩,by simp,rfl,rfl⟩
  exact .inl (by rw [if_neg h1,if_neg h2];exact Qr)
 ·refine aG ⟨?_,?_,(fun h=>absurd (by decide) h),(fun h=>absurd (by decide) h),?_,?_,?_,(fun h=>absurd (by decide) h),?_,trivial⟩
  ·intro _ k xf wq hkb hT hd K hK
   have hk2:k≤1:=hkb
   have hyb:Blk wq w.heap.size 94 #[.slice A n c,.int .i64 (p:Nat),.int .i64 x,ae Ln,.slice B1 m1 e1,.slice B2 m2 e2,.slice B3 m3 e3]:=by
    rcases hT.1.2.2.2.2 with ⟨_,h5⟩ | ⟨h5,_⟩
    ·exact h5
    omega
   obtain ⟨x0,x1,x2,x3,x4,x5,x6⟩:=hyb.c7;(try dsimp only [frY]);go_simp;have hz:=hK.out _ rfl;dsimp only [frY] at hz;exact hz
  ·intro _ k xf wq hkb hT hd K hK
   have hk2:k≤0:=hkb
   have hyb:Blk wq w.heap.size 94 #[.slice A n c,.int .i64 (p:Nat),.int .i64 x,ae Ln,.slice B1 m1 e1,.slice B2 m2 e2,.slice B3 m3 e3]:=by
    rcases hT.1.2.2.2.2 with ⟨_,h5⟩ | ⟨h5,_⟩
    ·exact h5
    omega
   obtain ⟨x0,x1,x2,x3,x4,x5,x6⟩:=hyb.c7;(try dsimp only [frY]);go_simp;have hz:=hK.out _ rfl;dsimp only [frY] at hz;exact hz
  ·intro _ k xf wq hkb hT hd K hK
   have dq3:xf 3=(.tuple #[.agg #[.slice A n c,.int .i64 (T.1:Nat),.int .i64 T.2.1,ae Ln,.slice B1 m1 e1,.slice B2 m2 e2,.slice B3 m3 e3],ae T.2.2]):=hd ⟨3,.data⟩ (by simp) rfl;(try dsimp only [frY]);(try simp only [dq3]);go_simp;have hz:=hK.out _ rfl;dsimp only [frY] at hz;simp only [dq3] at hz;exact hz
  ·intro _ k xf wq hkb hT hd K hK
   have dq4:xf 4=(.tuple #[.agg #[.slice A n c,.int .i64 (T.1:Nat),.int .i64 T.2.1,ae Ln,.slice B1 m1 e1,.slice B2 m2 e2,.slice B3 m3 e3],ae T.2.2]):=hd ⟨4,.data⟩ (by simp) rfl;(try dsimp only [frY]);(try simp only [dq4]);go_simp;have hz:=hK.out _ rfl;dsimp only [frY] at hz;simp only [dq4] at hz;exact hz
  ·intro _ k xf wq hkb hT hd K hK
   have dq4:xf 4=(.tuple #[.agg #[.slice A n c,.int .i64 (T.1:Nat),.int .i64 T.2.1,ae Ln,.slice B1 m1 e1,.slice B2 m2 e2,.slice B3 m3 e3],ae T.2.2]):=hd ⟨4,.data⟩ (by simp) rfl;(try dsimp only [frY]);(try simp only [dq4]);go_simp;have hz:=hK.out _ rfl;dsimp only [frY] at hz;simp only [dq4] at hz;exact hz
  intro _ k xf wq hkb hT hd K hK;have dq6:xf 6=(ae T.2.2):=hd ⟨6,.data⟩ (by simp) rfl;(try dsimp only [frY]);(try simp only [dq6]);go_simp;have hz:=hK.out _ rfl;dsimp only [frY] at hz;simp only [dq6] at hz;exact hz
 ·intro k i o hk ho
  have hlt:=eJ hk;obtain rfl | rfl | rfl:=(show k=0∨k=1∨k=2 by simp at hlt;omega)
  ·injection hk with hk;subst hk
   injection ho with ho;subst ho;intro xf wq hT hd K hK;have dq1:xf 1=(.agg #[.slice A n c,.int .i64 (p:Nat),.int .i64 x,ae Ln,.slice B1 m1 e1,.slice B2 m2 e2,.slice B3 m3 e3]):=hd ⟨1,.data⟩ (by simp) rfl;(try dsimp only [frY]);(try simp only [dq1]);go_simp;go_at_call 83;(with_reducible refine (sD _ A n c l hT.1.tk hn p hp x Ln B1 m1 e1 B2 m2 e2 B3 m3 e3 1 1 rfl _ rfl).mono ?_);rintro e wr ⟨rfl,hb⟩;have hz:=hK.out _ _ rfl ⟨hT.1.belw H0.out.1.1.size hb (by decide),hT.2.below hb hT.2.lt⟩;dsimp only [frY] at hz;simp only [dq1] at hz;exact hz
  ·injection hk with hk;subst hk
   injection ho with ho;subst ho;intro xf wq hT hd K hK;have dq0:xf 0=(.agg #[.slice A n c,.int .i64 (p:Nat),.int .i64 x,ae Ln,.slice B1 m1 e1,.slice B2 m2 e2,.slice B3 m3 e3]):=hd ⟨0,.data⟩ (by simp) rfl;have dq2:xf 2=.bool (bE l p x 1):=hd ⟨2,.data⟩ (by simp) rfl;(try dsimp only [frY]);(try simp only [dq0,dq2]);go_simp;go_at_call 81;(with_reducible refine (kW _ A n c l hT.1.tk hn p hp x Ln B1 m1 e1 B2 m2 e2 B3 m3 e3 (bE l p x 1)).mono ?_);rintro e wr ⟨he,hb⟩;rw [HT.out] at he;subst he;have hz:=hK.out _ _ rfl ⟨hT.1.belw H0.out.1.1.size hb (by decide),hT.2.below hb hT.2.lt⟩;dsimp only [frY] at hz;simp only [dq0,dq2] at hz;exact hz
  injection hk with hk;subst hk;injection ho with ho;subst ho;intro xf wq hT hd K hK;have hT:TR w w2 (w.heap.size+1) w.heap.size A n c l #[.slice none 0 0,.int .i64 0,.int .i64 0,.string ⟨#[]⟩,.slice none 0 0,.slice none 0 0,.slice none 0 0] #[.slice A n c,.int .i64 (p:Nat),.int .i64 x,ae Ln,.slice B1 m1 e1,.slice B2 m2 e2,.slice B3 m3 e3] #[.slice A n c,.int .i64 (T.1:Nat),.int .i64 T.2.1,ae Ln,.slice B1 m1 e1,.slice B2 m2 e2,.slice B3 m3 e3] 2 wq∧Blk wq (w.heap.size+2) 65 #[.bool false,.slice none 0 0,.slice none 0 0]:=hT;have dq5:xf 5=(.agg #[.slice A n c,.int .i64 (T.1:Nat),.int .i64 T.2.1,ae Ln,.slice B1 m1 e1,.slice B2 m2 e2,.slice B3 m3 e3]):=hd ⟨5,.data⟩ (by simp) rfl;have hy:=TR.y hT.1;obtain ⟨y0,y1,y2,y3,y4,y5,y6⟩:=hy.c7;obtain ⟨f0,f1,f2,f3,f4,f5,f6⟩:=hy.f7;(try dsimp only [frY]);(try simp only [dq5]);go_simp;have hz:=hK.out undef _ trivial ⟨TR.fin hT.1 HK.out (by omega) Qr,dF hT.2 (by omega) _ _ _ _ _ _ _⟩;dsimp only [frY] at hz;simp only [dq5] at hz;exact hz
 intro xf wq hT hr;have hT:TR w w2 (w.heap.size+1) w.heap.size A n c l #[.slice none 0 0,.int .i64 0,.int .i64 0,.string ⟨#[]⟩,.slice none 0 0,.slice none 0 0,.slice none 0 0] #[.slice A n c,.int .i64 (p:Nat),.int .i64 x,ae Ln,.slice B1 m1 e1,.slice B2 m2 e2,.slice B3 m3 e3] #[.slice A n c,.int .i64 (T.1:Nat),.int .i64 T.2.1,ae Ln,.slice B1 m1 e1,.slice B2 m2 e2,.slice B3 m3 e3] 3 wq∧Blk wq (w.heap.size+2) 65 #[.bool false,.slice none 0 0,.slice none 0 0]:=hT;have dq8:xf 8=ae T.2.2:=hr 8 (by decide);have hb:=hT.1.1;have hzz:=hT.1.2.2.1;have hzr:=hT.2
 have hy:Blk wq w.heap.size 94 #[.slice A n c,.int .i64 (T.1:Nat),.int .i64 T.2.1,ae Ln,.slice B1 m1 e1,.slice B2 m2 e2,.slice B3 m3 e3]:=by
  rcases hT.1.2.2.2.2 with ⟨h5,_⟩ | ⟨_,h5⟩
  ·omega
  exact h5
 dsimp only [frY];simp only [dq8];clear hT hr dq8;obtain ⟨p1,x1,s1⟩:=T;simp only at hy ⊢;by_cases hx1:x1=0;rotate_left
 ·have t1:(x1 == 0)=false:=beq_eq_false_iff_ne.2 hx1
  have t2:(x1=0)=False:=eq_false hx1;have t3:(x1 != 0)=true:=by unfold bne;rw [t1];rfl
  have hN:=HN.out;rw [if_pos hx1] at hN;subst hN;obtain ⟨y0,y1,y2,y3,y4,y5,y6⟩:=hy.c7;obtain ⟨z0,z1,z2,z3,z4,z5,z6⟩:=hzz.c7;obtain ⟨f0,f1,f2,f3,f4,f5,f6⟩:=hzz.f7;obtain ⟨r0,r1,r2⟩:=hzr.c3;obtain ⟨k0,k1,k2⟩:=hzr.f3;clear hx1 hy hzz hzr;go_wp2_with fail;refine bodyPost_ret (v:=.tuple #[.agg #[.slice A n c,.int .i64 (p1:Nat),.int .i64 x1,ae Ln,.slice B1 m1 e1,.slice B2 m2 e2,.slice B3 m3 e3],.agg #[.bool false,.slice none 0 0,.slice none 0 0]]) (by simp [results,Tryz.results119,go_sem, *] <;> trivial) rfl ?_;exact ⟨_,_,_,_,_,_,_,rfl,QV.zero _ 500,(((dp hb (by omega) _ _ _ _ _ _ _).setCell (p:=⟨w.heap.size+2,0,none⟩) (by simp) _).setCell (p:=⟨w.heap.size+2,1,none⟩) (by simp) _).setCell (p:=⟨w.heap.size+2,2,none⟩) (by simp) _⟩
 subst hx1;have hN:=HN.out;rw [if_neg (by simp)] at hN;subst hN;simp only;obtain ⟨y0,y1,y2,y3,y4,y5,y6⟩:=hy.c7;have hlq:w.heap.size+2 < wq.heap.size:=hzr.lt;go_wp2_with fail;(refine (tW wq s1 (valX s1) (valQ s1) (val_out s1)).mono ?_);rintro e w5 ⟨b2,A2,n2,c2,D2,d2,f2,rfl,hq,hb5⟩;have hb6:=hb.trans (hb5.mono hb.size);have hy5:=hy.below hb5 hy.lt;have hz5:=hzz.below hb5 hzz.lt;have hr5:=hzr.below hb5 hzr.lt;have hlq5:w.heap.size+2 < w5.heap.size:=hr5.lt;have hl0:w.heap.size < w5.heap.size:=by omega
 have hl1:w.heap.size+1 < w5.heap.size:=by omega
 have hn1:¬ w.heap.size=w5.heap.size:=by omega
 have hn2:¬ w.heap.size+1=w5.heap.size:=by omega
 have hn3:¬ w.heap.size+2=w5.heap.size:=by omega
 clear y0 y1 y2 y3 y4 y5 y6 hy hzz hzr hb hb5;obtain ⟨y0,y1,y2,y3,y4,y5,y6⟩:=hy5.c7;have g0:=hy5.f7;obtain ⟨z0,z1,z2,z3,z4,z5,z6⟩:=hz5.c7;obtain ⟨f0,f1,f2',f3,f4,f5,f6⟩:=hz5.f7;obtain ⟨r0,r1,r2⟩:=hr5.c3;obtain ⟨k0,k1,k2⟩:=hr5.f3;have HQ:=Qh hq;have HY:=Qh hy5;have HZ:=Qh hz5;have HRR:=Qh hr5;clear hy5 hz5 hr5 hq;go_wp2_with fail;go_region
 all_goals
  go_wp2_with fail;refine bodyPost_ret (v:=.tuple #[.agg #[.slice A n c,.int .i64 (p1:Nat),.int .i64 (valX s1),ae Ln,.slice B1 m1 e1,.slice B2 m2 e2,.slice B3 m3 e3],.agg #[.bool b2,.slice A2 n2 c2,.slice D2 d2 f2]]) (by simp [results,Tryz.results119,go_sem, *] <;> trivial) rfl ?_;have t1:=Tch.set (T:=fun _=>true) HY.out rfl rfl 2 (.int .i64 (valX s1));have t2:=fi (T:=fun _=>true) (HZ.out.far (p:=⟨w.heap.size,2,none⟩) (by simp) (.int .i64 (valX s1))) rfl rfl (.slice A n c) (.int .i64 (p1:Nat)) (.int .i64 (valX s1)) (.string ⟨Ln.toArray⟩) (.slice B1 m1 e1) (.slice B2 m2 e2) (.slice B3 m3 e3);have t3:=Bb (T:=fun _=>true) (dF (HRR.out.far (p:=⟨w.heap.size,2,none⟩) (by simp) (.int .i64 (valX s1))) (g':=w.heap.size+1) (by omega) (.slice A n c) (.int .i64 (p1:Nat)) (.int .i64 (valX s1)) (.string ⟨Ln.toArray⟩) (.slice B1 m1 e1) (.slice B2 m2 e2) (.slice B3 m3 e3)) rfl rfl (.bool b2) (.slice A2 n2 c2) (.slice D2 d2 f2);have q1:=(((dp (hb6.setCell (p:=⟨w.heap.size,2,none⟩) Qr (.int .i64 (valX s1))) (g:=w.heap.size+1) (by omega) (.slice A n c) (.int .i64 (p1:Nat)) (.int .i64 (valX s1)) (.string ⟨Ln.toArray⟩) (.slice B1 m1 e1) (.slice B2 m2 e2) (.slice B3 m3 e3)).setCell (p:=⟨w.heap.size+2,0,none⟩) (by simp) (.bool b2)).setCell (p:=⟨w.heap.size+2,1,none⟩) (by simp) (.slice A2 n2 c2)).setCell (p:=⟨w.heap.size+2,2,none⟩) (by simp) (.slice D2 d2 f2);exact ⟨_,_,_,_,_,_,_,rfl,(QD.tch HQ.out (t1.trans (t2.trans t3))).belw (((Below.refl _ _).alloc Qr _).drew),(q1.alloc q1.size _).drew⟩
/-! What the reference reads. -/
def wF (l:List Tkn) (p:Nat) (x:Int):Nat × Int × List UInt8:=takeF l p x (bE l p x 0)
def eF (l:List Tkn) (p:Nat) (x:Int) (t:List UInt8):Nat × Int × List UInt8:=takeF l p x (aL l p x t)
noncomputable def mkF (l:List Tkn) (p:Nat) (x:Int):Nat × Int × aq :=
  let W:=wF l p x
  let N1:=numF l W.1 W.2.1
  let N2:=numF l N1.1 N1.2.1
  let E:=eF l N2.1 N2.2.1 [59]
  (E.1,E.2.1,⟨W.2.2,rd N1.2.2,rd N2.2.2⟩)
noncomputable def cB (l:List Tkn):Nat→Nat→Int→List aq→Nat × Int × List aq
  | 0,p,x,a=>(p,x,a)
  | f+1,p,x,a=>if x=0∧aL l p x [125]=false then cB l f (mkF l p x).1 (mkF l p x).2.1 (a ++ [(mkF l p x).2.2]) else (p,x,a)
noncomputable def dv (l:List Tkn) (p:Nat) (x:Int):Nat × Int × al :=
  let W:=wF l p x
  let E:=eF l W.1 W.2.1 [123]
  let M:=cB l (l.length+1) E.1 E.2.1 []
  let E2:=eF l M.1 M.2.1 [125]
  (E2.1,E2.2.1,⟨W.2.2,M.2.2⟩)
theorem eG {l:List Tkn}{p:Nat}{x:Int}{may:Bool}:p≤(takeF l p x may).1∧((takeF l p x may).2.1=0→x=0∧(takeF l p x may).1=p+1):=by
 unfold takeF;split
 ·rename_i h;exact ⟨Qr,fun h2=>absurd h2 h⟩
 rename_i h;have h:x=0:=by simpa using h
 split
 ·exact ⟨Qr,fun h2=>absurd (show (18:Int)=0 from h2) (by decide)⟩
 split
 ·exact ⟨Nat.le_succ _,fun _=>⟨h,rfl⟩⟩
 exact ⟨Qr,fun h2=>absurd (show (2:Int)=0 from h2) (by decide)⟩
theorem kX {l:List Tkn}{p:Nat}{x:Int}:p≤(numF l p x).1∧((numF l p x).2.1=0→x=0∧(numF l p x).1=p+1)∧(p≤l.length→(numF l p x).1≤l.length):=by
 have h:=eG (l:=l) (p:=p) (x:=x) (may:=bE l p x 1);unfold numF;split
 ·rename_i h1;exact ⟨h.1,fun h2=>absurd h2 h1,fun h3=>bT h3⟩
 rename_i h1;exact ⟨h.1,fun _=>h.2 (by simpa using h1),fun h3=>bT h3⟩
theorem oL {l:List Tkn}{p:Nat}{x:Int}:p≤(mkF l p x).1∧((mkF l p x).2.1=0→p+4≤(mkF l p x).1)∧(p≤l.length→(mkF l p x).1≤l.length):=by
 unfold mkF wF eF;simp only;have h1:=eG (l:=l) (p:=p) (x:=x) (may:=bE l p x 0);have k1:=bT (l:=l) (p:=p) (x:=x) (may:=bE l p x 0);generalize takeF l p x (bE l p x 0)=W at h1 k1 ⊢;have h2:=kX (l:=l) (p:=W.1) (x:=W.2.1);generalize numF l W.1 W.2.1=N1 at h2 ⊢;have h3:=kX (l:=l) (p:=N1.1) (x:=N1.2.1);generalize numF l N1.1 N1.2.1=N2 at h3 ⊢;have h4:=eG (l:=l) (p:=N2.1) (x:=N2.2.1) (may:=aL l N2.1 N2.2.1 [59]);have k4:=bT (l:=l) (p:=N2.1) (x:=N2.2.1) (may:=aL l N2.1 N2.2.1 [59]);generalize takeF l N2.1 N2.2.1 (aL l N2.1 N2.2.1 [59])=E at h4 k4 ⊢;refine ⟨by omega,fun hx=>?_,fun hp=>k4 (h3.2.2 (h2.2.2 (k1 hp)))⟩;obtain ⟨a4,b4⟩:=h4.2 hx;obtain ⟨a3,b3⟩:=h3.2.1 a4;obtain ⟨a2,b2⟩:=h2.2.1 a3;obtain ⟨a1,b1⟩:=h1.2 a2;omega
theorem nM {l:List Tkn}(hl:∀ t∈l,NmL t.text) (p:Nat) (x:Int):NmL (wF l p x).2.2:=by
 have h0:NmL ([]:List UInt8):=by show ([]:List UInt8).length < _;decide
 unfold wF takeF;split
 ·exact h0
 split
 ·exact h0
 rename_i t ht;split
 ·exact hl t (List.mem_of_getElem? ht)
 exact h0
def Bc (w:World) (v:Value) (b:al) (e:Ending) (w':World):Prop :=
  ∃ A n c,e=.returned (.tuple #[v,.agg #[ae b.name,.slice A n c]])∧km 500 w' A n c b.pts∧NmL b.name∧Below w.heap.size w w'
structure BdG (w wa:World) (gz gy gb:Nat) (cs:Array Value) (nm:List UInt8) (wr:World) (L:List aq) (pv:Value):Prop where
  st:Blk wr w.heap.size 94 cs
  rg:wa.grownBy wr (some w.heap.size)
  zs:Blk wr gz 94 #[.slice none 0 0,.int .i64 0,.int .i64 0,.string ⟨#[]⟩,.slice none 0 0,.slice none 0 0,.slice none 0 0]
  zb:Blk wr gy 62 #[.string ⟨#[]⟩,.slice none 0 0]
  b:Blk wr gb 62 #[ae nm,pv]
  row:bi 67 (MkC 500) 7 wr gb pv L.length L
  lt:wa.heap.size=w.heap.size+1∧gz=w.heap.size+1∧gy=w.heap.size+2∧gb=w.heap.size+3
  no:cs.toList.all noW=true
  ba:Below w.heap.size w wa
theorem BE {T:TypeId→Bool}{w w':World}{g t:Nat}{cs:Array Value}(z:Blk w g t cs) (hT:T t=true) (hc:cs.toList.all noW=true) (k:w.grownBy w' (some g)):Tch T w w' :=
 Tch.of_ne k.size z hT hc fun g' hg hne=>k.block g' hg (fun e=>hne (by injection e with e))
theorem rg7 {w w':World}{g:Nat}(h:w.grownBy w' (some g)) (b0 b1 b2 b3 b4 b5 b6:Value):w.grownBy (((((((w'.setCell ⟨g,0,none⟩ b0).setCell ⟨g,1,none⟩ b1).setCell ⟨g,2,none⟩ b2).setCell ⟨g,3,none⟩ b3).setCell ⟨g,4,none⟩ b4).setCell ⟨g,5,none⟩ b5).setCell ⟨g,6,none⟩ b6) (some g) :=
 rg_set (rg_set (rg_set (rg_set (rg_set (rg_set (rg_set h 0 b0) 1 b1) 2 b2) 3 b3) 4 b4) 5 b5) 6 b6
theorem st7 {w:World}{g t:Nat}{a0 a1 a2 a3 a4 a5 a6:Value}(h:Blk w g t #[a0,a1,a2,a3,a4,a5,a6]) (b0 b1 b2 b3 b4 b5 b6:Value):Blk (((((((w.setCell ⟨g,0,none⟩ b0).setCell ⟨g,1,none⟩ b1).setCell ⟨g,2,none⟩ b2).setCell ⟨g,3,none⟩ b3).setCell ⟨g,4,none⟩ b4).setCell ⟨g,5,none⟩ b5).setCell ⟨g,6,none⟩ b6) g t #[b0,b1,b2,b3,b4,b5,b6]:=(((((((h.s70 b0).s71 b1).s72 b2).s73 b3).s74 b4).s75 b5).s76 b6)
section
variable {w wa wr w3:World}{gz gy gb:Nat}{cs cs':Array Value}{nm:List UInt8}{L:List aq}{pv:Value}
theorem BdG.bel (h:BdG w wa gz gy gb cs nm wr L pv):Below w.heap.size w wr:=h.ba.trans (dN h.rg h.ba.size Qr)
theorem BdG.call (h:BdG w wa gz gy gb cs nm wr L pv) (hs:Blk w3 w.heap.size 94 cs') (g3:wr.grownBy w3 (some w.heap.size)) (hno:cs'.toList.all noW=true):BdG w wa gz gy gb cs' nm w3 L pv:=by
 have hl:=h.lt;exact ⟨hs,aD h.rg g3,bD g3 h.zs (by omega),bD g3 h.zb (by omega),bD g3 h.b (by omega),h.row.rg (by omega) g3 (fun _ _ x=>x.tch (BE (T:=fun _=>true) h.st rfl h.no g3)),h.lt,hno,h.ba⟩
theorem BdG.below (h:BdG w wa gz gy gb cs nm wr L pv) (hb:Below wr.heap.size wr w3):BdG w wa gz gy gb cs nm w3 L pv:=h.call (h.st.below hb h.st.lt) (da (rg_refl _ _) hb) h.no
theorem BdG.nm0 (h:BdG w wa gz gy gb cs nm wr L pv) (nm':List UInt8) (hpv:noW pv=true):BdG w wa gz gy gb cs nm' (wr.setCell ⟨gb,0,none⟩ (ae nm')) L pv:=by
 have hl:=h.lt;have ht:Tch (bK 62) wr (wr.setCell ⟨gb,0,none⟩ (ae nm')):=Tch.set h.b (by simp [bK]) (by show (noW (ae nm) && (noW pv && true))=true;rw [hpv];rfl) 0 _;exact ⟨h.st.far (p:=⟨gb,0,none⟩) (by show w.heap.size≠gb;omega) _,cJ h.rg (by show wa.heap.size≤gb;omega) _,h.zs.far (p:=⟨gb,0,none⟩) (by show gz≠gb;omega) _,h.zb.far (p:=⟨gb,0,none⟩) (by show gy≠gb;omega) _,h.b.set_ 0 _,h.row.tch ht (by decide) (fun _ _ x=>x.tch ht),h.lt,h.no,h.ba⟩
theorem BdG.b5 {xs:List Value}{w5:World}(h:BdG w wa gz gy gb cs nm wr L pv) (hown:OwJ noW wr gb 67 7 pv L.length xs) (o:Obj) (hgrow:(wr.alloc o).grownBy w5 pv.ownBlock):Blk w5 gb 62 #[ae nm,pv] :=
 (h.b.alloc o).grown hgrow (fE hown h.b (by decide))
theorem BdG.push {xs:List Value}{w5:World}{v':Value}{cs2:List Value}{m:aq}{o:Obj}(h:BdG w wa gz gy gb cs nm wr L pv) (hown:OwJ noW wr gb 67 7 pv L.length xs) (hrow:iU (MkC 500) 7 wr L xs)
 (hm:MkC 500 wr cs2 m) (hcs:cs2.length=7) (hown5:OwJ noW w5 gb 67 7 v' (L.length+1) (xs ++ cs2)) (hgrow:(wr.alloc o).grownBy w5 pv.ownBlock):BdG w wa gz gy gb cs nm (w5.setCell ⟨gb,1,none⟩ v') (L ++ [m]) v':=by
 have hl:=h.lt;have b5:=h.b5 hown o hgrow;have hs:=h.b.lt;have hb5:Below gb wr w5:=((Below.refl gb wr).alloc (by omega) o).grown hgrow (by simp;omega) (fun k hk=>(hown.at_ hk).1);have hb6:Below gb wr (w5.setCell ⟨gb,1,none⟩ v'):=hb5.setCell (p:=⟨gb,1,none⟩) Qr v';have hownA:OwJ noW (wr.alloc o) gb 67 7 pv L.length xs:=hown.belw ((Below.refl _ _).alloc Qr o);obtain ⟨A,c,hpv,_⟩:=h.row.form;have ht:Tch TA wr (w5.setCell ⟨gb,1,none⟩ v'):=((Tch.below ((Below.refl _ _).alloc Qr o)).trans (Tch.grown (T:=TA) (fun _ hu=>hu) rfl hownA hgrow)).trans (Tch.set b5 rfl (by rw [hpv];rfl) 1 v');have hl2:(L ++ [m]).length=L.length+1:=by simp
 refine ⟨h.st.below hb6 (by omega),dk h.rg (hb6.mono (by omega)),h.zs.below hb6 (by omega),h.zb.below hb6 (by omega),b5.s21 v',?_,h.lt,h.no,h.ba⟩;rw [hl2];exact ⟨hl2,xs ++ cs2,hown5.far (fE hown5 b5 (by decide)) v',(hrow.map_ fun _ _ x=>x.tch ht).snoc (hm.tch ht) hcs⟩
end
abbrev frZ (u0 u1 u2 u3 u4 u5 u6 u7 u8 u9 u10 u11 u12 u13 u14 u15 u16 u17 u18 u19 u20 u21 u22 u23 u24 u25 u26 u27 u28 u29 u30 u31 u32 u33 u34 u35 u36 u37 u38 u39 u40 u41 u42 u43 u44 u45 u46 u47 u48 u49:Value) (xf:Nat→Value):Act:=⟨List.toArray (u0 :: u1 :: u2 :: u3 :: u4 :: u5 :: u6 :: u7 :: u8 :: u9 :: u10 :: u11 :: u12 :: u13 :: u14 :: u15 :: u16 :: u17 :: u18 :: u19 :: u20 :: u21 :: u22 :: u23 :: u24 :: u25 :: u26 :: u27 :: u28 :: u29 :: u30 :: u31 :: u32 :: u33 :: u34 :: u35 :: u36 :: u37 :: u38 :: u39 :: u40 :: u41 :: u42 :: u43 :: u44 :: u45 :: u46 :: u47 :: u48 :: u49 :: xf 0 :: xf 1 :: xf 2 :: []),[]⟩
def TBG (w:World) (gs gz gy gb:Nat) (cs cs2:Array Value) (nm:List UInt8) (pv:Value) (L:List aq) (k:Nat) (wq:World):Prop :=
  Blk wq gs 94 cs∧Blk wq gb 62 #[ae nm,pv]∧bi 67 (MkC 500) 7 wq gb pv L.length L∧Below w.heap.size w wq ∧
  ((k < 2∧Blk wq gz 94 #[.slice none 0 0,.int .i64 0,.int .i64 0,.string ⟨#[]⟩,.slice none 0 0,.slice none 0 0,.slice none 0 0]∧Blk wq gy 62 #[.string ⟨#[]⟩,.slice none 0 0])∨(k=2∧Blk wq gz 94 cs2∧Blk wq gy 62 #[.string ⟨#[]⟩,.slice none 0 0])∨(k=3∧Blk wq gz 94 cs2∧Blk wq gy 62 #[ae nm,pv]))
section
variable {w wq w':World}{gs gz gy gb k:Nat}{cs cs2:Array Value}{nm:List UInt8}{pv:Value}{L:List aq}
theorem TBG.drew (h:TBG w gs gz gy gb cs cs2 nm pv L k wq):TBG w gs gz gy gb cs cs2 nm pv L k wq.drew:=⟨h.1,h.2.1,h.2.2.1.same (fun _ _ _ h=>h) (fun _ _ x=>x.tch (T:=TA) (Tch.below ((Below.refl _ _).drew))),h.2.2.2.1.drew,h.2.2.2.2⟩
theorem TBG.bel_ (h:TBG w gs gz gy gb cs cs2 nm pv L 0 wq) (hb:Below wq.heap.size wq w'):TBG w gs gz gy gb cs cs2 nm pv L 1 w':=by
 obtain ⟨h1,h2,h3,h4,h5⟩:=h;have t:Tch (fun _=>false) wq w':=Tch.below hb;rcases h5 with ⟨_,h5,h6⟩ | ⟨h5,_⟩ | ⟨h5,_⟩
 ·exact ⟨h1.below hb h1.lt,h2.below hb h2.lt,h3.tch t rfl (fun _ _ x=>x.tch t),h4.trans (hb.mono h4.size),.inl ⟨by decide,h5.below hb h5.lt,h6.below hb h6.lt⟩⟩
 ·omega
 omega
theorem TBG.z1 (h:TBG w gs gz gy gb cs cs2 nm pv L 1 wq):Blk wq gz 94 #[.slice none 0 0,.int .i64 0,.int .i64 0,.string ⟨#[]⟩,.slice none 0 0,.slice none 0 0,.slice none 0 0]:=by
 rcases h.2.2.2.2 with ⟨_,h5,h6⟩ | ⟨h5,_⟩ | ⟨h5,_⟩
 ·exact h5
 ·omega
 omega
theorem TBG.z2 (h:TBG w gs gz gy gb cs cs2 nm pv L 2 wq):Blk wq gy 62 #[.string ⟨#[]⟩,.slice none 0 0]:=by
 rcases h.2.2.2.2 with ⟨h5,_⟩ | ⟨_,_,h6⟩ | ⟨h5,_⟩
 ·omega
 ·exact h6
 omega
theorem TBG.z3 (h:TBG w gs gz gy gb cs cs2 nm pv L 3 wq):Blk wq gz 94 cs2∧Blk wq gy 62 #[ae nm,pv]:=by
 rcases h.2.2.2.2 with ⟨h5,_⟩ | ⟨h5,_⟩ | ⟨_,h5⟩
 ·omega
 ·omega
 exact h5
theorem TBG.put {b0 b1 b2 b3 b4 b5 b6:Value}(h:TBG w gs gz gy gb cs #[b0,b1,b2,b3,b4,b5,b6] nm pv L 1 wq) (n1:gs≠gz) (n2:gb≠gz) (n3:gy≠gz) (n4:w.heap.size≤gz) (_:gz < gb):TBG w gs gz gy gb cs #[b0,b1,b2,b3,b4,b5,b6] nm pv L 2 (((((((wq.setCell ⟨gz,0,none⟩ b0).setCell ⟨gz,1,none⟩ b1).setCell ⟨gz,2,none⟩ b2).setCell ⟨gz,3,none⟩ b3).setCell ⟨gz,4,none⟩ b4).setCell ⟨gz,5,none⟩ b5).setCell ⟨gz,6,none⟩ b6):=by
 have hz:=h.z1;obtain ⟨h1,h2,h3,h4,h5⟩:=h;have t:=fi (T:=bK 94) hz (by simp [bK]) rfl b0 b1 b2 b3 b4 b5 b6;rcases h5 with ⟨_,_,h6⟩ | ⟨h5,_⟩ | ⟨h5,_⟩
 ·exact ⟨dF h1 n1 _ _ _ _ _ _ _,dF h2 n2 _ _ _ _ _ _ _,h3.tch t (by decide) (fun _ _ x=>x.tch t),dp h4 n4 _ _ _ _ _ _ _,.inr (.inl ⟨rfl,st7 hz _ _ _ _ _ _ _,dF h6 n3 _ _ _ _ _ _ _⟩)⟩
 ·omega
 omega
theorem TBG.put2 (h:TBG w gs gz gy gb cs cs2 nm pv L 2 wq) (n1:gs≠gy) (n2:gb≠gy) (n3:gz≠gy) (n4:w.heap.size≤gy):TBG w gs gz gy gb cs cs2 nm pv L 3 ((wq.setCell ⟨gy,0,none⟩ (ae nm)).setCell ⟨gy,1,none⟩ pv):=by
 have hy:=h.z2;obtain ⟨h1,h2,h3,h4,h5⟩:=h;have t:=AX hy ⟨rfl,rfl⟩ (ae nm) pv;rcases h5 with ⟨h5,_⟩ | ⟨_,h5,_⟩ | ⟨h5,_⟩
 ·omega
 ·exact ⟨(h1.far (p:=⟨gy,0,none⟩) n1 _).far (p:=⟨gy,1,none⟩) n1 _,(h2.far (p:=⟨gy,0,none⟩) n2 _).far (p:=⟨gy,1,none⟩) n2 _,h3.tch t (by decide) (fun _ _ x=>x.tch t),BB h4 n4 _ _,.inr (.inr ⟨rfl,(h5.far (p:=⟨gy,0,none⟩) n3 _).far (p:=⟨gy,1,none⟩) n3 _,(hy.set_ 0 _).set_ 1 _⟩)⟩
 omega
end
theorem MksTb.of_row {w:World}{base n c:Nat}{A:Option Addr}{l:List aq}(h:bi 67 (MkC 500) 7 w base (.slice A n c) n l):km 500 w A n c l:=h.slT fun _ _ _ _ h1 h2=>h1.at_ h2
def mS (g n:Nat) (w:World):Nat:=match w.cell? ⟨g,1,none⟩,w.cell? ⟨g,2,none⟩ with | some (.int _ p),some (.int _ x)=>2 * (n - p.toNat)+(if x=0 then 1 else 0) | _,_=>0
theorem sE {w:World}{g t n p:Nat}{x:Int}{a0 a3 a4 a5 a6:Value}(h:Blk w g t #[a0,.int .i64 (p:Nat),.int .i64 x,a3,a4,a5,a6]):mS g n w=2 * (n - p)+(if x=0 then 1 else 0):=by
 unfold mS;rw [h.cell 1,h.cell 2];simp
theorem kY {w:World}{g:Nat}(h:w.heap.size=g) (cs:Array Value) (t:TypeId):∀ j u,cs.toList[j]?=some u→(w.alloc (.cells cs t)).cell? ((⟨g,0,none⟩:Addr).add j)=some u:=by
 subst h;exact World.news_of_block (heap_alloc_new w _)
theorem bO {l:List Tkn}{f p:Nat}{x:Int}{a:List aq}(h:¬ (x=0∧aL l p x [125]=false)):cB l f p x a=(p,x,a):=by
 cases f
 ·rfl
 exact if_neg h
theorem dc {l:List Tkn}{f p:Nat}{x:Int}{a:List aq}(hf:0 < f) (h:x=0∧aL l p x [125]=false):cB l f p x a=cB l (f - 1) (mkF l p x).1 (mkF l p x).2.1 (a ++ [(mkF l p x).2.2]):=by
 obtain ⟨f,rfl⟩:∃ g,f=g+1:=⟨f - 1,by omega⟩;exact if_pos h
theorem yg (w:World) (A:Option Addr) (n c:Nat) (l:List Tkn) (h:TkS w A n c l) (hn:n≤65536) (p:Nat) (hp:p≤n) (x:Int) (Ln:List UInt8) (B1:Option Addr) (m1 e1:Nat) (B2:Option Addr) (m2 e2:Nat) (B3:Option Addr) (m3 e3:Nat) (htx:∀ t∈l,NmL t.text) (N:Nat × Int × al) (hN:dv l p x=N) :
 Calls Tryz.prog 84 #[.agg #[.slice A n c,.int .i64 (p:Nat),.int .i64 x,ae Ln,.slice B1 m1 e1,.slice B2 m2 e2,.slice B3 m3 e3]] w (Bc w (.agg #[.slice A n c,.int .i64 (N.1:Nat),.int .i64 N.2.1,ae Ln,.slice B1 m1 e1,.slice B2 m2 e2,.slice B3 m3 e3]) N.2.2):=by
 have hl:=h.1;obtain ⟨i0,hi0,hz0,hz1,hz2⟩:=info_parts ss;have HI:=Qh (And.intro hi0 (And.intro hz0 (And.intro hz1 hz2)));clear hi0 hz0 hz1 hz2;obtain ⟨W,hW⟩:∃ W,wF l p x=W:=⟨_,rfl⟩;obtain ⟨E,hE⟩:∃ E,eF l W.1 W.2.1 [123]=E:=⟨_,rfl⟩;unfold dv at hN;simp only [hW,hE] at hN;have hW1:W.1≤n:=by rw [← hW,← hl];exact bT (by omega)
 have hE1:E.1≤n:=by rw [← hE,← hl];exact bT (by omega)
 have HWN:=Qh (show NmL W.2.2 by rw [← hW];exact nM htx p x);have HN:=Qh hN;have HW:=Qh hW;have HE:=Qh hE;have HK:=Qh h;have HX:=Qh htx;clear hN hW hE h htx;go_in;go_wp2_with fail;have hs0:=(((Blk.new w 94 #[.slice A n c,.int .i64 (p:Nat),.int .i64 x,ae Ln,.slice B1 m1 e1,.slice B2 m2 e2,.slice B3 m3 e3]).alloc (.cells #[.slice none 0 0,.int .i64 0,.int .i64 0,.string ⟨#[]⟩,.slice none 0 0,.slice none 0 0,.slice none 0 0] 94)).alloc (.cells #[.string ⟨#[]⟩,.slice none 0 0] 62)).alloc (.cells #[.string ⟨#[]⟩,.slice none 0 0] 62);have hz0:=((Blk.new (w.alloc (.cells #[.slice A n c,.int .i64 (p:Nat),.int .i64 x,ae Ln,.slice B1 m1 e1,.slice B2 m2 e2,.slice B3 m3 e3] 94)) 94 #[.slice none 0 0,.int .i64 0,.int .i64 0,.string ⟨#[]⟩,.slice none 0 0,.slice none 0 0,.slice none 0 0]).alloc (.cells #[.string ⟨#[]⟩,.slice none 0 0] 62)).alloc (.cells #[.string ⟨#[]⟩,.slice none 0 0] 62);have hy0:=(Blk.new ((w.alloc (.cells #[.slice A n c,.int .i64 (p:Nat),.int .i64 x,ae Ln,.slice B1 m1 e1,.slice B2 m2 e2,.slice B3 m3 e3] 94)).alloc (.cells #[.slice none 0 0,.int .i64 0,.int .i64 0,.string ⟨#[]⟩,.slice none 0 0,.slice none 0 0,.slice none 0 0] 94)) 62 #[.string ⟨#[]⟩,.slice none 0 0]).alloc (.cells #[.string ⟨#[]⟩,.slice none 0 0] 62);have hb0:=Blk.new (((w.alloc (.cells #[.slice A n c,.int .i64 (p:Nat),.int .i64 x,ae Ln,.slice B1 m1 e1,.slice B2 m2 e2,.slice B3 m3 e3] 94)).alloc (.cells #[.slice none 0 0,.int .i64 0,.int .i64 0,.string ⟨#[]⟩,.slice none 0 0,.slice none 0 0,.slice none 0 0] 94)).alloc (.cells #[.string ⟨#[]⟩,.slice none 0 0] 62)) 62 #[.string ⟨#[]⟩,.slice none 0 0];have hr0:=aZ (aZ (aZ (rg_refl w.heap.size (w.alloc (.cells #[.slice A n c,.int .i64 (p:Nat),.int .i64 x,ae Ln,.slice B1 m1 e1,.slice B2 m2 e2,.slice B3 m3 e3] 94))) (.cells #[.slice none 0 0,.int .i64 0,.int .i64 0,.string ⟨#[]⟩,.slice none 0 0,.slice none 0 0,.slice none 0 0] 94)) (.cells #[.string ⟨#[]⟩,.slice none 0 0] 62)) (.cells #[.string ⟨#[]⟩,.slice none 0 0] 62);have hba:Below w.heap.size w (w.alloc (.cells #[.slice A n c,.int .i64 (p:Nat),.int .i64 x,ae Ln,.slice B1 m1 e1,.slice B2 m2 e2,.slice B3 m3 e3] 94)):=(aa w).alloc Qr _;have hwa:(w.alloc (.cells #[.slice A n c,.int .i64 (p:Nat),.int .i64 x,ae Ln,.slice B1 m1 e1,.slice B2 m2 e2,.slice B3 m3 e3] 94)).heap.size=w.heap.size+1:=by simp
 generalize hw0:(((w.alloc (.cells #[.slice A n c,.int .i64 (p:Nat),.int .i64 x,ae Ln,.slice B1 m1 e1,.slice B2 m2 e2,.slice B3 m3 e3] 94)).alloc (.cells #[.slice none 0 0,.int .i64 0,.int .i64 0,.string ⟨#[]⟩,.slice none 0 0,.slice none 0 0,.slice none 0 0] 94)).alloc (.cells #[.string ⟨#[]⟩,.slice none 0 0] 62)).alloc (.cells #[.string ⟨#[]⟩,.slice none 0 0] 62)=w0 at hs0 hz0 hy0 hb0 hr0 ⊢;have hG0:BdG w (w.alloc (.cells #[.slice A n c,.int .i64 (p:Nat),.int .i64 x,ae Ln,.slice B1 m1 e1,.slice B2 m2 e2,.slice B3 m3 e3] 94)) (w.heap.size+1) (w.heap.size+2) (w.heap.size+3) #[.slice A n c,.int .i64 (p:Nat),.int .i64 x,ae Ln,.slice B1 m1 e1,.slice B2 m2 e2,.slice B3 m3 e3] [] w0 [] (.slice none 0 0):=⟨hs0,hr0,by simpa using hz0,by simpa using hy0,by simpa using hb0,bi.nil,⟨hwa,rfl,rfl,rfl⟩,rfl,hba⟩;generalize (w.alloc (.cells #[.slice A n c,.int .i64 (p:Nat),.int .i64 x,ae Ln,.slice B1 m1 e1,.slice B2 m2 e2,.slice B3 m3 e3] 94))=wa at hG0;have HG0:=Qh hG0;clear hs0 hz0 hy0 hb0 hr0 hba hwa hw0 hG0;(refine (gn w0 A n c l (HK.out.belw HG0.out.bel) hn p hp x Ln B1 m1 e1 B2 m2 e2 B3 m3 e3 W HW.out).mono ?_);rintro e w1 ⟨rfl,hb1⟩;have hG1:=HG0.out.below hb1;have HG1:=Qh hG1;have hl1:w.heap.size+3 < w1.heap.size:=by have:=hG1.b.lt;have:=hG1.lt;omega
 have hl1a:w.heap.size < w1.heap.size:=by omega
 have hl1b:w.heap.size+1 < w1.heap.size:=by omega
 have hl1c:w.heap.size+2 < w1.heap.size:=by omega
 obtain ⟨y0,y1,y2,y3,y4,y5,y6⟩:=hG1.st.c7;obtain ⟨f0,f1,f2,f3,f4,f5,f6⟩:=hG1.st.f7;obtain ⟨cb0,cb1⟩:=hG1.b.c2;obtain ⟨fb0,fb1⟩:=hG1.b.f2;clear hG1 hb1 HG0;go_wp2_with fail;have hG1:=((HG1.out.call (st7 HG1.out.st (.slice A n c) (.int .i64 (W.1:Nat)) (.int .i64 W.2.1) (.string ⟨Ln.toArray⟩) (.slice B1 m1 e1) (.slice B2 m2 e2) (.slice B3 m3 e3)) (rg7 (rg_refl _ _) _ _ _ _ _ _ _) rfl).nm0 W.2.2 rfl);have HG2:=Qh hG1;clear hG1 y0 y1 y2 y3 y4 y5 y6 f0 f1 f2 f3 f4 f5 f6 cb0 cb1 fb0 fb1 HG1 hl1 hl1a hl1b hl1c;(refine (de _ A n c l (HK.out.belw HG2.out.bel) hn W.1 hW1 W.2.1 Ln B1 m1 e1 B2 m2 e2 B3 m3 e3 [123] E HE.out).mono ?_);rintro e w2 ⟨rfl,hb2⟩;have hG3:=HG2.out.below hb2;have HG3:=Qh hG3;have hl1:w.heap.size+3 < w2.heap.size:=by have:=hG3.b.lt;have:=hG3.lt;omega
 have hl1a:w.heap.size < w2.heap.size:=by omega
 obtain ⟨y0,y1,y2,y3,y4,y5,y6⟩:=hG3.st.c7;obtain ⟨f0,f1,f2,f3,f4,f5,f6⟩:=hG3.st.f7;clear hG3 hb2 HG2;go_wp2_with fail;have hG4:=HG3.out.call (st7 HG3.out.st (.slice A n c) (.int .i64 (E.1:Nat)) (.int .i64 E.2.1) (.string ⟨Ln.toArray⟩) (.slice B1 m1 e1) (.slice B2 m2 e2) (.slice B3 m3 e3)) (rg7 (rg_refl _ _) _ _ _ _ _ _ _) rfl;have HG4:=Qh hG4;clear hG4 y0 y1 y2 y3 y4 y5 y6 f0 f1 f2 f3 f4 f5 f6 HG3 hl1 hl1a;obtain ⟨M,hM⟩:∃ M,cB l (l.length+1) E.1 E.2.1 []=M:=⟨_,rfl⟩;have hN:=HN.out;rw [hM] at hN;have HM:=Qh hM;have HN2:=Qh hN;clear hN hM HN;go_loopw [] (fun wr=>∃ f p' x' L pv,BdG w wa (w.heap.size+1) (w.heap.size+2) (w.heap.size+3) #[.slice A n c,.int .i64 (p':Nat),.int .i64 x',ae Ln,.slice B1 m1 e1,.slice B2 m2 e2,.slice B3 m3 e3] W.2.2 wr L pv∧p'≤n∧(x'=0→n+1≤f+p'∧L.length≤p')∧Hid (cB l f p' x' L=M)) (fun wr=>mS w.heap.size n wr)
 case atStart=>exact ⟨_,E.1,E.2.1,[],_,HG4.out,hE1,fun _=>⟨by omega,Nat.zero_le _⟩,HM⟩
 case round =>
  clear HM HG4;obtain ⟨f,p',x',L,pv,hbd,hp',hfl,HR⟩:=hrel;have HBD:=Qh hbd;have hle1:w.heap.size+3 < wr.heap.size:=by have:=hbd.b.lt;have:=hbd.lt;omega
  have hl1a:w.heap.size < wr.heap.size:=by omega
  obtain ⟨Ap,cp,rfl,hcp⟩:=hbd.row.form;obtain ⟨y0,y1,y2,y3,y4,y5,y6⟩:=hbd.st.c7;clear hbd;by_cases hx:x'=0;rotate_left
  ·have t1:(x' == 0)=false:=beq_eq_false_iff_ne.2 hx
   have t2:(x'=0)=False:=eq_false hx;have hM2:=HR.out;rw [bO (fun h=>hx h.1)] at hM2;subst hM2;have hN:=HN2.out;subst hN;clear HN2 HR hfl hx;go_wp2_with fail;clear y0 y1 y2 y3 y4 y5 y6;change Code.wp _ _ _ (frZ _ _ _ _ _ _ _ _ _ _ _ _ _ _ _ _ _ _ _ _ _ _ _ _ _ _ _ _ _ _ _ _ _ _ _ _ _ _ _ _ _ _ _ _ _ _ _ _ _ _ (upd (upd (upd (fun _=>undef) 0 _) 1 _) 2 _)) _;have hgl:=HBD.out.lt;obtain ⟨E2,hE2⟩:∃ E2,eF l p' x' [125]=E2:=⟨_,rfl⟩;have HE2:=Qh hE2;clear hE2;have H0:=Qh (show TBG w w.heap.size (w.heap.size+1) (w.heap.size+2) (w.heap.size+3) #[.slice A n c,.int .i64 (p':Nat),.int .i64 x',ae Ln,.slice B1 m1 e1,.slice B2 m2 e2,.slice B3 m3 e3] #[.slice A n c,.int .i64 (E2.1:Nat),.int .i64 E2.2.1,ae Ln,.slice B1 m1 e1,.slice B2 m2 e2,.slice B3 m3 e3] W.2.2 (.slice Ap L.length cp) L 0 wr from ⟨HBD.out.st,HBD.out.b,HBD.out.row,HBD.out.bel,.inl ⟨by decide,HBD.out.zs,HBD.out.zb⟩⟩);refine dW [1,3,4] (fun _=>3) (R:=fun ri=>List.getD (VE (.agg #[.slice A n c,.int .i64 (p':Nat),.int .i64 x',ae Ln,.slice B1 m1 e1,.slice B2 m2 e2,.slice B3 m3 e3]) :: VE (.agg #[.slice A n c,.int .i64 (E2.1:Nat),.int .i64 E2.2.1,ae Ln,.slice B1 m1 e1,.slice B2 m2 e2,.slice B3 m3 e3]) :: VE (.agg #[ae W.2.2,.slice Ap L.length cp]) :: []) ri VA) (T:=fun k _ wq=>TBG w w.heap.size (w.heap.size+1) (w.heap.size+2) (w.heap.size+3) #[.slice A n c,.int .i64 (p':Nat),.int .i64 x',ae Ln,.slice B1 m1 e1,.slice B2 m2 e2,.slice B3 m3 e3] #[.slice A n c,.int .i64 (E2.1:Nat),.int .i64 E2.2.1,ae Ln,.slice B1 m1 e1,.slice B2 m2 e2,.slice B3 m3 e3] W.2.2 (.slice Ap L.length cp) L k wq) (by kernel_rfl) ?_ ?_ ?_ ?_ ?_ ?_ ?_ ?_ ?_ ?_ ?_
   ·exact aG ⟨(fun _ _=>rfl),(fun _ _=>rfl),(fun _ _=>rfl),(fun _ _=>rfl),(fun _ _=>rfl),trivial⟩
   ·exact aG (cd _ 0 (by kernel_rfl))
   ·decide
   ·intro j hj
    obtain rfl | rfl | rfl:=(show j=0∨j=1∨j=2 by simp at hj;omega)
    ·exact ⟨1,rfl,rfl⟩
    ·exact ⟨3,rfl,rfl⟩
    exact ⟨4,rfl,rfl⟩
   ·intro i o j ho hj
    have hlt:=eJ hj;obtain rfl | rfl:=(show j=0∨j=1 by simp at hlt;omega)
    ·injection hj with hj;subst hj
     injection ho with ho;subst ho;exact ⟨⟨1,.data⟩,by simp,rfl,rfl⟩
    injection hj with hj;subst hj;injection ho with ho;subst ho;exact ⟨⟨3,.chain⟩,by simp,rfl,rfl⟩
   ·exact fun _ _ _ _ _ _ h=>h
   ·exact H0.out.drew
   ·exact fun i _=>.inl Qr
   ·refine aG ⟨?_,(fun h=>absurd (by decide) h),?_,(fun h=>absurd (by decide) h),(fun h=>absurd (by decide) h),trivial⟩
    ·intro _ k xf wq hkb hT hd K hK
     obtain ⟨x0,x1,x2,x3,x4,x5,x6⟩:=hT.1.c7;(try dsimp only [frZ]);go_simp;have hz:=hK.out _ rfl;dsimp only [frZ] at hz;exact hz
    intro _ k xf wq hkb hT hd K hK;obtain ⟨x0,x1⟩:=hT.2.1.c2;(try dsimp only [frZ]);go_simp;have hz:=hK.out _ rfl;dsimp only [frZ] at hz;exact hz
   ·intro k i o hk ho
    have hlt:=eJ hk;obtain rfl | rfl | rfl:=(show k=0∨k=1∨k=2 by simp at hlt;omega)
    ·injection hk with hk;subst hk
     injection ho with ho;subst ho;intro xf wq hT hd K hK;have dq0:xf 0=(.agg #[.slice A n c,.int .i64 (p':Nat),.int .i64 x',ae Ln,.slice B1 m1 e1,.slice B2 m2 e2,.slice B3 m3 e3]):=hd ⟨0,.data⟩ (by simp) rfl;(try dsimp only [frZ]);(try simp only [dq0]);go_simp;go_at_call 44;(refine (de _ A n c l (HK.out.belw hT.2.2.2.1) hn p' hp' x' Ln B1 m1 e1 B2 m2 e2 B3 m3 e3 [125] E2 HE2.out).mono ?_);rintro e wr2 ⟨rfl,hb⟩;have hz:=hK.out _ _ rfl (TBG.bel_ hT hb);dsimp only [frZ] at hz;simp only [dq0] at hz;exact hz
    ·injection hk with hk;subst hk
     injection ho with ho;subst ho;intro xf wq hT hd K hK;have dq1:xf 1=(.agg #[.slice A n c,.int .i64 (E2.1:Nat),.int .i64 E2.2.1,ae Ln,.slice B1 m1 e1,.slice B2 m2 e2,.slice B3 m3 e3]):=hd ⟨1,.data⟩ (by simp) rfl;obtain ⟨y0,y1,y2,y3,y4,y5,y6⟩:=(TBG.z1 hT).c7;obtain ⟨f0,f1,f2,f3,f4,f5,f6⟩:=(TBG.z1 hT).f7;(try dsimp only [frZ]);(try simp only [dq1]);go_simp;have hz:=hK.out undef _ trivial (TBG.put hT (by omega) (by omega) (by omega) (by omega) (by omega));dsimp only [frZ] at hz;simp only [dq1] at hz;exact hz
    injection hk with hk;subst hk;injection ho with ho;subst ho;intro xf wq hT hd K hK;have dq2:xf 2=(.agg #[ae W.2.2,.slice Ap L.length cp]):=hd ⟨2,.data⟩ (by simp) rfl;obtain ⟨y0,y1⟩:=(TBG.z2 hT).c2;obtain ⟨f0,f1⟩:=(TBG.z2 hT).f2;(try dsimp only [frZ]);(try simp only [dq2]);go_simp;have hz:=hK.out undef _ trivial (TBG.put2 hT (by omega) (by omega) (by omega) (by omega));dsimp only [frZ] at hz;simp only [dq2] at hz;exact hz
   intro xf wq hT hr;have hT:TBG w w.heap.size (w.heap.size+1) (w.heap.size+2) (w.heap.size+3) #[.slice A n c,.int .i64 (p':Nat),.int .i64 x',ae Ln,.slice B1 m1 e1,.slice B2 m2 e2,.slice B3 m3 e3] #[.slice A n c,.int .i64 (E2.1:Nat),.int .i64 E2.2.1,ae Ln,.slice B1 m1 e1,.slice B2 m2 e2,.slice B3 m3 e3] W.2.2 (.slice Ap L.length cp) L 3 wq:=hT;obtain ⟨y0,y1,y2,y3,y4,y5,y6⟩:=(TBG.z3 hT).1.c7;obtain ⟨z0,z1⟩:=(TBG.z3 hT).2.c2;have hrow:=MksTb.of_row hT.2.2.1;have hbel:=hT.2.2.2.1;dsimp only [frZ];clear hT hr;go_wp2_with fail;refine bodyPost_ret (v:=.tuple #[.agg #[.slice A n c,.int .i64 (E2.1:Nat),.int .i64 E2.2.1,ae Ln,.slice B1 m1 e1,.slice B2 m2 e2,.slice B3 m3 e3],.agg #[ae W.2.2,.slice Ap L.length cp]]) (by simp [results,Tryz.results84,go_sem, *] <;> trivial) rfl ?_;rw [← HE2.out];exact ⟨_,_,_,rfl,hrow,HWN.out,hbel⟩
  subst hx;obtain ⟨hf1,hf2⟩:=hfl rfl;obtain ⟨v,hv⟩:∃ v,aL l p' 0 [125]=v:=⟨_,rfl⟩;have HV:=Qh hv;clear hv hfl;go_wp2_with fail;(refine (iP _ A n c l (HK.out.belw HBD.out.bel) hn p' hp' 0 Ln B1 m1 e1 B2 m2 e2 B3 m3 e3 [125] v HV.out).mono ?_);rintro e w3 ⟨rfl,hb3⟩;have HB3:=Qh (HBD.out.below hb3);clear hb3 y0 y1 y2 y3 y4 y5 y6 hl1a hle1;have hl3:w.heap.size+3 < w3.heap.size:=by have:=HB3.out.b.lt;have:=HB3.out.lt;omega
  have hl3a:w.heap.size < w3.heap.size:=by omega
  have hne0:¬ w.heap.size=w3.heap.size:=by omega
  obtain ⟨y0,y1,y2,y3,y4,y5,y6⟩:=HB3.out.st.c7;cases v;rotate_left
  ·have hM2:=HR.out
   rw [bO (fun h=>by rw [HV.out] at h;exact absurd h.2 (by decide))] at hM2;subst hM2;have hN:=HN2.out;subst hN;clear HN2 HR y0 y1 y2 y3 y4 y5 y6;go_wp2_with fail;change Code.wp _ _ _ (frZ _ _ _ _ _ _ _ _ _ _ _ _ _ _ _ _ _ _ _ _ _ _ _ _ _ _ _ _ _ _ _ _ _ _ _ _ _ _ _ _ _ _ _ _ _ _ _ _ _ _ (upd (upd (upd (fun _=>undef) 0 _) 1 _) 2 _)) _;have hgl:=HB3.out.lt;obtain ⟨E2,hE2⟩:∃ E2,eF l p' 0 [125]=E2:=⟨_,rfl⟩;have HE2:=Qh hE2;clear hE2;have H0:=Qh (show TBG w w.heap.size (w.heap.size+1) (w.heap.size+2) (w.heap.size+3) #[.slice A n c,.int .i64 (p':Nat),.int .i64 0,ae Ln,.slice B1 m1 e1,.slice B2 m2 e2,.slice B3 m3 e3] #[.slice A n c,.int .i64 (E2.1:Nat),.int .i64 E2.2.1,ae Ln,.slice B1 m1 e1,.slice B2 m2 e2,.slice B3 m3 e3] W.2.2 (.slice Ap L.length cp) L 0 w3 from ⟨HB3.out.st,HB3.out.b,HB3.out.row,HB3.out.bel,.inl ⟨by decide,HB3.out.zs,HB3.out.zb⟩⟩);refine dW [1,3,4] (fun _=>3) (R:=fun ri=>List.getD (VE (.agg #[.slice A n c,.int .i64 (p':Nat),.int .i64 0,ae Ln,.slice B1 m1 e1,.slice B2 m2 e2,.slice B3 m3 e3]) :: VE (.agg #[.slice A n c,.int .i64 (E2.1:Nat),.int .i64 E2.2.1,ae Ln,.slice B1 m1 e1,.slice B2 m2 e2,.slice B3 m3 e3]) :: VE (.agg #[ae W.2.2,.slice Ap L.length cp]) :: []) ri VA) (T:=fun k _ wq=>TBG w w.heap.size (w.heap.size+1) (w.heap.size+2) (w.heap.size+3) #[.slice A n c,.int .i64 (p':Nat),.int .i64 0,ae Ln,.slice B1 m1 e1,.slice B2 m2 e2,.slice B3 m3 e3] #[.slice A n c,.int .i64 (E2.1:Nat),.int .i64 E2.2.1,ae Ln,.slice B1 m1 e1,.slice B2 m2 e2,.slice B3 m3 e3] W.2.2 (.slice Ap L.length cp) L k wq) (by kernel_rfl) ?_ ?_ ?_ ?_ ?_ ?_ ?_ ?_ ?_ ?_ ?_
   ·exact aG ⟨(fun _ _=>rfl),(fun _ _=>rfl),(fun _ _=>rfl),(fun _ _=>rfl),(fun _ _=>rfl),trivial⟩
   ·exact aG (cd _ 0 (by kernel_rfl))
   ·decide
   ·intro j hj
    obtain rfl | rfl | rfl:=(show j=0∨j=1∨j=2 by simp at hj;omega)
    ·exact ⟨1,rfl,rfl⟩
    ·exact ⟨3,rfl,rfl⟩
    exact ⟨4,rfl,rfl⟩
   ·intro i o j ho hj
    have hlt:=eJ hj;obtain rfl | rfl:=(show j=0∨j=1 by simp at hlt;omega)
    ·injection hj with hj;subst hj
     injection ho with ho;subst ho;exact ⟨⟨1,.data⟩,by simp,rfl,rfl⟩
    injection hj with hj;subst hj;injection ho with ho;subst ho;exact ⟨⟨3,.chain⟩,by simp,rfl,rfl⟩
   ·exact fun _ _ _ _ _ _ h=>h
   ·exact H0.out.drew
   ·exact fun i _=>.inl Qr
   ·refine aG ⟨?_,(fun h=>absurd (by decide) h),?_,(fun h=>absurd (by decide) h),(fun h=>absurd (by decide) h),trivial⟩
    ·intro _ k xf wq hkb hT hd K hK
     obtain ⟨x0,x1,x2,x3,x4,x5,x6⟩:=hT.1.c7;(try dsimp only [frZ]);go_simp;have hz:=hK.out _ rfl;dsimp only [frZ] at hz;exact hz
    intro _ k xf wq hkb hT hd K hK;obtain ⟨x0,x1⟩:=hT.2.1.c2;(try dsimp only [frZ]);go_simp;have hz:=hK.out _ rfl;dsimp only [frZ] at hz;exact hz
   ·intro k i o hk ho
    have hlt:=eJ hk;obtain rfl | rfl | rfl:=(show k=0∨k=1∨k=2 by simp at hlt;omega)
    ·injection hk with hk;subst hk
     injection ho with ho;subst ho;intro xf wq hT hd K hK;have dq0:xf 0=(.agg #[.slice A n c,.int .i64 (p':Nat),.int .i64 0,ae Ln,.slice B1 m1 e1,.slice B2 m2 e2,.slice B3 m3 e3]):=hd ⟨0,.data⟩ (by simp) rfl;(try dsimp only [frZ]);(try simp only [dq0]);go_simp;go_at_call 44;(refine (de _ A n c l (HK.out.belw hT.2.2.2.1) hn p' hp' 0 Ln B1 m1 e1 B2 m2 e2 B3 m3 e3 [125] E2 HE2.out).mono ?_);rintro e wr2 ⟨rfl,hb⟩;have hz:=hK.out _ _ rfl (TBG.bel_ hT hb);dsimp only [frZ] at hz;simp only [dq0] at hz;exact hz
    ·injection hk with hk;subst hk
     injection ho with ho;subst ho;intro xf wq hT hd K hK;have dq1:xf 1=(.agg #[.slice A n c,.int .i64 (E2.1:Nat),.int .i64 E2.2.1,ae Ln,.slice B1 m1 e1,.slice B2 m2 e2,.slice B3 m3 e3]):=hd ⟨1,.data⟩ (by simp) rfl;obtain ⟨y0,y1,y2,y3,y4,y5,y6⟩:=(TBG.z1 hT).c7;obtain ⟨f0,f1,f2,f3,f4,f5,f6⟩:=(TBG.z1 hT).f7;(try dsimp only [frZ]);(try simp only [dq1]);go_simp;have hz:=hK.out undef _ trivial (TBG.put hT (by omega) (by omega) (by omega) (by omega) (by omega));dsimp only [frZ] at hz;simp only [dq1] at hz;exact hz
    injection hk with hk;subst hk;injection ho with ho;subst ho;intro xf wq hT hd K hK;have dq2:xf 2=(.agg #[ae W.2.2,.slice Ap L.length cp]):=hd ⟨2,.data⟩ (by simp) rfl;obtain ⟨y0,y1⟩:=(TBG.z2 hT).c2;obtain ⟨f0,f1⟩:=(TBG.z2 hT).f2;(try dsimp only [frZ]);(try simp only [dq2]);go_simp;have hz:=hK.out undef _ trivial (TBG.put2 hT (by omega) (by omega) (by omega) (by omega));dsimp only [frZ] at hz;simp only [dq2] at hz;exact hz
   intro xf wq hT hr;have hT:TBG w w.heap.size (w.heap.size+1) (w.heap.size+2) (w.heap.size+3) #[.slice A n c,.int .i64 (p':Nat),.int .i64 0,ae Ln,.slice B1 m1 e1,.slice B2 m2 e2,.slice B3 m3 e3] #[.slice A n c,.int .i64 (E2.1:Nat),.int .i64 E2.2.1,ae Ln,.slice B1 m1 e1,.slice B2 m2 e2,.slice B3 m3 e3] W.2.2 (.slice Ap L.length cp) L 3 wq:=hT;obtain ⟨y0,y1,y2,y3,y4,y5,y6⟩:=(TBG.z3 hT).1.c7;obtain ⟨z0,z1⟩:=(TBG.z3 hT).2.c2;have hrow:=MksTb.of_row hT.2.2.1;have hbel:=hT.2.2.2.1;dsimp only [frZ];clear hT hr;go_wp2_with fail;refine bodyPost_ret (v:=.tuple #[.agg #[.slice A n c,.int .i64 (E2.1:Nat),.int .i64 E2.2.1,ae Ln,.slice B1 m1 e1,.slice B2 m2 e2,.slice B3 m3 e3],.agg #[ae W.2.2,.slice Ap L.length cp]]) (by simp [results,Tryz.results84,go_sem, *] <;> trivial) rfl ?_;rw [← HE2.out];exact ⟨_,_,_,rfl,hrow,HWN.out,hbel⟩
  obtain ⟨T1,hT1⟩:∃ T,wF l p' 0=T:=⟨_,rfl⟩;obtain ⟨N1,hN1⟩:∃ T,numF l T1.1 T1.2.1=T:=⟨_,rfl⟩;obtain ⟨N2,hN2'⟩:∃ T,numF l N1.1 N1.2.1=T:=⟨_,rfl⟩;obtain ⟨T2,hT2⟩:∃ T,eF l N2.1 N2.2.1 [59]=T:=⟨_,rfl⟩
  have hmk:mkF l p' 0=(T2.1,T2.2.1,⟨T1.2.2,rd N1.2.2,rd N2.2.2⟩):=by
   unfold mkF;simp only [hT1,hN1,hN2',hT2]
  have g1:T1.1≤n:=by rw [← hT1,← hl];exact bT (by omega)
  have g2:N1.1≤n:=by rw [← hN1,← hl];exact kX.2.2 (by omega)
  have g3:N2.1≤n:=by rw [← hN2',← hl];exact kX.2.2 (by omega)
  have g4:T2.1≤n:=by rw [← hT2,← hl];exact bT (by omega)
  have HT1:=Qh hT1;have HN1:=Qh hN1;have HN2':=Qh hN2';have HT2:=Qh hT2;have HMK:=Qh hmk;have HNM:=Qh (show NmL T1.2.2 by rw [← hT1];exact nM HX.out p' 0);clear hT1 hN1 hN2' hT2 hmk;clear y0 y1 y2 y3 y4 y5 y6;obtain ⟨y0,y1,y2,y3,y4,y5,y6⟩:=HB3.out.st.c7;have hbw:∀ {X:World},w3.grownBy X (some w.heap.size)→Below w.heap.size w X:=fun k=>HB3.out.bel.trans (dN k HB3.out.bel.size Qr)
  have K0:=aZ (rg_refl w.heap.size w3) (.cells #[.string ⟨#[]⟩,.bool false,.slice none 0 0,.slice none 0 0,.bool false,.slice none 0 0,.slice none 0 0] 67);go_wp2_with fail;(refine (gn _ A n c l (HK.out.belw (hbw K0)) hn p' hp' 0 Ln B1 m1 e1 B2 m2 e2 B3 m3 e3 T1 HT1.out).mono ?_);rintro e w4 ⟨rfl,hb4⟩;have K4:=da K0 hb4;have s4:=(HB3.out.st.alloc (.cells #[.string ⟨#[]⟩,.bool false,.slice none 0 0,.slice none 0 0,.bool false,.slice none 0 0,.slice none 0 0] 67)).below hb4 (by simp;omega);have p4:=(Blk.new w3 67 #[.string ⟨#[]⟩,.bool false,.slice none 0 0,.slice none 0 0,.bool false,.slice none 0 0,.slice none 0 0]).below hb4 (by simp);have hlp:w3.heap.size < w4.heap.size:=p4.lt;have hl4:w.heap.size < w4.heap.size:=s4.lt;have hnp:¬ w.heap.size=w3.heap.size:=by omega
  have hnq:w.heap.size≠w3.heap.size:=by omega
  clear y0 y1 y2 y3 y4 y5 y6 hb4 K0;obtain ⟨y0,y1,y2,y3,y4,y5,y6⟩:=s4.c7;obtain ⟨f0,f1,f2,f3,f4,f5,f6⟩:=s4.f7;obtain ⟨cp0,_⟩:=p4.c7;obtain ⟨fp0,_⟩:=p4.f7;have K4':=Qh (cJ (rg7 K4 (.slice A n c) (.int .i64 (T1.1:Nat)) (.int .i64 T1.2.1) (.string ⟨Ln.toArray⟩) (.slice B1 m1 e1) (.slice B2 m2 e2) (.slice B3 m3 e3)) (p:=⟨w3.heap.size,0,none⟩) Qr (.string ⟨T1.2.2.toArray⟩));have S4:=Qh ((st7 s4 (.slice A n c) (.int .i64 (T1.1:Nat)) (.int .i64 T1.2.1) (.string ⟨Ln.toArray⟩) (.slice B1 m1 e1) (.slice B2 m2 e2) (.slice B3 m3 e3)).far (p:=⟨w3.heap.size,0,none⟩) hnq (.string ⟨T1.2.2.toArray⟩));have P4:=Qh ((dF p4 hnq.symm (.slice A n c) (.int .i64 (T1.1:Nat)) (.int .i64 T1.2.1) (.string ⟨Ln.toArray⟩) (.slice B1 m1 e1) (.slice B2 m2 e2) (.slice B3 m3 e3)).set_ 0 (.string ⟨T1.2.2.toArray⟩));clear K4 s4 p4;go_wp2_with fail;clear y0 y1 y2 y3 y4 y5 y6 f0 f1 f2 f3 f4 f5 f6 cp0 fp0;(refine (nL _ A n c l (HK.out.belw (hbw K4'.out)) hn T1.1 g1 T1.2.1 Ln B1 m1 e1 B2 m2 e2 B3 m3 e3 N1 HN1.out).mono ?_);rintro e w5 ⟨b5,A5,n5,c5,D5,d5,k5,rfl,q5,hb5⟩;have K5:=da K4'.out hb5;have s5:=S4.out.below hb5 S4.out.lt;have p5:=P4.out.below hb5 P4.out.lt;have hlp5:w3.heap.size < w5.heap.size:=p5.lt;have hl5:w.heap.size < w5.heap.size:=s5.lt;clear hb5 K4' S4 P4 hlp hl4;obtain ⟨y0,y1,y2,y3,y4,y5,y6⟩:=s5.c7;obtain ⟨f0,f1,f2,f3,f4,f5,f6⟩:=s5.f7;obtain ⟨_,cp1,cp2,cp3,_⟩:=p5.c7;obtain ⟨_,fp1,fp2,fp3,_⟩:=p5.f7;have K5':=Qh (cJ (cJ (cJ (rg7 K5 (.slice A n c) (.int .i64 (N1.1:Nat)) (.int .i64 N1.2.1) (.string ⟨Ln.toArray⟩) (.slice B1 m1 e1) (.slice B2 m2 e2) (.slice B3 m3 e3)) (p:=⟨w3.heap.size,1,none⟩) Qr (.bool b5)) (p:=⟨w3.heap.size,2,none⟩) Qr (.slice A5 n5 c5)) (p:=⟨w3.heap.size,3,none⟩) Qr (.slice D5 d5 k5));have S5:=Qh ((((st7 s5 (.slice A n c) (.int .i64 (N1.1:Nat)) (.int .i64 N1.2.1) (.string ⟨Ln.toArray⟩) (.slice B1 m1 e1) (.slice B2 m2 e2) (.slice B3 m3 e3)).far (p:=⟨w3.heap.size,1,none⟩) hnq (.bool b5)).far (p:=⟨w3.heap.size,2,none⟩) hnq (.slice A5 n5 c5)).far (p:=⟨w3.heap.size,3,none⟩) hnq (.slice D5 d5 k5));have P5:=Qh (Blk.x7 (dF p5 hnq.symm (.slice A n c) (.int .i64 (N1.1:Nat)) (.int .i64 N1.2.1) (.string ⟨Ln.toArray⟩) (.slice B1 m1 e1) (.slice B2 m2 e2) (.slice B3 m3 e3)) (.bool b5) (.slice A5 n5 c5) (.slice D5 d5 k5));have Q5:=Qh (QD.tch q5 ((fi (T:=TA) s5 rfl rfl (.slice A n c) (.int .i64 (N1.1:Nat)) (.int .i64 N1.2.1) (.string ⟨Ln.toArray⟩) (.slice B1 m1 e1) (.slice B2 m2 e2) (.slice B3 m3 e3)).trans (fg (dF p5 hnq.symm (.slice A n c) (.int .i64 (N1.1:Nat)) (.int .i64 N1.2.1) (.string ⟨Ln.toArray⟩) (.slice B1 m1 e1) (.slice B2 m2 e2) (.slice B3 m3 e3)) rfl 1 2 3 (.bool b5) (.slice A5 n5 c5) (.slice D5 d5 k5))));clear K5 s5 p5 q5;go_wp2_with fail;clear y0 y1 y2 y3 y4 y5 y6 f0 f1 f2 f3 f4 f5 f6 cp1 cp2 cp3 fp1 fp2 fp3;(refine (nL _ A n c l (HK.out.belw (hbw K5'.out)) hn N1.1 g2 N1.2.1 Ln B1 m1 e1 B2 m2 e2 B3 m3 e3 N2 HN2'.out).mono ?_);rintro e w6 ⟨b6,A6,n6,c6,D6,d6,k6,rfl,q6,hb6⟩;have K6:=da K5'.out hb6;have s6:=S5.out.below hb6 S5.out.lt;have p6:=P5.out.below hb6 P5.out.lt;have hlp6:w3.heap.size < w6.heap.size:=p6.lt;have hl6:w.heap.size < w6.heap.size:=s6.lt;have u6:=QD.tch (T:=TA) Q5.out (Tch.below hb6);clear hb6 K5' S5 P5 hlp5 hl5 Q5;obtain ⟨y0,y1,y2,y3,y4,y5,y6⟩:=s6.c7;obtain ⟨f0,f1,f2,f3,f4,f5,f6⟩:=s6.f7;obtain ⟨_,_,_,_,cp4,cp5,cp6⟩:=p6.c7;obtain ⟨_,_,_,_,fp4,fp5,fp6⟩:=p6.f7;have t6:=(fi (T:=TA) s6 rfl rfl (.slice A n c) (.int .i64 (N2.1:Nat)) (.int .i64 N2.2.1) (.string ⟨Ln.toArray⟩) (.slice B1 m1 e1) (.slice B2 m2 e2) (.slice B3 m3 e3)).trans (fg (dF p6 hnq.symm (.slice A n c) (.int .i64 (N2.1:Nat)) (.int .i64 N2.2.1) (.string ⟨Ln.toArray⟩) (.slice B1 m1 e1) (.slice B2 m2 e2) (.slice B3 m3 e3)) rfl 4 5 6 (.bool b6) (.slice A6 n6 c6) (.slice D6 d6 k6));have K6':=Qh (cJ (cJ (cJ (rg7 K6 (.slice A n c) (.int .i64 (N2.1:Nat)) (.int .i64 N2.2.1) (.string ⟨Ln.toArray⟩) (.slice B1 m1 e1) (.slice B2 m2 e2) (.slice B3 m3 e3)) (p:=⟨w3.heap.size,4,none⟩) Qr (.bool b6)) (p:=⟨w3.heap.size,5,none⟩) Qr (.slice A6 n6 c6)) (p:=⟨w3.heap.size,6,none⟩) Qr (.slice D6 d6 k6));have S6:=Qh ((((st7 s6 (.slice A n c) (.int .i64 (N2.1:Nat)) (.int .i64 N2.2.1) (.string ⟨Ln.toArray⟩) (.slice B1 m1 e1) (.slice B2 m2 e2) (.slice B3 m3 e3)).far (p:=⟨w3.heap.size,4,none⟩) hnq (.bool b6)).far (p:=⟨w3.heap.size,5,none⟩) hnq (.slice A6 n6 c6)).far (p:=⟨w3.heap.size,6,none⟩) hnq (.slice D6 d6 k6));have P6:=Qh (Blk.y7 (dF p6 hnq.symm (.slice A n c) (.int .i64 (N2.1:Nat)) (.int .i64 N2.2.1) (.string ⟨Ln.toArray⟩) (.slice B1 m1 e1) (.slice B2 m2 e2) (.slice B3 m3 e3)) (.bool b6) (.slice A6 n6 c6) (.slice D6 d6 k6));have Q6:=Qh (And.intro (QD.tch u6 t6) (QD.tch q6 t6));clear K6 s6 p6 q6 u6 t6;go_wp2_with fail;clear y0 y1 y2 y3 y4 y5 y6 f0 f1 f2 f3 f4 f5 f6 cp4 cp5 cp6 fp4 fp5 fp6;(refine (de _ A n c l (HK.out.belw (hbw K6'.out)) hn N2.1 g3 N2.2.1 Ln B1 m1 e1 B2 m2 e2 B3 m3 e3 [59] T2 HT2.out).mono ?_);rintro e w7 ⟨rfl,hb7⟩;have K7:=da K6'.out hb7;have s7:=S6.out.below hb7 S6.out.lt;have p7:=P6.out.below hb7 P6.out.lt;have hlp7:w3.heap.size < w7.heap.size:=p7.lt;have hl7:w.heap.size < w7.heap.size:=s7.lt;have t7:=(Tch.below (T:=TA) hb7).trans (fi (T:=TA) s7 rfl rfl (.slice A n c) (.int .i64 (T2.1:Nat)) (.int .i64 T2.2.1) (.string ⟨Ln.toArray⟩) (.slice B1 m1 e1) (.slice B2 m2 e2) (.slice B3 m3 e3));have HM:=Qh (show MkC 500 _ [ae T1.2.2,.bool b5,.slice A5 n5 c5,.slice D5 d5 k5,.bool b6,.slice A6 n6 c6,.slice D6 d6 k6] ⟨T1.2.2,rd N1.2.2,rd N2.2.2⟩ from ⟨b5,A5,n5,c5,D5,d5,k5,b6,A6,n6,c6,D6,d6,k6,rfl,QD.tch Q6.out.1 t7,QD.tch Q6.out.2 t7,HNM.out⟩);have HB7:=Qh (HB3.out.call (st7 s7 (.slice A n c) (.int .i64 (T2.1:Nat)) (.int .i64 T2.2.1) (.string ⟨Ln.toArray⟩) (.slice B1 m1 e1) (.slice B2 m2 e2) (.slice B3 m3 e3)) (rg7 K7 (.slice A n c) (.int .i64 (T2.1:Nat)) (.int .i64 T2.2.1) (.string ⟨Ln.toArray⟩) (.slice B1 m1 e1) (.slice B2 m2 e2) (.slice B3 m3 e3)) rfl);have he7:(World.setCell (World.setCell (World.setCell (World.setCell (World.setCell (World.setCell (World.setCell w7 ⟨w.heap.size,0,none⟩ (.slice A n c)) ⟨w.heap.size,1,none⟩ (.int .i64 (T2.1:Nat))) ⟨w.heap.size,2,none⟩ (.int .i64 T2.2.1)) ⟨w.heap.size,3,none⟩ (.string ⟨Ln.toArray⟩)) ⟨w.heap.size,4,none⟩ (.slice B1 m1 e1)) ⟨w.heap.size,5,none⟩ (.slice B2 m2 e2)) ⟨w.heap.size,6,none⟩ (.slice B3 m3 e3)).heap.size=w7.heap.size:=by simp [World.setCell]
  obtain ⟨_,xs,hown,hrow⟩:=HB7.out.row;have HO:=Qh hown;have HWR:=Qh hrow;obtain ⟨y0,y1,y2,y3,y4,y5,y6⟩:=s7.c7;obtain ⟨f0,f1,f2,f3,f4,f5,f6⟩:=s7.f7;obtain ⟨cp0,cp1,cp2,cp3,cp4,cp5,cp6⟩:=p7.c7;have b7:=bD K7 HB3.out.b (by have:=HB3.out.lt;omega);obtain ⟨cb0,cb1⟩:=b7.c2;obtain ⟨fb0,fb1⟩:=b7.f2;have hlb:w.heap.size+3 < w7.heap.size:=b7.lt;have hL:L.length≤65536:=by omega
  clear hb7 K6' S6 P6 hlp6 hl6 Q6 s7 p7 t7 K7 hown hrow b7 hbw;go_wp2_with (at_builtin;(refine ce _ rfl noW _ _ _ rfl (w.heap.size+3) 67 i0 (.agg #[.string ⟨#[]⟩,.bool false,.slice none 0 0,.slice none 0 0,.bool false,.slice none 0 0,.slice none 0 0]) 7 128 Tryz.underlying60 HI.out.1 HI.out.2.1 HI.out.2.2.1 HI.out.2.2.2 rfl (by omega) rfl _ L.length xs rfl (HO.out.belw ((Below.refl _ _).alloc Qr _)) ⟨w7.heap.size,0,none⟩ 1 1 [_,_,_,_,_,_,_] rfl rfl (kY he7 _ _) (by simp [Value.oneCell']) rfl (by omega) (by unfold maxLen;omega) (by omega) (by simp [World.setCell];omega) ?_);intro gx cap w8 hown8 hgrow hat;have fb8:=(HB7.out.b5 HO.out _ hgrow).frozen 1;obtain ⟨ce0,ce1⟩:=(HB7.out.b5 HO.out _ hgrow).c2);have hge:=oL (l:=l) (p:=p') (x:=0);rw [HMK.out] at hge;simp only at hge;have hR2:=dc (l:=l) (a:=L) (f:=f) (by omega) ⟨rfl,HV.out⟩;rw [HR.out,HMK.out] at hR2;have hpu:=HB7.out.push HO.out HWR.out HM.out rfl hown8 hgrow;go_roundw
  case rel =>
   refine ⟨f - 1,T2.1,T2.2.1,L ++ [⟨T1.2.2,rd N1.2.2,rd N2.2.2⟩],_,hpu,g4,fun hz=>?_,Qh hR2.symm⟩;have h9:=hge.2.1 hz;rw [List.length_append,List.length_singleton];omega
  case measure =>
   have e1':=sE (n:=n) hpu.st;have e2':=sE (n:=n) HBD.out.st;refine Nat.lt_of_lt_of_eq (Nat.lt_of_le_of_lt (Nat.le_of_eq e1') ?_) e2'.symm;rw [if_pos rfl];by_cases hz:T2.2.1=0
   ·have h9:=hge.2.1 hz
    rw [if_pos hz];omega
   rw [if_neg hz];omega
def bL (l:List Tkn) (p:Nat) (x:Int) (s:PS):Prop:=x=s.x∧(x=0→l.drop p=s.toks)
def rl (l:List Tkn) (k:Nat) (t:List UInt8):Prop:=k≠1∧∀ u∈l,u.kind≠1→u.text=t→u.kind=k
theorem tX {k:Nat}{c:UInt8}(h:gC k [c]) (hc:cQ c=true):k=2:=by
 obtain ⟨r,n,h1,h2⟩:=h;have h3:=dt h1
 cases r with
 | nil=>simp at h3;omega
 | cons d u =>
  obtain ⟨m,rfl⟩:∃ m,n=m+1:=⟨n - 1,by omega⟩;rw [List.take_succ_cons] at h2;injection h2 with e _;subst e;unfold aV at h1;simp only [hc,if_true] at h1;injection h1 with h1 _;exact h1.symm
theorem tY {k:Nat}{c:UInt8}{t:List UInt8}(h:gC k (c :: t)) (hc:bW c=true):k=0:=by
 obtain ⟨r,n,h1,h2⟩:=h;have h3:=dt h1
 cases r with
 | nil=>simp at h3;omega
 | cons d u =>
  obtain ⟨m,rfl⟩:∃ m,n=m+1:=⟨n - 1,by omega⟩;rw [List.take_succ_cons] at h2;injection h2 with e _;subst e;have hw:0 < bl (c :: u):=by rw [bl,if_pos hc];omega
  unfold aV at h1;simp only [kC hc,Bool.false_eq_true,if_false,hw,if_true] at h1;split at h1
  ·cases h1
  injection h1 with h1 _;exact h1.symm
theorem dP {l:List Tkn}(hg:∀ t∈l,gC t.kind t.text) {c:UInt8}(hc:cQ c=true):rl l 2 [c]:=⟨by decide,fun u hu _ ht=>by have:=hg u hu;rw [ht] at this;exact tX this hc⟩
theorem fX {l:List Tkn}(hg:∀ t∈l,gC t.kind t.text) {c:UInt8}{r:List UInt8}(hc:bW c=true):rl l 0 (c :: r):=⟨by decide,fun u hu _ ht=>by have:=hg u hu;rw [ht] at this;exact tY this hc⟩
section
variable {l:List Tkn}{p:Nat}{x:Int}{s:PS}
theorem bL.cases (h:bL l p x s):(x≠0∧s.x≠0∧s.x=x)∨(x=0∧s.x=0∧l[p]?=none∧s.toks=[])∨∃ t,x=0∧s.x=0∧l[p]?=some t∧s.toks=t :: l.drop (p+1)∧t∈l:=by
 obtain ⟨h1,h2⟩:=h;by_cases hx:x=0
 ·right
  have h3:=h2 hx;rcases Nat.lt_or_ge p l.length with hp | hp
  ·right
   refine ⟨l[p],hx,by rw [← h1];exact hx,List.getElem?_eq_getElem hp,?_,List.getElem_mem hp⟩;rw [← h3];exact List.drop_eq_getElem_cons hp
  left;exact ⟨hx,by rw [← h1];exact hx,List.getElem?_eq_none hp,by rw [← h3];exact List.drop_eq_nil_of_le hp⟩
 exact .inl ⟨hx,by rw [← h1];exact hx,h1.symm⟩
theorem fu {may:Bool}(hx:x≠0):takeF l p x may=(p,x,[]):=if_pos hx
theorem kZ {may:Bool}(hx:x=0) (h:l[p]?=none):takeF l p x may=(p,18,[]):=by
 unfold takeF;rw [if_neg (by rw [hx];simp),h]
theorem gw {may:Bool}{t:Tkn}(hx:x=0) (h:l[p]?=some t):takeF l p x may=if may then (p+1,0,t.text) else (p,2,[]):=by
 unfold takeF;rw [if_neg (by rw [hx];simp),h]
theorem bL.word (h:bL l p x s):bL l (wF l p x).1 (wF l p x).2.1 s.word.2∧(wF l p x).2.2=s.word.1:=by
 unfold wF;rcases h.cases with ⟨h1,h2,h3⟩ | ⟨h1,h2,h3,h4⟩ | ⟨t,h1,h2,h3,h4,_⟩
 ·have e:s.word=([],s):=by unfold PS.word PS.next;rw [if_pos h2]
  rw [fu h1,e];exact ⟨⟨h3.symm,fun k=>absurd k h1⟩,rfl⟩
 ·have e:s.word=([],{ s with x:=18 }):=by unfold PS.word PS.next;rw [if_neg (by rw [h2];simp),h4]
  rw [kZ h1 h3,e];exact ⟨⟨rfl,fun k=>absurd (show (18:Int)=0 from k) (by decide)⟩,rfl⟩
 have ek:bE l p x 0=(t.kind == 0):=by unfold bE;rw [h3,h1];simp
 rw [gw h1 h3,ek];by_cases hk:t.kind=0
 ·have e:s.word=(t.text,s.drop1):=by unfold PS.word PS.next;rw [if_neg (by rw [h2];simp),h4];simp only;rw [if_pos hk]
  rw [e,if_pos (by simpa using hk)];refine ⟨⟨h2.symm,fun _=>?_⟩,rfl⟩;show l.drop (p+1)=s.toks.drop 1;rw [h4];rfl
 have e:s.word=([],{ s with x:=2 }):=by unfold PS.word PS.next;rw [if_neg (by rw [h2];simp),h4];simp only;rw [if_neg hk]
 rw [e,if_neg (by simpa using hk)];exact ⟨⟨rfl,fun k=>absurd (show (2:Int)=0 from k) (by decide)⟩,rfl⟩
theorem bL.expect (h:bL l p x s) {k:Nat}{t:List UInt8}(ho:rl l k t):bL l (eF l p x t).1 (eF l p x t).2.1 (s.expect k t):=by
 unfold eF;rcases h.cases with ⟨h1,h2,h3⟩ | ⟨h1,h2,h3,h4⟩ | ⟨u,h1,h2,h3,h4,hm⟩
 ·have e:s.expect k t=s:=by unfold PS.expect PS.next;rw [if_pos h2]
  rw [fu h1,e];exact ⟨h3.symm,fun k=>absurd k h1⟩
 ·have e:s.expect k t={ s with x:=18 }:=by unfold PS.expect PS.next;rw [if_neg (by rw [h2];simp),h4]
  rw [kZ h1 h3,e];exact ⟨rfl,fun k=>absurd (show (18:Int)=0 from k) (by decide)⟩
 have ep:aL l p x t=(!(u.kind == 1) && (u.text == t)):=by unfold aL;rw [h3,h1];simp
 rw [gw h1 h3,ep];by_cases hk:u.kind=k
 ·by_cases ht:u.text=t
  ·have e:s.expect k t=s.drop1:=by unfold PS.expect PS.next;rw [if_neg (by rw [h2];simp),h4];simp only;rw [if_pos hk];simp only;rw [if_pos ht]
   have h1':u.kind≠1:=by rw [hk];exact ho.1
   rw [e,if_pos (by simp [h1',ht])];refine ⟨h2.symm,fun _=>?_⟩;show l.drop (p+1)=s.toks.drop 1;rw [h4];rfl
  have e:s.expect k t=s.fail 2:=by unfold PS.expect PS.next;rw [if_neg (by rw [h2];simp),h4];simp only;rw [if_pos hk];simp only;rw [if_neg ht]
  rw [e,if_neg (by simp [ht])];unfold PS.fail;rw [if_pos h2];exact ⟨rfl,fun k=>absurd (show (2:Int)=0 from k) (by decide)⟩
 have e:s.expect k t={ s with x:=2 }:=by unfold PS.expect PS.next;rw [if_neg (by rw [h2];simp),h4];simp only;rw [if_neg hk]
 have hn:¬ ((!(u.kind == 1) && (u.text == t))=true):=by
  intro h9;simp only [Bool.and_eq_true,Bool.not_eq_true',beq_eq_false_iff_ne,beq_iff_eq] at h9;exact hk (ho.2 u hm h9.1 h9.2)
 rw [e,if_neg hn];exact ⟨rfl,fun k=>absurd (show (2:Int)=0 from k) (by decide)⟩
theorem yh {t:List UInt8}(h:valX t≠0):valQ t=0:=by
 rcases val_out t with ⟨_,_,h2⟩ | ⟨_,_,_,h2⟩ | ⟨_,_,_,_,_,_,h1,_⟩ | ⟨_,_,_,_,_,_,_,_,_,_,h2⟩ | ⟨_,_,_,_,_,_,_,_,_,h1,_⟩ | ⟨_,_,_,_,_,_,_,_,h1,_⟩
 ·exact h2
 ·exact h2
 ·exact absurd h1 h
 ·exact h2
 ·exact absurd h1 h
 exact absurd h1 h
theorem la {T:Nat × Int × List UInt8}(h:takeF l p x (bE l p x 1)=T):numF l p x=if T.2.1≠0 then (T.1,T.2.1,0) else (T.1,valX T.2.2,valQ T.2.2):=by
 unfold numF;rw [h]
theorem bL.number (h:bL l p x s):bL l (numF l p x).1 (numF l p x).2.1 s.number.2∧(numF l p x).2.2=s.number.1:=by
 rcases h.cases with ⟨h1,h2,h3⟩ | ⟨h1,h2,h3,h4⟩ | ⟨t,h1,h2,h3,h4,_⟩
 ·have e:s.number=(0,s):=by unfold PS.number PS.next;rw [if_pos h2]
  rw [la (fu h1),e,if_pos h1];exact ⟨⟨h3.symm,fun k=>absurd k h1⟩,rfl⟩
 ·have e:s.number=(0,{ s with x:=18 }):=by unfold PS.number PS.next;rw [if_neg (by rw [h2];simp),h4]
  rw [la (kZ h1 h3),e,if_pos (show (18:Int)≠0 by decide)];exact ⟨⟨rfl,fun k=>absurd (show (18:Int)=0 from k) (by decide)⟩,rfl⟩
 have ek:bE l p x 1=(t.kind == 1):=by unfold bE;rw [h3,h1];simp
 by_cases hk:t.kind=1
 ·have hT:takeF l p x (bE l p x 1)=(p+1,0,t.text):=by rw [gw h1 h3,ek,if_pos (by simpa using hk)]
  rw [la hT,if_neg (show ¬ (0:Int)≠0 by simp)];by_cases hv:valX t.text=0
  ·have e:s.number=(valQ t.text,s.drop1):=by unfold PS.number PS.next;rw [if_neg (by rw [h2];simp),h4];simp only;rw [if_pos hk];simp only;rw [if_neg (by rw [hv];simp)]
   rw [e];refine ⟨⟨by show valX t.text=s.x;rw [hv,h2],fun _=>?_⟩,rfl⟩;show l.drop (p+1)=s.toks.drop 1;rw [h4];rfl
  have e:s.number=(0,s.fail (valX t.text)):=by unfold PS.number PS.next;rw [if_neg (by rw [h2];simp),h4];simp only;rw [if_pos hk];simp only;rw [if_pos hv]
  rw [e];refine ⟨⟨?_,fun k=>absurd k hv⟩,yh hv⟩;unfold PS.fail;rw [if_pos h2]
 have e:s.number=(0,{ s with x:=2 }):=by unfold PS.number PS.next;rw [if_neg (by rw [h2];simp),h4];simp only;rw [if_neg hk]
 have hT:takeF l p x (bE l p x 1)=(p,2,[]):=by rw [gw h1 h3,ek,if_neg (by simpa using hk)]
 rw [la hT,e,if_pos (show (2:Int)≠0 by decide)];exact ⟨⟨rfl,fun k=>absurd (show (2:Int)=0 from k) (by decide)⟩,rfl⟩
theorem bL.mark (h:bL l p x s) (hs:rl l 2 [59]):bL l (mkF l p x).1 (mkF l p x).2.1 s.mark.2∧(mkF l p x).2.2=s.mark.1:=by
 obtain ⟨a1,b1⟩:=h.word;obtain ⟨a2,b2⟩:=a1.number;obtain ⟨a3,b3⟩:=a2.number;have a4:=a3.expect hs;unfold mkF PS.mark;simp only;exact ⟨a4,by rw [b1,b2,b3]⟩
end
theorem bL.marks {l:List Tkn}(hs:rl l 2 [59]) (hb:rl l 2 [125]):∀ (f g p:Nat) (x:Int) (s:PS) (a:List aq),bL l p x s→s.toks.length < f→l.length+1≤g+p→p≤l.length →
 (eF l (cB l g p x a).1 (cB l g p x a).2.1 [125]).2.1=(PS.marks f s a).2.x∧((PS.marks f s a).2.x=0→bL l (eF l (cB l g p x a).1 (cB l g p x a).2.1 [125]).1 (eF l (cB l g p x a).1 (cB l g p x a).2.1 [125]).2.1 (PS.marks f s a).2∧(cB l g p x a).2.2=(PS.marks f s a).1)
 | 0,g,p,x,s,a,_,hf,_,_=>by omega
 | f+1,g,p,x,s,a,h,hf,hg,hp=>by
  rcases h.cases with ⟨h1,h2,h3⟩ | ⟨h1,h2,h3,h4⟩ | ⟨t,h1,h2,h3,h4,hm⟩
  ·rw [ix h2,bO (fun k=>h1 k.1)]
   have e:eF l p x [125]=(p,x,[]):=fu h1;simp only [e];exact ⟨h3.symm,fun k=>absurd k h2⟩
  ·-- no token is left
   have hsh:s.signHead=false:=by unfold PS.signHead;rw [h4]
   have hpk:aL l p x [125]=false:=by unfold aL;rw [h3];simp
   rw [dm (by omega) h2 hsh,dc (by omega) ⟨h1,hpk⟩];obtain ⟨hr,_⟩:=h.mark hs
   have hx1:s.mark.2.x≠0:=by
    have hw:s.word.2.x=18:=by unfold PS.word PS.next;rw [if_neg (by rw [h2];simp),h4]
    have hst:=((dM s.word.2).trans (dM _)).trans (ay _ 2 [59]);have:=hst.2.1 (by rw [hw];decide);show ((s.word.2.number.2.number.2.expect 2 [59]).x≠0);rw [this,hw];decide
   have hx2:(mkF l p x).2.1≠0:=by rw [hr.1];exact hx1
   rw [ix hx1,bO (fun k=>hx2 k.1)];have e:eF l (mkF l p x).1 (mkF l p x).2.1 [125]=((mkF l p x).1,(mkF l p x).2.1,[]):=fu hx2;simp only [e];exact ⟨hr.1,fun k=>absurd k hx1⟩
  have ep:aL l p x [125]=(!(t.kind == 1) && (t.text == [125])):=by unfold aL;rw [h3,h1];simp
  cases hsh:s.signHead
  ·have hk2:t.kind≠2:=by
    unfold PS.signHead at hsh;rw [h4] at hsh;simpa using hsh
   have hpk:aL l p x [125]=false:=by
    rw [ep];cases hq:(!(t.kind == 1) && (t.text == [125]))
    ·rfl
    simp only [Bool.and_eq_true,Bool.not_eq_true',beq_eq_false_iff_ne,beq_iff_eq] at hq;exact absurd (hb.2 t hm hq.1 hq.2) hk2
   rw [dm (by omega) h2 hsh,dc (by omega) ⟨h1,hpk⟩];obtain ⟨hr,hmk⟩:=h.mark hs;have hge:=oL (l:=l) (p:=p) (x:=x);rw [hmk];by_cases hx1:s.mark.2.x=0
   ·have h9:=((gU s).2.2.1 hx1).2
    have h8:=hge.2.1 (by rw [hr.1];exact hx1);exact bL.marks hs hb f (g - 1) _ _ _ _ hr (by omega) (by omega) (hge.2.2 hp)
   have hx2:(mkF l p x).2.1≠0:=by rw [hr.1];exact hx1
   rw [ix (f:=f+1 - 1) hx1,bO (fun k=>hx2 k.1)];have e:eF l (mkF l p x).1 (mkF l p x).2.1 [125]=((mkF l p x).1,(mkF l p x).2.1,[]):=fu hx2;simp only [e];exact ⟨hr.1,fun k=>absurd k hx1⟩
  ·have hk2:t.kind=2:=by
    unfold PS.signHead at hsh;rw [h4] at hsh;simpa using hsh
   rw [fV (by omega) h2 hsh];by_cases ht:t.text=[125]
   ·have hpk:aL l p x [125]=true:=by rw [ep,hk2,ht];rfl
    rw [bO (fun k=>by rw [hpk] at k;exact absurd k.2 (by decide))];have hr:=h.expect hb;exact ⟨hr.1,fun _=>⟨hr,rfl⟩⟩
   have hpk:aL l p x [125]=false:=by rw [ep];simp [ht]
   have hx1:(s.expect 2 [125]).x=2:=by
    unfold PS.expect PS.next;rw [if_neg (by rw [h2];simp),h4];simp only;rw [if_pos hk2];simp only;rw [if_neg ht];unfold PS.fail;rw [if_pos h2]
   rw [dc (by omega) ⟨h1,hpk⟩];obtain ⟨hr,_⟩:=h.mark hs
   have hx2:s.mark.2.x=2:=by
    have hw:s.word.2.x=2:=by unfold PS.word PS.next;rw [if_neg (by rw [h2];simp),h4];simp only;rw [if_neg (by rw [hk2];decide)]
    have hst:=((dM s.word.2).trans (dM _)).trans (ay _ 2 [59]);have:=hst.2.1 (by rw [hw];decide);show ((s.word.2.number.2.number.2.expect 2 [59]).x=2);rw [this,hw]
   have hx3:(mkF l p x).2.1≠0:=by rw [hr.1,hx2];decide
   rw [bO (fun k=>hx3 k.1)];have e:eF l (mkF l p x).1 (mkF l p x).2.1 [125]=((mkF l p x).1,(mkF l p x).2.1,[]):=fu hx3;simp only [e,hx1];exact ⟨by rw [hr.1,hx2],fun k=>absurd (show (2:Int)=0 from k) (by decide)⟩
theorem bL.body {l:List Tkn}(hg:∀ t∈l,gC t.kind t.text) {p:Nat}{x:Int}{s:PS}(h:bL l p x s) (hp:p≤l.length):(dv l p x).2.1=s.body.2.x∧(s.body.2.x=0→bL l (dv l p x).1 (dv l p x).2.1 s.body.2∧(dv l p x).2.2=s.body.1):=by
 have s1:=dP hg (c:=123) (by decide);have s2:=dP hg (c:=59) (by decide);have s3:=dP hg (c:=125) (by decide);obtain ⟨a1,b1⟩:=h.word;have a2:=a1.expect s1;have hle:=((ar s).trans (ay s.word.2 2 [123])).1;have k1:(wF l p x).1≤l.length:=bT hp;have k2:(eF l (wF l p x).1 (wF l p x).2.1 [123]).1≤l.length:=bT k1;have hm:=bL.marks s2 s3 (s.toks.length+1) (l.length+1) _ _ _ [] a2 (by omega) (by omega) k2;unfold dv PS.body;simp only;exact ⟨hm.1,fun hx=>⟨(hm.2 hx).1,by rw [b1,(hm.2 hx).2]⟩⟩
theorem eP {P:Program}{c:Code}{Q:Exit→Act→World→Prop}{a:Act}{w:World}(h:∀ w6,w6=w→Code.wp P c Q a w6):Code.wp P c Q a w:=h w rfl
noncomputable def BG (l:List Tkn) (x:Int):Int × al :=
  let E:=eF l 0 x cY
  let N:=dv l E.1 E.2.1
  if N.2.1≠0 then (N.2.1,B0) else if N.1 < l.length then (2,B0) else (0,N.2.2)
theorem rm {s:List UInt8}{x:Int}{l:List Tkn}(h:aR s x l):∀ t∈l,NmL t.text:=by
 rcases h with ⟨_,_,e⟩ | ⟨h1,h2,h3⟩ | ⟨_,_,_,_,e⟩
 ·subst e;intro t ht;cases ht
 ·exact nJ (.ok h1 h2 rfl)
 subst e;intro t ht;cases ht
end Go.Proofs.YtfilnhompchciaaGreatDoor
