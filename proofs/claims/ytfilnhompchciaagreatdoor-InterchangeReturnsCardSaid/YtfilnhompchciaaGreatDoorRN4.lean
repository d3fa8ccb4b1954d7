/- Part RN4: lemmas and walks that the claim rests on. No claim is made here. -/
import Derived.Deep.AppendLies
import Derived.Deep.RegionHeld3
import Derived.Deep.DrawnRows
import Derived.Deep.DeepCutAuto
import Derived.Test.YtfilnhompchciaaGreatDoorRN3
set_option linter.unusedVariables false
set_option maxHeartbeats 8000000
set_option maxRecDepth 100000
/- Reading linkages: plain: what is read off tokens. -/
namespace Go.Proofs.YtfilnhompchciaaGreatDoor
open Go Go.RowKit Bn
attribute [local go_sem ↓] Go.wp_at_zero Go.wp_at_succ
noncomputable def valX (s:List UInt8):Int:=(o7 s).choose
noncomputable def valQ (s:List UInt8):Rat:=(o7 s).choose_spec.choose
theorem pR (s:List UInt8):mc s (valX s) (valQ s):=(o7 s).choose_spec.choose_spec
structure PS where
  toks:List Tkn
  L:ag
  x:Int
def PS.fail (s:PS) (e:Int):PS:=if s.x=0 then { s with x:=e } else s
def PS.next (s:PS) (k:Nat):Option (List UInt8) × PS :=
  if s.x≠0 then (none,s) else match s.toks with
    | []=>(none,{ s with x:=18 })
    | t :: _=>if t.kind=k then (some t.text,s) else (none,{ s with x:=2 })
def PS.drop1 (s:PS):PS:={ s with toks:=s.toks.drop 1 }
def PS.word (s:PS):List UInt8 × PS:=match s.next 0 with
  | (some t,s')=>(t,s'.drop1)
  | (none,s')=>([],s')
def PS.expect (s:PS) (k:Nat) (text:List UInt8):PS:=match s.next k with
  | (some t,s')=>if t=text then s'.drop1 else s'.fail 2
  | (none,s')=>s'
noncomputable def PS.number (s:PS):Rat × PS:=match s.next 1 with
  | (some t,s')=>if valX t≠0 then (0,s'.fail (valX t)) else (valQ t,s'.drop1)
  | (none,s')=>(0,s')
noncomputable def PS.mark (s:PS):ar × PS :=
  (⟨s.word.1,rd s.word.2.number.1,rd s.word.2.number.2.number.1⟩,s.word.2.number.2.number.2.expect 2 [59])
def PS.signHead (s:PS):Bool:=match s.toks with | t :: _=>t.kind == 2 | []=>false
noncomputable def PS.marks:Nat→PS→List ar→List ar × PS
  | 0,s,l=>(l,s)
  | f+1,s,l=>if s.x≠0 then (l,s) else if s.signHead then (l,s.expect 2 [125]) else PS.marks f s.mark.2 (l ++ [s.mark.1])
noncomputable def PS.body (s:PS):ai × PS :=
  let r:=PS.marks (s.toks.length+1) (s.word.2.expect 2 [123]) []
  (⟨s.word.1,r.1⟩,r.2)
def fT (l:List ai) (nm:List UInt8):Option Nat:=l.findIdx? fun b=>b.name == nm
def jR (l:List ar) (nm:List UInt8):Option Nat:=l.findIdx? fun m=>m.name == nm
def PS.named (s:PS) (only:Int):Int × PS :=
  let s':=s.word.2
  if s'.x≠0 then (0,s') else match fT s'.L.bodies s.word.1 with
    | some i=>((i:Int),if 0≤only∧(i:Int)≠only then s'.fail 7 else s')
    | none=>(0,s'.fail 5)
def PS.full (s:PS) (only:Int):Int × Int × PS :=
  let b:=(s.named only).1
  let s1:=(s.named only).2.expect 2 [46]
  let s2:=s1.word.2
  if s2.x≠0 then (0,0,s2) else match jR (cV s2.L b) s1.word.1 with
    | some i=>(b,(i:Int),s2)
    | none=>(0,0,s2.fail 5)
def PS.addB (s:PS) (b:ai):PS:={ s with L:={ s.L with bodies:=s.L.bodies ++ [b] } }
def PS.addJ (s:PS) (j:aM):PS:={ s with L:={ s.L with joints:=s.L.joints ++ [j] } }
def PS.addD (s:PS) (d:aV):PS:={ s with L:={ s.L with drivers:=s.L.drivers ++ [d] } }
def PS.joint (s:PS) (slide:Bool):PS :=
  let a:=s.word.2.full (-1)
  let b:=a.2.2.full (-1)
  let t:Int × Int × PS:=if slide then b.2.2.full b.1 else (0,0,b.2.2)
  (t.2.2.expect 2 [59]).addJ ⟨s.word.1,if slide then 1 else 0,a.1,a.2.1,b.1,b.2.1,t.2.1⟩
def PS.driver (s:PS):PS :=
  let d:=s.word.2.named (-1)
  (d.2.expect 2 [59]).addD ⟨s.word.1,d.1⟩
def jS:List UInt8:=[98,111,100,121]
def rE:List UInt8:=[112,105,110]
def iC:List UInt8:=[115,108,105,100,101]
def fD:List UInt8:=[100,114,105,118,101,114]
def bi:List UInt8:=[108,105,110,107,97,103,101]
noncomputable def PS.item (s:PS):PS :=
  let s':=s.word.2
  if s.word.1=jS then s'.body.2.addB s'.body.1
  else if s.word.1=rE then s'.joint false
  else if s.word.1=iC then s'.joint true
  else if s.word.1=fD then s'.driver
  else s'.fail 2
noncomputable def PS.items:Nat→PS→PS
  | 0,s=>s
  | f+1,s=>if s.x=0∧s.toks≠[] then PS.items f s.item else s
def L0:ag:=⟨[],[],[],[]⟩
noncomputable def cF (l:List Tkn):PS :=
  let s1:=(⟨l,L0,0⟩:PS).expect 0 bi
  let s2:=s1.word.2
  let s3:PS:={ s2 with L:={ s2.L with name:=s1.word.1 } }
  PS.items (l.length+1) (s3.expect 2 [59])
inductive fE (s:List UInt8) (x:Int) (L:ag):Prop
  | split (l:List Tkn) (hs:aY s x l) (hx:x≠0) (hL:L=L0)
  | read (l:List Tkn) (hs:aY s 0 l) (hr:(cF l).x=x) (hx:x≠0) (hL:L=L0)
  | check (l:List Tkn) (hs:aY s 0 l) (hr:(cF l).x=0) (hc:bT (cF l).L=x) (hx:x≠0) (hL:L=L0)
  | ok (l:List Tkn) (hs:aY s 0 l) (hr:(cF l).x=0) (hc:bT (cF l).L=0) (hx:x=0) (hL:L=(cF l).L)
theorem fE.uniq {s:List UInt8}{x y:Int}{L M:ag}(h:fE s x L) (h':fE s y M):x=y∧L=M:=by
 cases h with
 | split l hs hx hL =>
  cases h' with
  | split l' hs' hx' hL'=>exact ⟨(hs.uniq hs').1,by rw [hL,hL']⟩
  | read l' hs' _ _ _=>exact absurd (hs.uniq hs').1 hx
  | check l' hs' _ _ _ _=>exact absurd (hs.uniq hs').1 hx
  | ok l' hs' _ _ _ _=>exact absurd (hs.uniq hs').1 hx
 | read l hs hr hx hL =>
  cases h' with
  | split l' hs' hx' hL'=>exact absurd (hs.uniq hs').1.symm hx'
  | read l' hs' hr' hx' hL' =>
   obtain ⟨_,rfl⟩:=hs.uniq hs';exact ⟨hr.symm.trans hr',by rw [hL,hL']⟩
  | check l' hs' hr' _ _ _ =>
   obtain ⟨_,rfl⟩:=hs.uniq hs';exact absurd (hr.symm.trans hr') hx
  | ok l' hs' hr' _ _ _ =>
   obtain ⟨_,rfl⟩:=hs.uniq hs';exact absurd (hr.symm.trans hr') hx
 | check l hs hr hc hx hL =>
  cases h' with
  | split l' hs' hx' hL'=>exact absurd (hs.uniq hs').1.symm hx'
  | read l' hs' hr' hx' hL' =>
   obtain ⟨_,rfl⟩:=hs.uniq hs';exact absurd (hr'.symm.trans hr) hx'
  | check l' hs' hr' hc' hx' hL' =>
   obtain ⟨_,rfl⟩:=hs.uniq hs';exact ⟨hc.symm.trans hc',by rw [hL,hL']⟩
  | ok l' hs' hr' hc' _ _ =>
   obtain ⟨_,rfl⟩:=hs.uniq hs';exact absurd (hc.symm.trans hc') hx
 | ok l hs hr hc hx hL =>
  cases h' with
  | split l' hs' hx' hL'=>exact absurd (hs.uniq hs').1.symm hx'
  | read l' hs' hr' hx' hL' =>
   obtain ⟨_,rfl⟩:=hs.uniq hs';exact absurd (hr'.symm.trans hr) hx'
  | check l' hs' hr' hc' hx' hL' =>
   obtain ⟨_,rfl⟩:=hs.uniq hs';exact absurd (hc'.symm.trans hc) hx'
  | ok l' hs' hr' hc' hx' hL' =>
   obtain ⟨_,rfl⟩:=hs.uniq hs';exact ⟨by rw [hx,hx'],by rw [hL,hL']⟩
def Stp (d:Nat) (s s':PS):Prop:=s'.toks.length≤s.toks.length∧(s.x≠0→s'=s)∧(s'.x=0→s.x=0∧s'.toks.length+d≤s.toks.length)∧s'.L=s.L
theorem Stp.refl (s:PS):Stp 0 s s:=⟨Qr,fun _=>rfl,fun h=>⟨h,Qr⟩,rfl⟩
theorem Stp.trans {d e:Nat}{a b c:PS}(h:Stp d a b) (k:Stp e b c):Stp (d+e) a c :=
 ⟨Nat.le_trans k.1 h.1,fun hx=>by have:=h.2.1 hx;subst this;exact k.2.1 hx,fun hx=>by
  obtain ⟨h1,h2⟩:=k.2.2.1 hx;obtain ⟨h3,h4⟩:=h.2.2.1 h1
  exact ⟨h3,by omega⟩,k.2.2.2.trans h.2.2.2⟩
theorem Stp.mono {d e:Nat}{a b:PS}(h:Stp d a b) (he:e≤d):Stp e a b:=⟨h.1,h.2.1,fun hx=>⟨(h.2.2.1 hx).1,by have:=(h.2.2.1 hx).2;omega⟩,h.2.2.2⟩
theorem Stp.sameL {d:Nat}{s s':PS}(h:Stp d s s'):s'.L=s.L:=h.2.2.2
theorem dz (s:PS) (e:Int) (he:e≠0) (d:Nat):Stp d s (s.fail e):=by
 unfold PS.fail;split
 ·rename_i hx
  exact ⟨Qr,fun h=>absurd hx h,fun h=>absurd h he,rfl⟩
 rename_i hx;exact ⟨Qr,fun _=>rfl,fun h=>absurd h hx,rfl⟩
theorem next_cases (s:PS) (k:Nat):(∃ t r,s.x=0∧s.toks=t :: r∧t.kind=k∧s.next k=(some t.text,s))∨(∃ s',s.next k=(none,s')∧∀ d,Stp d s s'):=by
 unfold PS.next;split
 ·rename_i hx
  exact .inr ⟨s,rfl,fun d=>⟨Qr,fun _=>rfl,fun h=>absurd h hx,rfl⟩⟩
 rename_i hx;have hx:s.x=0:=by simpa using hx
 split
 ·exact .inr ⟨_,rfl,fun d=>⟨Qr,fun h=>absurd hx h,fun h=>absurd (show (18:Int)=0 from h) (by decide),rfl⟩⟩
 rename_i t r e;split
 ·rename_i hk
  exact .inl ⟨t,r,hx,e,hk,rfl⟩
 exact .inr ⟨_,rfl,fun d=>⟨Qr,fun h=>absurd hx h,fun h=>absurd (show (2:Int)=0 from h) (by decide),rfl⟩⟩
theorem iE {s:PS}{t:Tkn}{r:List Tkn}(hx:s.x=0) (e:s.toks=t :: r):Stp 1 s s.drop1:=by
 refine ⟨?_,fun h=>absurd hx h,fun _=>⟨hx,?_⟩,rfl⟩
 ·show (s.toks.drop 1).length≤_
  simp
 show (s.toks.drop 1).length+1≤_;rw [e];simp
theorem aq (s:PS):Stp 1 s s.word.2:=by
 unfold PS.word;rcases next_cases s 0 with ⟨t,r,hx,e,_,h⟩ | ⟨s',h,hs⟩
 ·rw [h];exact iE hx e
 rw [h];exact hs 1
theorem aI (s:PS) (k:Nat) (t:List UInt8):Stp 1 s (s.expect k t):=by
 unfold PS.expect;rcases next_cases s k with ⟨t0,r,hx,e,_,h⟩ | ⟨s',h,hs⟩
 ·rw [h]
  show Stp 1 s (if t0.text=t then s.drop1 else s.fail 2);split
  ·exact iE hx e
  exact dz s 2 (by decide) 1
 rw [h];exact hs 1
theorem jT (s:PS):Stp 1 s s.number.2:=by
 unfold PS.number;rcases next_cases s 1 with ⟨t0,r,hx,e,_,h⟩ | ⟨s',h,hs⟩
 ·rw [h]
  show Stp 1 s (if valX t0.text≠0 then _ else _:Rat × PS).2;split
  ·rename_i hv
   exact dz s _ hv 1
  exact iE hx e
 rw [h];exact hs 1
theorem gX (s:PS):Stp 4 s s.mark.2:=(((aq s).trans (jT _)).trans (jT _)).trans (aI _ _ _)
theorem eH {s:PS}(h:∀ t∈s.toks,NmL t.text):NmL s.word.1:=by
 unfold PS.word;rcases next_cases s 0 with ⟨t,r,hx,e,_,h1⟩ | ⟨s',h1,_⟩
 ·rw [h1];exact h t (by rw [e];simp)
 rw [h1];show ([]:List UInt8).length < _;decide
theorem me {f:Nat}{s:PS}{l:List ar}(h:s.x≠0):PS.marks f s l=(l,s):=by
 cases f
 ·rfl
 exact if_pos h
theorem fF {f:Nat}{s:PS}{l:List ar}(hf:0 < f) (h:s.x=0) (hs:s.signHead=true):PS.marks f s l=(l,s.expect 2 [125]):=by
 obtain ⟨f,rfl⟩:∃ g,f=g+1:=⟨f - 1,by omega⟩;show (if s.x≠0 then _ else if s.signHead then _ else _)=_;rw [if_neg (by simp [h]),if_pos hs]
theorem dA {f:Nat}{s:PS}{l:List ar}(hf:0 < f) (h:s.x=0) (hs:s.signHead=false):PS.marks f s l=PS.marks (f - 1) s.mark.2 (l ++ [s.mark.1]):=by
 obtain ⟨f,rfl⟩:∃ g,f=g+1:=⟨f - 1,by omega⟩;show (if s.x≠0 then _ else if s.signHead then _ else _)=_;rw [if_neg (by simp [h]),if_neg (by simp [hs])];rfl
theorem lc:∀ (f:Nat) (s:PS) (l:List ar),Stp 0 s (PS.marks f s l).2
 | 0,s,_=>Stp.refl s
 | f+1,s,l=>by
  by_cases h:s.x=0
  ·cases hs:s.signHead
   ·rw [dA (by omega) h hs]
    exact ((gX s).trans (lc f _ _)).mono (by omega)
   rw [fF (by omega) h hs];exact (aI _ _ _).mono (by omega)
  rw [me h];exact Stp.refl s
theorem nI (s:PS):Stp 2 s s.body.2:=(((aq s).trans (aI _ _ _)).trans (lc _ _ _)).mono (by omega)
theorem fG (s:PS) (only:Int):Stp 1 s (s.named only).2:=by
 unfold PS.named;simp only;split
 ·rename_i hx
  exact aq s
 split
 ·split
  ·exact ((aq s).trans (dz _ 7 (by decide) 0)).mono (by omega)
  exact aq s
 exact ((aq s).trans (dz _ 5 (by decide) 0)).mono (by omega)
theorem cG (s:PS) (only:Int):Stp 3 s (s.full only).2.2:=by
 have h:=((fG s only).trans (aI _ 2 [46])).trans (aq _);unfold PS.full;simp only;split
 ·exact h
 split
 ·exact h
 exact (h.trans (dz _ 5 (by decide) 0)).mono (by omega)
theorem fH {s:PS}(h:s.word.1≠[]):s.word.2.toks.length+1=s.toks.length∧s.x=0:=by
 unfold PS.word at h ⊢;rcases next_cases s 0 with ⟨t,r,hx,e,_,h1⟩ | ⟨s',h1,_⟩
 ·rw [h1]
  refine ⟨?_,hx⟩;show (s.toks.drop 1).length+1=_;rw [e];simp
 rw [h1] at h;exact absurd rfl h
theorem ld:∀ (f:Nat) (s:PS) (l:List ar),(PS.marks f s l).1.length≤l.length+s.toks.length+(if s.x=0 then 1 else 0)
 | 0,s,l=>by
  show l.length≤_;omega
 | f+1,s,l=>by
  by_cases h:s.x=0
  ·cases hs:s.signHead
   ·rw [dA (by omega) h hs,if_pos h]
    have h1:=ld f s.mark.2 (l ++ [s.mark.1]);have h2:=gX s;rw [List.length_append,List.length_singleton] at h1;show (PS.marks f s.mark.2 _).1.length≤_;by_cases hx:s.mark.2.x=0
    ·have:=(h2.2.2.1 hx).2
     rw [if_pos hx] at h1;omega
    have:=h2.1;rw [if_neg hx] at h1;omega
   rw [fF (by omega) h hs];show l.length≤_;omega
  rw [me h];show l.length≤_;omega
theorem ua (s:PS):s.body.1.pts.length≤s.toks.length+1:=by
 have h:=ld (s.toks.length+1) (s.word.2.expect 2 [123]) [];have h2:=((aq s).trans (aI s.word.2 2 [123])).1;show (PS.marks (s.toks.length+1) (s.word.2.expect 2 [123]) []).1.length≤_;simp only [List.length_nil,Nat.zero_add] at h;split at h <;> omega
theorem ub {l:List ai}{nm:List UInt8}{i:Nat}(h:fT l nm=some i):i < l.length:=by
 unfold fT at h;exact (List.findIdx?_eq_some_iff_findIdx_eq.1 h).1
theorem uc (s:PS) (only:Int) (h:(s.named only).2.x=0):∃ i:Nat,(s.named only).1=(i:Int)∧i < s.L.bodies.length:=by
 have hL:=(aq s).2.2.2;unfold PS.named at h ⊢;simp only at h ⊢;split at h
 ·rename_i hx;exact absurd h hx
 rename_i hx;rw [if_neg hx];split at h
 ·rename_i i hi
  exact ⟨i,rfl,by rw [← hL];exact ub hi⟩
 rename_i hn;have:(s.word.2.fail 5).x≠0:=by unfold PS.fail;rw [if_pos (by simpa using hx)];show (5:Int)≠0;decide
 exact absurd h this
theorem lf (s:PS) (b:Bool):(s.joint b).toks.length≤s.toks.length∧((s.joint b).x=0→s.x=0):=by
 have h0:=aq s;have h1:=cG s.word.2 (-1);unfold PS.joint;cases b
 ·simp only [Bool.false_eq_true,if_false]
  generalize s.word.2.full (-1)=fa at h1 ⊢;have h2:=cG fa.2.2 (-1);generalize fa.2.2.full (-1)=fb at h2 ⊢;have h:=((h0.trans h1).trans h2).trans (aI fb.2.2 2 [59]);exact ⟨h.1,fun hx=>(h.2.2.1 hx).1⟩
 simp only [if_true];generalize s.word.2.full (-1)=fa at h1 ⊢;have h2:=cG fa.2.2 (-1);generalize fa.2.2.full (-1)=fb at h2 ⊢;have h4:=cG fb.2.2 fb.1;generalize fb.2.2.full fb.1=ft at h4 ⊢;have h:=(((h0.trans h1).trans h2).trans h4).trans (aI ft.2.2 2 [59]);exact ⟨h.1,fun hx=>(h.2.2.1 hx).1⟩
theorem o8 (s:PS):s.driver.toks.length≤s.toks.length∧(s.driver.x=0→s.x=0):=by
 have h:=((aq s).trans (fG _ (-1))).trans (aI _ 2 [59]);unfold PS.driver;exact ⟨h.1,fun hx=>(h.2.2.1 hx).1⟩
theorem nJ (s:PS):s.item.toks.length≤s.toks.length∧(s.item.x=0→s.item.toks.length+1≤s.toks.length):=by
 have hw:=aq s
 have key:∀ s':PS,s'.toks.length≤s.word.2.toks.length→(s'.x=0→s.word.2.x=0)→s'.toks.length≤s.toks.length∧(s'.x=0→s'.toks.length+1≤s.toks.length):=by
  intro s' h1 h2;refine ⟨Nat.le_trans h1 hw.1,fun hx=>?_⟩;have:=(hw.2.2.1 (h2 hx)).2;omega
 unfold PS.item;split
 ·have h:=nI s.word.2
  exact key _ h.1 (fun hx=>(h.2.2.1 hx).1)
 split
 ·have h:=lf s.word.2 false
  exact key _ h.1 h.2
 split
 ·have h:=lf s.word.2 true
  exact key _ h.1 h.2
 split
 ·have h:=o8 s.word.2
  exact key _ h.1 h.2
 have h:=dz s.word.2 2 (by decide) 0;exact key _ h.1 (fun hx=>(h.2.2.1 hx).1)
theorem lg {f:Nat}{s:PS}(h:¬ (s.x=0∧s.toks≠[])):PS.items f s=s:=by
 cases f
 ·rfl
 exact if_neg h
theorem jU {f:Nat}{s:PS}(hf:0 < f) (h:s.x=0∧s.toks≠[]):PS.items f s=PS.items (f - 1) s.item:=by
 obtain ⟨f,rfl⟩:∃ g,f=g+1:=⟨f - 1,by omega⟩;exact if_pos h
def OwJ (J:Value→Bool) (w:World) (base:Nat) (e:TypeId) (size:Nat) (v:Value) (n:Nat) (xs:List Value):Prop :=
  xs.length=n * size ∧
  ((v=.slice none 0 0∧n=0) ∨
   ∃ g cap cur,v=.slice (some ⟨g,0,none⟩) n cap∧base≤g∧w.heap[g]?=some (.cells cur e (0,0))∧n≤cap∧cap≤maxLen∧cur.size=cap * size∧cur.toList.take (n * size)=xs∧cur.toList.all J=true)
theorem OwJ.nil (J:Value→Bool) (w:World) (base:Nat) (e:TypeId) (size:Nat):OwJ J w base e size (.slice none 0 0) 0 []:=⟨by simp,.inl ⟨rfl,rfl⟩⟩
section
variable {J:Value→Bool}{w w':World}{base:Nat}{e:TypeId}{size:Nat}{v:Value}{n:Nat}{xs:List Value}
theorem OwJ.belw (h:OwJ J w base e size v n xs) (hb:Below w.heap.size w w'):OwJ J w' base e size v n xs:=by
 refine ⟨h.1,?_⟩;rcases h.2 with h1 | ⟨g,cap,cur,h1,h2,h3,h4⟩
 ·exact .inl h1
 exact .inr ⟨g,cap,cur,h1,h2,(hb.block g (lt_of_block h3)).trans h3,h4⟩
theorem OwJ.own (h:OwJ J w base e size v n xs):w.ownsRow base e size v n xs:=by
 refine ⟨h.1,?_⟩;rcases h.2 with h1 | ⟨g,cap,cur,h1,h2,h3,h4,h5,h6,h7,_⟩
 ·exact .inl h1
 exact .inr ⟨g,cap,cur,h1,h2,h3,h4,h5,h6,h7⟩
theorem OwJ.at_ (h:OwJ J w base e size v n xs) {g:Nat}(hg:v.ownBlock=some g):base≤g∧∃ cur,w.heap[g]?=some (.cells cur e (0,0))∧cur.toList.all J=true:=by
 rcases h.2 with ⟨rfl,_⟩ | ⟨g',cap,cur,rfl,h2,h3,_,_,_,_,h8⟩
 ·cases hg
 injection hg with hg;subst hg;exact ⟨h2,cur,h3,h8⟩
end
section
variable {P:Program}(w:World)
theorem ud {J:Value→Bool}{z:Array Value}(hz:z.toList.all J=true) (h0:0 < z.size) (n:Nat):(Builtin.zeroCells z n).toList.all J=true:=by
 rw [List.all_eq_true] at hz ⊢;intro x hx;unfold Builtin.zeroCells at hx;rw [Array.mem_toList_iff,Array.mem_map] at hx;obtain ⟨i,_,rfl⟩:=hx;have hlt:=Nat.mod_lt i h0;rw [getElem!_pos z _ hlt];exact hz _ (by simp)
theorem gY (J:Value→Bool) (base:Nat) (t ty e:TypeId) (i:TypeInfo) (z:Value) (size bytes:Nat) (ht:P.underlying t=some (.slice e)) (hi:P.info? e=some i) (hz:i.zero=some z)
 (hsize:i.size=size) (hby:i.bytes=bytes) (hzs:z.cells.size=size) (hsz:0 < size) (hJz:z.cells.toList.all J=true)
 (v:Value) (n:Nat) (xs:List Value) (hown:OwJ J w base e size v n xs)
 (a:Addr) (m c:Nat) (news:List Value) (hl:news.length=m * size) (hnews:∀ j u,news[j]?=some u→w.cell? (a.add j)=some u) (h1:∀ u∈news,u.oneCell'=true) (hJn:news.all J=true)
 (hm:0 < m) (h63:n+m≤maxLen) (hbytes:(n+m) * bytes≤140737488355328) (hbase:base≤w.heap.size) :
 ∃ g cap w',(Builtin.append_ #[t,t] ty #[v,.slice (some a) m c]).run P w=.ok (.slice (some ⟨g,0,none⟩) (n+m) cap) w'∧OwJ J w' base e size (.slice (some ⟨g,0,none⟩) (n+m) cap) (n+m) (xs ++ news) ∧
  w.grownBy w' v.ownBlock∧(v.ownBlock=some g∨g=w.heap.size):=by
 subst hsize
 subst hby
 have hsmall:n+m≤9223372036854775807:=by simp only [maxLen] at h63;omega
 have hlen:(xs ++ news).length=(n+m) * i.size:=by rw [List.length_append,hown.1,hl,Nat.add_mul]
 have fresh:∀ (old:Nat),xs.all J=true →
  OwJ J (w.drew.alloc (.cells (xs.toArray ++ news.toArray ++ Builtin.zeroCells z.cells (grownCap w (n+m) old e - (n+m))) e)) base e i.size (.slice (some ⟨w.heap.size,0,none⟩) (n+m) (grownCap w (n+m) old e)) (n+m) (xs ++ news):=by
  intro old hx;have hge:=grownCap_ge w (n+m) old e;refine ⟨hlen,.inr ⟨w.heap.size,_,_,rfl,hbase,heap_alloc_new w.drew _,hge,grownCap_le_maxLen w (n+m) old e h63,?_,?_,?_⟩⟩
  ·simp only [Array.size_append,List.size_toArray,size_zeroCells,hzs,hown.1,hl,← Nat.add_mul]
   congr 1;omega
  ·simp only [Array.toList_append,List.append_assoc]
   rw [← List.append_assoc,← hlen];exact List.take_left
  simp only [Array.toList_append,List.all_append,hx,hJn,Bool.true_and];exact ud hJz (by omega) _
 have gb:∀ (o:Obj) (row:Option Nat),w.grownBy (w.drew.alloc o) row:=fun o row=>⟨rfl,rfl,rfl,by simp,fun k hk _=>Below.heap_alloc w.drew o k hk⟩
 rcases hown.2 with ⟨rfl,rfl⟩ | ⟨g,cap,cur,rfl,hbg,hg,hnc,hcm,hcs,htake,hJ⟩
 ·have hx:xs=[]:=List.eq_nil_of_length_eq_zero (by simpa using hown.1)
  subst hx;have hr:=run_append_nil (P:=P) w t ty e i z ht hi hz a m c news hl hnews (by omega) (by omega) (by have hb:=hbytes;simp only [Nat.zero_add] at hb;omega);have hf:=fresh 0 rfl;simp only [Nat.zero_add,List.nil_append,Array.empty_append] at hf ⊢;exact ⟨_,_,_,hr,hf,gb _ _,.inr rfl⟩
 by_cases hroom:n+m≤cap
 ·have hfit:n * i.size+news.length≤cur.size:=by rw [hl,hcs,← Nat.add_mul];exact Nat.mul_le_mul_right _ hroom
  have hr:=run_append_room (P:=P) w t ty e i ht hi g n cap cur hg a m c news hl hnews h1 hroom hfit;refine ⟨g,cap,_,hr,⟨hlen,.inr ⟨g,cap,_,rfl,hbg,setRow_heap w g cur _ e _ hg,hroom,hcm,?_,?_,?_⟩⟩,⟨rfl,rfl,rfl,by simp,fun k _ hk=>setRow_other w g k _ (fun e=>hk (by simp [Value.ownBlock,e]))⟩,.inl rfl⟩
  ·simp only [List.size_toArray,List.length_append,List.length_take,List.length_drop,Array.length_toList]
   omega
  ·rw [htake,← hlen]
   exact List.take_left
  rw [List.all_eq_true] at hJ hJn ⊢;intro x hx;rcases List.mem_append.1 hx with hx | hx
  ·rcases List.mem_append.1 hx with hx | hx
   ·exact hJ x (List.mem_of_mem_take hx)
   exact hJn x hx
  exact hJ x (List.mem_of_mem_drop hx)
 have holds:∀ j u,xs[j]?=some u→w.cell? ((⟨g,0,none⟩:Addr).add j)=some u:=hown.own.cells (g:=g) rfl;have hr:=run_append_grow (P:=P) w t ty e i z ht hi hz ⟨g,0,none⟩ n cap xs hown.1 holds a m c news hl hnews (by omega) (by omega) (growslice_fits (by omega) hbytes);exact ⟨_,_,_,hr,fresh cap (by rw [List.all_eq_true] at hJ ⊢;intro x hx;rw [← htake] at hx;exact hJ x (List.mem_of_mem_take hx)),gb _ _,.inr rfl⟩
theorem de {ops:Array Oper}{rest:List Oper}{o:Oper}{a:Act}{Q:Exit→Act→World→Prop}(hgd:o.guard=none) (J:Value→Bool) (s x:Operand) (t:TypeId)
 (ho:o.op=.call { callee:=.builtin .append,args:=#[s,x],argTypes:=#[t,t] })
 (base:Nat) (e:TypeId) (i:TypeInfo) (z:Value) (size bytes:Nat) (ht:P.underlying t=some (.slice e)) (hi:P.info? e=some i) (hz:i.zero=some z)
 (hsize:i.size=size) (hby:i.bytes=bytes) (hzs:z.cells.size=size) (hsz:0 < size) (hJz:z.cells.toList.all J=true)
 (v:Value) (n:Nat) (xs:List Value) (hs:a.eval s=v) (hown:OwJ J w base e size v n xs)
 (ad:Addr) (m c:Nat) (news:List Value) (hx:a.eval x=.slice (some ad) m c) (hl:news.length=m * size) (hnews:∀ j u,news[j]?=some u→w.cell? (ad.add j)=some u) (h1:∀ u∈news,u.oneCell'=true) (hJn:news.all J=true)
 (hm:0 < m) (h63:n+m≤maxLen) (hbytes:(n+m) * bytes≤140737488355328) (hbase:base≤w.heap.size)
 (h:∀ g cap w',OwJ J w' base e size (.slice (some ⟨g,0,none⟩) (n+m) cap) (n+m) (xs ++ news)→w.grownBy w' v.ownBlock→(v.ownBlock=some g∨g=w.heap.size)→wpList P ops Q rest (a.put o.dst (.slice (some ⟨g,0,none⟩) (n+m) cap)) w'):wpList P ops Q (o :: rest) a w :=
 wpList_plain hgd fun _ hK=>by
  obtain ⟨g,cap,w',hr,h2,h3,h4⟩:=gY (P:=P) w J base t o.type e i z size bytes ht hi hz hsize hby hzs hsz hJz v n xs hown ad m c news hl hnews h1 hJn hm h63 hbytes hbase;unfold Oper.wp execOp;simp only [ho,resolve,invoke,builtin,Sem.run_bind,Sem.run_pure,Result.andThen_ok,List.map_toArray,List.map_cons,List.map_nil,hs,hx,hr];exact hK _ _ (h g cap w' h2 h3 h4)
theorem dG {o:Oper}{a:Act}{K:Act→World→Prop}{Q:Exit→Act→World→Prop}(J:Value→Bool) (s x:Operand) (t:TypeId)
 (ho:o.op=.call { callee:=.builtin .append,args:=#[s,x],argTypes:=#[t,t] })
 (base:Nat) (e:TypeId) (i:TypeInfo) (z:Value) (size bytes:Nat) (ht:P.underlying t=some (.slice e)) (hi:P.info? e=some i) (hz:i.zero=some z)
 (hsize:i.size=size) (hby:i.bytes=bytes) (hzs:z.cells.size=size) (hsz:0 < size) (hJz:z.cells.toList.all J=true)
 (v:Value) (n:Nat) (xs:List Value) (hs:a.eval s=v) (hown:OwJ J w base e size v n xs)
 (ad:Addr) (m c:Nat) (news:List Value) (hx:a.eval x=.slice (some ad) m c) (hl:news.length=m * size) (hnews:∀ j u,news[j]?=some u→w.cell? (ad.add j)=some u) (h1:∀ u∈news,u.oneCell'=true) (hJn:news.all J=true)
 (hm:0 < m) (h63:n+m≤maxLen) (hbytes:(n+m) * bytes≤140737488355328) (hbase:base≤w.heap.size)
 (h:∀ g cap w',OwJ J w' base e size (.slice (some ⟨g,0,none⟩) (n+m) cap) (n+m) (xs ++ news)→w.grownBy w' v.ownBlock→(v.ownBlock=some g∨g=w.heap.size)→K (a.put o.dst (.slice (some ⟨g,0,none⟩) (n+m) cap)) w'):o.wp P a w K Q:=by
 obtain ⟨g,cap,w',hr,h2,h3,h4⟩:=gY (P:=P) w J base t o.type e i z size bytes ht hi hz hsize hby hzs hsz hJz v n xs hown ad m c news hl hnews h1 hJn hm h63 hbytes hbase;unfold Oper.wp execOp;simp only [ho,resolve,invoke,builtin,Sem.run_bind,Sem.run_pure,Result.andThen_ok,List.map_toArray,List.map_cons,List.map_nil,hs,hx,hr];exact h g cap w' h2 h3 h4
end
/-! What touches blocks of certain types only. -/
def isU (v:Value):Bool:=match v with | .int .u32 _=>true | _=>false
def noW (v:Value):Bool:=!isU v
def Tch (T:TypeId→Bool) (w w':World):Prop:=w.heap.size≤w'.heap.size∧∀ (g:Nat) cur t fr,w.heap[g]?=some (.cells cur t fr)→(T t=false∨cur.toList.all noW=false)→w'.heap[g]?=some (.cells cur t fr)
section
variable {T:TypeId→Bool}{w w' w2:World}
theorem Tch.refl (w:World):Tch T w w:=⟨Qr,fun _ _ _ _ h _=>h⟩
theorem Tch.trans (h:Tch T w w') (k:Tch T w' w2):Tch T w w2:=⟨Nat.le_trans h.1 k.1,fun g cur t fr x y=>k.2 g cur t fr (h.2 g cur t fr x y) y⟩
theorem Tch.below (h:Below w.heap.size w w'):Tch T w w':=⟨h.size,fun g _ _ _ x _=>(h.block g (lt_of_block x)).trans x⟩
theorem Tch.more (h:Tch T w w') (k:Below w'.heap.size w' w2):Tch T w w2:=h.trans (Tch.below k)
theorem Tch.mono {T':TypeId→Bool}(h:Tch T w w') (hT:∀ t,T t=true→T' t=true):Tch T' w w':=⟨h.1,fun g cur t fr x y=>h.2 g cur t fr x (y.imp (fun h=>by cases e:T t;rfl;rw [hT t e] at h;cases h) id)⟩
theorem Tch.of_ne {g0:Nat}{cur:Array Value}{t:TypeId}{fr:Nat × Nat}(hs:w.heap.size≤w'.heap.size) (hg:w.heap[g0]?=some (.cells cur t fr)) (hT:T t=true) (hc:cur.toList.all noW=true) (h:∀ g,g < w.heap.size→g≠g0→w'.heap[g]?=w.heap[g]?):Tch T w w':=by
 refine ⟨hs,fun g c t' fr' x y=>?_⟩;by_cases e:g=g0
 ·subst e
  rw [hg] at x;injection x with x;injection x with x1 x2;subst x1 x2;rw [hT,hc] at y;rcases y with y | y <;> cases y
 rw [h g (lt_of_block x) e];exact x
theorem Tch.set {g0:Nat}{cur:Array Value}{t:TypeId}(hg:Blk w g0 t cur) (hT:T t=true) (hc:cur.toList.all noW=true) (i:Nat) (u:Value):Tch T w (w.setCell ⟨g0,i,none⟩ u) :=
 Tch.of_ne (by simp [World.setCell]) hg hT hc fun g _ hne=>Below.heap_setCell w ⟨g0,i,none⟩ u g hne
theorem Tch.grown {J:Value→Bool}{base:Nat}{e:TypeId}{size:Nat}{v:Value}{n:Nat}{xs:List Value}(hJ:∀ u,J u=true→noW u=true) (hT:T e=true) (h:OwJ J w base e size v n xs) (hg:w.grownBy w' v.ownBlock):Tch T w w':=by
 cases hv:v.ownBlock with
 | none=>exact ⟨hg.size,fun g _ _ _ x _=>(hg.block g (lt_of_block x) (by rw [hv];simp)).trans x⟩
 | some g0 =>
  obtain ⟨_,cur,h3,h4⟩:=h.at_ hv;refine Tch.of_ne hg.size h3 hT ?_ fun g hlt hne=>hg.block g hlt (by rw [hv];simpa using hne)
  rw [List.all_eq_true] at h4 ⊢;exact fun u hu=>hJ u (h4 u hu)
theorem Wd.tch {A:Option Addr}{n c:Nat}{l:List Nat}(x:Wd w A n c l) (h:Tch T w w'):Wd w' A n c l:=by
 refine ⟨x.1,x.2.1,x.2.2.1,fun hn=>?_⟩;obtain ⟨g,o,cur,fr,e,⟨t,hr,hb⟩,hc⟩:=x.2.2.2 hn;refine ⟨g,o,cur,fr,e,⟨t,hr,h.2 g cur t fr hb (.inr ?_)⟩,hc⟩;have h0:=hc 0 hn;rw [List.all_eq_false];exact ⟨_,by rw [Array.mem_toList_iff];exact Array.mem_of_getElem? h0,by simp [noW,isU]⟩
theorem QD.tch {b:Bool}{A D:Option Addr}{n c m e k:Nat}{r:RD}(x:QD w b A n c D m e r k) (h:Tch T w w'):QD w' b A n c D m e r k:=⟨x.1,x.2.1.tch h,x.2.2.1.tch h,x.2.2.2⟩
end
def SlT {α:Type}(T0:TypeId) (P:World→Nat→Nat→α→Prop) (s:Nat) (w:World) (A:Option Addr) (n c:Nat) (l:List α):Prop :=
  l.length=n∧n≤c∧(0 < n→∃ g o cur fr,A=some ⟨g,o,none⟩∧w.heap[g]?=some (.cells cur T0 fr)∧∀ i a,l[i]?=some a→P w g (o+i * s) a)
theorem SlT.sl {α:Type}{T0:TypeId}{P P':World→Nat→Nat→α→Prop}{s:Nat}{w:World}{A:Option Addr}{n c:Nat}{l:List α}(h:SlT T0 P s w A n c l) (hP:∀ g o a,P w g o a→P' w g o a):SlS P' s w A n c l:=by
 refine ⟨h.1,h.2.1,fun hn=>?_⟩;obtain ⟨g,o,cur,fr,e,hb,h3⟩:=h.2.2 hn;exact ⟨g,o,e,lt_of_block hb,fun i a ha=>hP _ _ _ (h3 i a ha)⟩
theorem SlT.nil {α:Type}(T0:TypeId) (P:World→Nat→Nat→α→Prop) (s:Nat) (w:World):SlT T0 P s w none 0 0 ([]:List α):=⟨rfl,Qr,fun h=>absurd h (by omega)⟩
section
variable {T:TypeId→Bool}{w w':World}
theorem SlT.tch {α:Type}{T0:TypeId}{P:World→Nat→Nat→α→Prop}{s:Nat}{A:Option Addr}{n c:Nat}{l:List α}(x:SlT T0 P s w A n c l) (h:Tch T w w') (hT:T T0=false) (hP:∀ g o a,w'.heap[g]?=w.heap[g]?→P w g o a→P w' g o a):SlT T0 P s w' A n c l:=by
 refine ⟨x.1,x.2.1,fun hn=>?_⟩;obtain ⟨g,o,cur,fr,e,hb,h3⟩:=x.2.2 hn;have hb':=h.2 g cur T0 fr hb (.inl hT);exact ⟨g,o,cur,fr,e,hb',fun i a ha=>hP _ _ _ (hb'.trans hb.symm) (h3 i a ha)⟩
theorem fI {g o:Nat}(hs:w'.heap[g]?=w.heap[g]?):w'.cell? ⟨g,o,none⟩=w.cell? ⟨g,o,none⟩:=by unfold World.cell?;rw [hs]
theorem cJ.tch {g o k:Nat}{r:RD}(hs:w'.heap[g]?=w.heap[g]?) (h:Tch T w w') (x:cJ w g o r k):cJ w' g o r k:=by
 obtain ⟨b,A,n,c,D,m,e,h1,h2,h3,h4⟩:=x;exact ⟨b,A,n,c,D,m,e,(fI hs).trans h1,(fI hs).trans h2,(fI hs).trans h3,h4.tch h⟩
theorem cW.tch {g o k:Nat}{m:ar}(hs:w'.heap[g]?=w.heap[g]?) (h:Tch T w w') (x:cW k w g o m):cW k w' g o m :=
 ⟨(fI hs).trans x.1,x.2.1.tch hs h,x.2.2.1.tch hs h,x.2.2.2⟩
abbrev ks (k:Nat) (w:World) (A:Option Addr) (n c:Nat) (l:List ar):Prop:=SlT 67 (cW k) 7 w A n c l
theorem ks.tch {k:Nat}{A:Option Addr}{n c:Nat}{l:List ar}(x:ks k w A n c l) (h:Tch T w w') (hT:T 67=false):ks k w' A n c l:=SlT.tch x h hT fun _ _ _ hs p=>p.tch hs h
end
/-! A thing's cells. -/
def MkC (k:Nat) (w:World) (cs:List Value) (m:ar):Prop:=∃ b A n c D m1 e b' A' n' c' D' m' e',cs=[af m.name,.bool b,.slice A n c,.slice D m1 e,.bool b',.slice A' n' c',.slice D' m' e']∧QD w b A n c D m1 e m.x k∧QD w b' A' n' c' D' m' e' m.y k∧NmL m.name
def BdC (k:Nat) (w:World) (cs:List Value) (b:ai):Prop:=∃ A n c,cs=[af b.name,.slice A n c]∧ks k w A n c b.pts∧NmL b.name
def JtC (_:World) (cs:List Value) (j:aM):Prop:=cs=[af j.name,.int .i64 j.kind,.int .i64 j.a,.int .i64 j.point,.int .i64 j.b,.int .i64 j.on,.int .i64 j.to_]∧NmL j.name
def DrC (_:World) (cs:List Value) (d:aV):Prop:=cs=[af d.name,.int .i64 d.body]∧NmL d.name
section
variable {T:TypeId→Bool}{w w':World}{k:Nat}{cs:List Value}
theorem MkC.tch {m:ar}(x:MkC k w cs m) (h:Tch T w w'):MkC k w' cs m:=by
 obtain ⟨b,A,n,c,D,m1,e,b',A',n',c',D',m',e',h0,h1,h2,h3⟩:=x;exact ⟨b,A,n,c,D,m1,e,b',A',n',c',D',m',e',h0,h1.tch h,h2.tch h,h3⟩
theorem BdC.tch {b:ai}(x:BdC k w cs b) (h:Tch T w w') (hT:T 67=false):BdC k w' cs b:=by
 obtain ⟨A,n,c,h0,h1,h2⟩:=x;exact ⟨A,n,c,h0,h1.tch h hT,h2⟩
theorem MkC.at_ {m:ar}{g o:Nat}(x:MkC k w cs m) (hc:∀ j u,cs[j]?=some u→w.cell? ⟨g,o+j,none⟩=some u):cW k w g o m:=by
 obtain ⟨b,A,n,c,D,m1,e,b',A',n',c',D',m',e',rfl,h1,h2,h3⟩:=x;exact ⟨hc 0 _ rfl,⟨b,A,n,c,D,m1,e,hc 1 _ rfl,hc 2 _ rfl,hc 3 _ rfl,h1⟩,⟨b',A',n',c',D',m',e',hc 4 _ rfl,hc 5 _ rfl,hc 6 _ rfl,h2⟩,h3⟩
theorem BdC.at_ {b:ai}{g o:Nat}(x:BdC k w cs b) (hc:∀ j u,cs[j]?=some u→w.cell? ⟨g,o+j,none⟩=some u):dw k w g o b:=by
 obtain ⟨A,n,c,rfl,h1,h2⟩:=x;exact ⟨A,n,c,hc 0 _ rfl,hc 1 _ rfl,h1.sl fun _ _ _ p=>p,h2⟩
theorem JtC.at_ {j:aM}{g o:Nat}(x:JtC w cs j) (hc:∀ i u,cs[i]?=some u→w.cell? ⟨g,o+i,none⟩=some u):gN w g o j:=by
 obtain ⟨rfl,h2⟩:=x;exact ⟨hc 0 _ rfl,hc 1 _ rfl,hc 2 _ rfl,hc 3 _ rfl,hc 4 _ rfl,hc 5 _ rfl,hc 6 _ rfl,h2⟩
theorem DrC.at_ {d:aV}{g o:Nat}(x:DrC w cs d) (hc:∀ i u,cs[i]?=some u→w.cell? ⟨g,o+i,none⟩=some u):gP w g o d:=by
 obtain ⟨rfl,h2⟩:=x;exact ⟨hc 0 _ rfl,hc 1 _ rfl,h2⟩
end
def fQ {α:Type}(Pc:World→List Value→α→Prop) (s:Nat) (w:World) (l:List α) (xs:List Value):Prop :=
  ∃ css:List (List Value),xs=css.flatten∧css.length=l.length∧(∀ cs∈css,cs.length=s)∧∀ (i:Nat) a cs,l[i]?=some a→css[i]?=some cs→Pc w cs a
theorem pS {s:Nat}:∀ {css:List (List Value)}{i:Nat}{cs:List Value},(∀ x∈css,x.length=s)→css[i]?=some cs→∀ j,j < s→css.flatten[i * s+j]?=cs[j]?
 | [],i,cs,_,h,_,_=>by simp at h
 | x :: css,0,cs,hl,h,j,hj=>by
  simp only [List.getElem?_cons_zero,Option.some.injEq] at h;subst h;have:=hl x (by simp);rw [List.flatten_cons,Nat.zero_mul,Nat.zero_add,List.getElem?_append_left (by omega)]
 | x :: css,i+1,cs,hl,h,j,hj=>by
  have hx:=hl x (by simp);rw [List.flatten_cons,List.getElem?_append_right (by rw [hx,Nat.add_mul];omega),hx,show (i+1) * s+j - s=i * s+j by rw [Nat.add_mul];omega];exact pS (fun y hy=>hl y (by simp [hy])) (by simpa using h) j hj
section
variable {α:Type}{Pc:World→List Value→α→Prop}{s:Nat}{w w':World}{l:List α}{xs:List Value}
theorem fQ.nil:fQ Pc s w ([]:List α) []:=by
 refine ⟨[],rfl,rfl,?_,?_⟩
 ·intro cs h;cases h
 intro i a cs h;simp at h
theorem fQ.snoc {a:α}{cs:List Value}(h:fQ Pc s w l xs) (ha:Pc w cs a) (hs:cs.length=s):fQ Pc s w (l ++ [a]) (xs ++ cs):=by
 obtain ⟨css,e,hl,hall,hp⟩:=h;refine ⟨css ++ [cs],by simp [e],by simp [hl],fun x hx=>?_,fun i b ds hb hd=>?_⟩
 ·rcases List.mem_append.1 hx with hx | hx
  ·exact hall x hx
  simp at hx;subst hx;exact hs
 rcases Nat.lt_or_ge i l.length with hi | hi
 ·rw [List.getElem?_append_left hi] at hb
  rw [List.getElem?_append_left (by omega)] at hd;exact hp i b ds hb hd
 rw [List.getElem?_append_right hi] at hb;rw [List.getElem?_append_right (by omega),hl] at hd;rcases Nat.eq_zero_or_pos (i - l.length) with h0 | h0
 ·rw [h0] at hb hd
  simp at hb hd;subst hb hd;exact ha
 rw [List.getElem?_eq_none (by simp;omega)] at hb;cases hb
theorem fQ.map_ {w':World}(h:fQ Pc s w l xs) (hP:∀ cs a,Pc w cs a→Pc w' cs a):fQ Pc s w' l xs:=by
 obtain ⟨css,e,hl,hall,hp⟩:=h;exact ⟨css,e,hl,hall,fun i a cs h1 h2=>hP _ _ (hp i a cs h1 h2)⟩
end
def ba {α:Type}(T0:TypeId) (Pc:World→List Value→α→Prop) (s:Nat) (w:World) (base:Nat) (v:Value) (n:Nat) (l:List α):Prop:=l.length=n∧∃ xs,OwJ noW w base T0 s v n xs∧fQ Pc s w l xs
section
variable {α:Type}{T0:TypeId}{Pc:World→List Value→α→Prop}{s:Nat}{w w':World}{base:Nat}{v:Value}{n:Nat}{l:List α}
theorem ba.nil:ba T0 Pc s w base (.slice none 0 0) 0 ([]:List α):=⟨rfl,[],OwJ.nil _ _ _ _ _,fQ.nil⟩
theorem ba.form (h:ba T0 Pc s w base v n l):∃ A c,v=.slice A n c∧n≤c:=by
 obtain ⟨_,xs,h1,_⟩:=h;rcases h1.2 with ⟨rfl,rfl⟩ | ⟨g,cap,cur,rfl,_,_,h4,_⟩
 ·exact ⟨none,0,rfl,Qr⟩
 exact ⟨_,cap,rfl,h4⟩
theorem ba.slT {P:World→Nat→Nat→α→Prop}{A:Option Addr}{c:Nat}(h:ba T0 Pc s w base (.slice A n c) n l) (hP:∀ g o cs a,Pc w cs a→(∀ j u,cs[j]?=some u→w.cell? ⟨g,o+j,none⟩=some u)→P w g o a):SlT T0 P s w A n c l:=by
 obtain ⟨hl,xs,h1,css,e,hcl,hall,hp⟩:=h;rcases h1.2 with ⟨h2,rfl⟩ | ⟨g,cap,cur,h2,_,h3,h4,_,h6,h7,_⟩
 ·injection h2 with a1 _ a3
  subst a1 a3;exact ⟨hl,Qr,fun h=>absurd h (by omega)⟩
 injection h2 with a1 _ a3;subst a1 a3;refine ⟨hl,h4,fun _=>⟨g,0,cur,_,rfl,h3,fun i a ha=>?_⟩⟩;have hi:i < n:=by rw [← hl];exact (List.getElem?_eq_some_iff.1 ha).1
 have hcs:css[i]?=some css[i]:=List.getElem?_eq_getElem (by omega);refine hP _ _ _ _ (hp i a _ ha hcs) fun j u hu=>?_
 have hj:j < s:=by rw [← hall css[i] (List.getElem_mem _)];exact (List.getElem?_eq_some_iff.1 hu).1
 have h9:=pS hall hcs j hj;rw [hu,← e,← h7,List.getElem?_take] at h9;split at h9
 ·unfold World.cell?
  rw [h3];simpa using h9
 cases h9
theorem ba.same (h:ba T0 Pc s w base v n l) (hb:∀ g cur,base≤g→w.heap[g]?=some (.cells cur T0 (0,0))→w'.heap[g]?=some (.cells cur T0 (0,0))) (hP:∀ cs a,Pc w cs a→Pc w' cs a):ba T0 Pc s w' base v n l:=by
 obtain ⟨hl,xs,h1,h2⟩:=h;refine ⟨hl,xs,⟨h1.1,?_⟩,h2.map_ hP⟩;rcases h1.2 with h3 | ⟨g,cap,cur,h3,h4,h5,h6⟩
 ·exact .inl h3
 exact .inr ⟨g,cap,cur,h3,h4,hb g cur h4 h5,h6⟩
theorem ba.tch {T:TypeId→Bool}(h:ba T0 Pc s w base v n l) (ht:Tch T w w') (hT:T T0=false) (hP:∀ cs a,Pc w cs a→Pc w' cs a):ba T0 Pc s w' base v n l:=h.same (fun g cur _ hg=>ht.2 g cur T0 _ hg (.inl hT)) hP
end
theorem vE (w:World) (s:List UInt8):Calls Tryz.prog 227 #[af s,.string ⟨#[48]⟩] w (aF w (af (s.dropWhile (· == 48)))):=by
 refine (Tryz.strings_TrimLeft_one ⟨s.toArray⟩ 48 (by decide) w).mono fun e w' ⟨he,hw⟩=>⟨?_,hw ▸ ae _⟩
 rw [he];congr 2
theorem xx (w:World) (s:List UInt8) (m:Bool) (b:List UInt8) (hm:bL s=m) (hb:bA s=b):Calls Tryz.prog 88 #[af s,.string ⟨#[45]⟩] w (aF w (.tuple #[af b,.bool m])):=by
 refine (Tryz.strings_CutPrefix ⟨s.toArray⟩ ⟨#[45]⟩ w).mono fun e w' ⟨he,hw⟩=>⟨?_,hw ▸ ae _⟩
 rw [he];have e1:Lib.hasPrefix s [45]=m:=(eV s).trans hm;have e2:Lib.trimPrefix s [45]=b:=(gz s).trans hb;show Ending.returned (.tuple #[.string ⟨(Lib.trimPrefix s [45]).toArray⟩,.bool (Lib.hasPrefix s [45])])=_;rw [e1,e2]
theorem yC (w:World) (n:Nat) (hn:n≤1000) (Z:List UInt8) (hZ:List.replicate n 48=Z):Calls Tryz.prog 65 #[.string ⟨#[48]⟩,.int .i64 (n:Nat)] w (aF w (af Z)):=by
 refine (Tryz.strings_Repeat ⟨#[48]⟩ n w (by omega) (by show 1 * n≤_;omega)).mono fun e w' ⟨he,hb⟩=>⟨?_,hb⟩
 subst hZ;rw [he]
 have e9:∀ k,Lib.repeatL [48] k=List.replicate k 48:=fun k=>by
  induction k with
  | zero=>rfl
  | succ k ih=>rw [Lib.repeatL,ih,List.replicate_succ];rfl
 exact congrArg (fun x:List UInt8=>Ending.returned (af x)) (e9 n)
theorem pT (w:World) (T:List UInt8) (z:Int) (ho:okZ T=true) (hz:dq T=z) (hl:T.length≤130):Calls Tryz.prog 188 #[af T] w (gB w .nilIface z 130):=by
 subst hz;exact (oG w T (by omega) ho).mono fun e w' ⟨b,A,n,c,h1,h2,h3⟩=>⟨b,A,n,c,h1,h2.mono hl,h3⟩
theorem pU (w:World) (s t:List UInt8) (ht:cq s=t):Calls Tryz.prog 189 #[af s] w (aF w (af t)):=by
 obtain ⟨u,hu⟩:∃ u,s.dropWhile (· == 48)=u:=⟨_,rfl⟩;unfold cq at ht;rw [hu] at ht;have HT:=vE w s;rw [hu] at HT;have HT:=Qh HT;by_cases h0:u=[]
 ·subst h0
  obtain rfl:[48]=t:=ht;clear hu;go_in;go_wp2_with fail;(with_reducible refine HT.out.mono ?_);rintro e w1 ⟨rfl,hb1⟩;go_wp2;go_ret;exact ⟨rfl,hb1⟩
 obtain rfl:u=t:=by rw [if_neg h0] at ht;exact ht
 obtain ⟨y,ys,hyy⟩:=List.exists_cons_of_ne_nil h0;have hBe:((⟨u.toArray⟩:ByteArray) == ⟨#[]⟩)=false:=by rw [hyy];rfl
 have hBl:(u == [])=false:=by rw [hyy];rfl
 have hBn:(u=[])=False:=eq_false h0;clear hu hyy h0;go_in;go_wp2_with fail;(with_reducible refine HT.out.mono ?_);rintro e w1 ⟨rfl,hb1⟩;go_wp2;go_ret;exact ⟨rfl,hb1⟩
theorem ku (w:World) (s:List UInt8) (h:60 < s.length):Calls Tryz.prog 150 #[af s] w (gm w (.iface 49 (.int .i64 4)) 0 1):=by
 have hszs:=am s;have hlen:((60:Int) < (s.length:Int))=True:=eq_true (by omega);go_in;go_wp2_with fail;refine bodyPost_ret (v:=.tuple #[.agg #[.bool false,.slice none 0 0,.slice none 0 0],.iface 49 (.int .i64 4)]) (by simp [results,Tryz.results150,go_sem, *] <;> trivial) rfl ?_;exact ⟨_,_,_,_,_,_,_,rfl,QV.zero _ _,((ae w).alloc (by first | omega | (simp <;> omega)) (.cells #[.bool false,.slice none 0 0,.slice none 0 0] 65))⟩
theorem nK (w:World) (s:List UInt8) (h:s.length≤60) (hb:s.length=0∨bt s≠s.length):Calls Tryz.prog 150 #[af s] w (gm w (.iface 49 (.int .i64 2)) 0 1):=by
 have hszs:=am s;have hlen:((60:Int) < (s.length:Int))=False:=eq_false (by omega);obtain ⟨n,hn⟩:∃ n,bt s=n:=⟨_,rfl⟩;have hnl:n≤s.length:=by rw [← hn];exact lR s
 rw [hn] at hb;by_cases h0:n=0
 ·subst h0
  clear hb;go_in;go_wp2_with fail;(with_reducible refine (ce _ (s) (by omega) 0 hn).mono ?_);rintro e w1 ⟨rfl,hb1⟩;have q1:=hb1.q1;have x1a:Blk w1 w.heap.size 65 #[.bool false,.slice none 0 0,.slice none 0 0]:=(ak _ _ _ (by simp)).below hb1 (by simp);have bw1:=(ae w).trans (q1.mono (ae w).size);have lw1:=hb1.l1;clear q1;obtain ⟨cx1aa,cx1ab,cx1ac⟩:=x1a.c3;obtain ⟨fx1aa,fx1ab,fx1ac⟩:=x1a.f3;obtain ⟨lx1aa,lx1ab,lx1ac,lx1ad⟩:=fO x1a.lt;go_wp2_with fail;refine bodyPost_ret (v:=.tuple #[.agg #[.bool false,.slice none 0 0,.slice none 0 0],.iface 49 (.int .i64 2)]) (by simp [results,Tryz.results150,go_sem, *] <;> trivial) rfl ?_;exact ⟨_,_,_,_,_,_,_,rfl,QV.zero _ _,(((bw1.sc w.heap.size 0 (by omega) (.bool false)).sc w.heap.size 1 (by omega) (.slice none 0 0)).sc w.heap.size 2 (by omega) (.slice none 0 0))⟩
 have e0:((n:Int) == 0)=false:=by simp;omega
 have e00:((n:Int)=0)=False:=eq_false (by omega);have e1:((n:Int) == (s.length:Int))=false:=by simp;omega
 clear hb h0;go_in;go_wp2_with fail;(with_reducible refine (ce _ (s) (by omega) n hn).mono ?_);rintro e w1 ⟨rfl,hb1⟩;have q1:=hb1.q1;have x1a:Blk w1 w.heap.size 65 #[.bool false,.slice none 0 0,.slice none 0 0]:=(ak _ _ _ (by simp)).below hb1 (by simp);have bw1:=(ae w).trans (q1.mono (ae w).size);have lw1:=hb1.l1;clear q1;obtain ⟨cx1aa,cx1ab,cx1ac⟩:=x1a.c3;obtain ⟨fx1aa,fx1ab,fx1ac⟩:=x1a.f3;obtain ⟨lx1aa,lx1ab,lx1ac,lx1ad⟩:=fO x1a.lt;go_wp2_with fail;refine bodyPost_ret (v:=.tuple #[.agg #[.bool false,.slice none 0 0,.slice none 0 0],.iface 49 (.int .i64 2)]) (by simp [results,Tryz.results150,go_sem, *] <;> trivial) rfl ?_;exact ⟨_,_,_,_,_,_,_,rfl,QV.zero _ _,(((bw1.sc w.heap.size 0 (by omega) (.bool false)).sc w.heap.size 1 (by omega) (.slice none 0 0)).sc w.heap.size 2 (by omega) (.slice none 0 0))⟩
theorem ue:bC 8=.iface 49 (.int .i64 8):=if_neg (by decide)
inductive lh (z d x:Int) (q:Rat):Prop
  | zero (hd:d=0) (hx:x=8) (hq:q=0)
  | ok (hd:d≠0) (hx:x=0) (hq:Rat.divInt z d=q) (hs:Sz q 130)
def jV (T:List UInt8) (z:Int):Prop:=okZ T=true∧dq T=z∧T.length≤130
theorem fJ (w:World) (s:List UInt8) (m:Bool) (B NT DT TN TD:List UInt8) (zn zd x:Int) (q:Rat) (hmx:Mx w) (h:s.length≤60) (hp:0 < s.length) (hn:bt s=s.length) (hh:bL s=m∧bA s=B) (hB:B.length≤60) (a1 b1 a2 b2 N1 D1:List UInt8) (f1 f2:Bool) (hc1:Lib.cut B [47]=(a1,b1,f1)) (hc2:Lib.cut B [46]=(a2,b2,f2)) (hl2:a2.length+b2.length≤60) (hs1:(if f1 then (a1,b1) else (B,[49]))=(N1,D1)) (hs2:(if f2 then (a2 ++ b2,49 :: List.replicate b2.length 48) else (N1,D1))=(NT,DT)) (h1:cq NT=TN) (h2:jV TN zn) (h3:cq DT=TD) (h4:jV TD zd) (hq:lh (if m then -zn else zn) zd x q) :
 Calls Tryz.prog 150 #[af s] w (gm w (bC x) q 130):=by
 have hszs:=am s;have hlen:((60:Int) < (s.length:Int))=False:=eq_false (by omega);have hn0:((s.length:Int) == 0)=false:=beq_eq_false_iff_ne.2 (by omega);have hn00:((s.length:Int)=0)=False:=eq_false (by omega);have hsl:s.length < 4611686018427387904:=by omega
 have HH:=Qh hh;have HC1:=Qh hc1;have HC2:=Qh hc2;have HS1:=Qh hs1;have HS2:=Qh hs2;have H1:=Qh h1;have H2:=Qh h2;have H3:=Qh h3;have H4:=Qh h4;have HQ:=Qh hq;have HM:=Qh hmx;have HN:=Qh hn;clear hh hc1 hc2 hs1 hs2 h1 h2 h3 h4 hq hmx hn;go_in;go_wp2_with fail;(refine (ce _ s hsl s.length HN.out).mono ?_);rintro e w1 ⟨rfl,hb1⟩;have q1:Below w.heap.size w w1:=((ae w).alloc Qr _).trans (hb1.mono (by simp));have x1:Blk w1 w.heap.size 65 #[.bool false,.slice none 0 0,.slice none 0 0]:=(ak _ _ _ (by simp)).below hb1 (by simp);clear hb1;go_wp2_with fail;(refine (xx _ s m B HH.out.1 HH.out.2).mono ?_);rintro e w2 ⟨rfl,hb2⟩;replace x1:=x1.b hb2;replace q1:=q1.trans (hb2.mono q1.size);clear hb2;go_wp2_with fail;(refine (nC _ B 47 a1 b1 f1 (HM.out.belw q1) (by omega) HC1.out).mono ?_);rintro e w3 ⟨rfl,hb3⟩;replace x1:=x1.b hb3;replace q1:=q1.trans (hb3.mono q1.size);clear hb3;go_upto_if 47 with fail;go_cut [7,8] (fun s7 s8 wx=>s7=af D1∧s8=af N1∧w3=wx)
 case first =>
  cases f1
  ·have e:=HS1.out
   simp only [Bool.false_eq_true,if_false,Prod.mk.injEq] at e;obtain ⟨rfl,rfl⟩:=e;go_wp2_with fail;go_meet;exact ⟨rfl,rfl,rfl⟩
  have e:=HS1.out;simp only [if_true,Prod.mk.injEq] at e;obtain ⟨rfl,rfl⟩:=e;go_wp2_with fail;go_meet;exact ⟨rfl,rfl,rfl⟩
 case rest =>
  obtain ⟨rfl,rfl,rfl⟩:=hcut;clear HS1 HC1;go_wp2_with fail;(refine (nC _ B 46 a2 b2 f2 (HM.out.belw q1) (by omega) HC2.out).mono ?_);rintro e w4 ⟨rfl,hb4⟩;replace x1:=x1.b hb4;replace q1:=q1.trans (hb4.mono q1.size);clear hb4;go_upto_if 56 with fail;go_cut [7,8] (fun s7 s8 wx=>s7=af DT∧s8=af NT∧Blk wx w.heap.size 65 #[.bool false,.slice none 0 0,.slice none 0 0]∧Below w.heap.size w wx)
  case first =>
   cases f2
   ·have e:=HS2.out
    simp only [Bool.false_eq_true,if_false,Prod.mk.injEq] at e;obtain ⟨rfl,rfl⟩:=e;go_wp2_with fail;go_meet;exact ⟨rfl,rfl,x1,q1⟩
   have e:=HS2.out;simp only [if_true,Prod.mk.injEq] at e;obtain ⟨rfl,rfl⟩:=e;obtain ⟨Z,hZ⟩:∃ Z:List UInt8,List.replicate b2.length 48=Z:=⟨_,rfl⟩;have hZl:Z.length=b2.length:=by rw [← hZ];simp
   have HZ:=Qh hZ;have ha1:=bH a2 b2;have ha2:=bH [49] Z;have hk1:(9223372036854775807 < a2.length+b2.length)=False:=eq_false (by omega);have hk2:(9223372036854775807 < 1+Z.length)=False:=eq_false (by omega);clear hZ hZl;go_wp2_with fail;(refine (yC _ b2.length (by omega) Z HZ.out).mono ?_);rintro e w5 ⟨rfl,hb5⟩;go_wp2_with fail;go_meet;exact ⟨by rw [HZ.out],rfl,x1.below hb5 x1.lt,q1.trans (hb5.mono q1.size)⟩
  case rest =>
   clear x1 q1 HS2 HC2;obtain ⟨rfl,rfl,x1,q1⟩:=hcut;rename World=>w6;go_wp2_with fail;(refine (pU _ NT TN H1.out).mono ?_);rintro e w7 ⟨rfl,hb7⟩;replace x1:=x1.b hb7;replace q1:=q1.trans (hb7.mono q1.size);clear hb7;go_wp2_with fail;(refine (pT _ TN zn H2.out.1 H2.out.2.1 H2.out.2.2).mono ?_);rintro e w8 ⟨b3,A3,n3,c3,rfl,h3,hb8⟩;replace x1:=x1.b hb8;replace q1:=q1.trans (hb8.mono q1.size);clear hb8;go_upto_region 16 with fail;refine lG ?_;intro w9 hw9;have q9:Below w8.heap.size w8 w9:=by rw [hw9];exact (ae w8).alloc Qr _
   have x9:Blk w9 w8.heap.size 194 #[.bool b3,.slice A3 n3 c3]:=by rw [hw9];exact Blk.new w8 _ _
   have l9:=x1.lt;replace x1:=x1.b q9;replace h3:=h3.belw q9;replace q1:=q1.trans (q9.mono q1.size);obtain ⟨g,hg⟩:∃ g,w8.heap.size=g:=⟨_,rfl⟩;rw [hg] at x9 l9 ⊢;clear hw9 q9 hg;go_wp2_with fail;(refine (pU _ DT TD H3.out).mono ?_);rintro e w10 ⟨rfl,hb10⟩;replace x1:=x1.b hb10;replace x9:=x9.b hb10;replace h3:=h3.belw hb10;replace q1:=q1.trans (hb10.mono q1.size);clear hb10;go_wp2_with fail;(refine (pT _ TD zd H4.out.1 H4.out.2.1 H4.out.2.2).mono ?_);rintro e w11 ⟨b4,A4,n4,c4,rfl,h4,hb11⟩;replace x1:=x1.b hb11;replace x9:=x9.b hb11;replace h3:=h3.belw hb11;replace q1:=q1.trans (hb11.mono q1.size);clear hb11;go_upto_region 19 with fail;refine lG ?_;intro w12 hw12;have q12:Below w11.heap.size w11 w12:=by rw [hw12];exact (ae w11).alloc Qr _
   have x12:Blk w12 w11.heap.size 194 #[.bool b4,.slice A4 n4 c4]:=by rw [hw12];exact Blk.new w11 _ _
   have l12:=x9.lt;replace x1:=x1.b q12;replace x9:=x9.b q12;replace h3:=h3.belw q12;replace h4:=h4.belw q12;replace q1:=q1.trans (q12.mono q1.size);obtain ⟨g2,hg2⟩:∃ g,w11.heap.size=g:=⟨_,rfl⟩;rw [hg2] at x12 l12 ⊢;clear hw12 q12 hg2;go_upto_if 84 with fail;obtain ⟨zs,hzs⟩:∃ z,(if m then -zn else zn)=z:=⟨_,rfl⟩;rw [hzs] at HQ;have HZS:=Qh hzs;clear hzs;go_cut [] (fun wx=>∃ b5 A5 n5 c5,Blk wx w.heap.size 65 #[.bool false,.slice none 0 0,.slice none 0 0]∧Blk wx g 194 #[.bool b5,.slice A5 n5 c5]∧Blk wx g2 194 #[.bool b4,.slice A4 n4 c4]∧IZ wx b5 A5 n5 c5 zs 130∧IZ wx b4 A4 n4 c4 zd 130∧Below w.heap.size w wx)
   case first =>
    cases m
    ·obtain rfl:zn=zs:=HZS.out
     go_wp2_with fail;go_meet;exact ⟨_,_,_,_,x1,x9,x12,h3.iz,h4.iz,q1⟩
    obtain rfl:-zn=zs:=HZS.out;have y:=x9.v2;go_wp2_with fail;(refine (pC _ b3 A3 n3 c3 zn 130 h3.iz (by decide)).mono ?_);rintro e w13 ⟨b5,A5,n5,c5,rfl,h5,hb13⟩;replace x1:=x1.b hb13;replace x9:=x9.b hb13;replace x12:=x12.b hb13;replace h4:=h4.belw hb13;replace q1:=q1.trans (hb13.mono q1.size);clear hb13 y;have y:=x9.v2;go_wp2_with fail;go_meet;have kp:=x9.k2 (by decide) (.bool b5) (.slice A5 n5 c5);exact ⟨_,_,_,_,(x1.far (p:=⟨g,0,none⟩) (by show w.heap.size≠g;omega) _).far (p:=⟨g,1,none⟩) (by show w.heap.size≠g;omega) _,(x9.set_ 0 _).set_ 1 _,(x12.far (p:=⟨g,0,none⟩) (by show g2≠g;omega) _).far (p:=⟨g,1,none⟩) (by show g2≠g;omega) _,h5.iz.keep kp,h4.iz.keep kp,(q1.setCell (p:=⟨g,0,none⟩) (by show w.heap.size≤g;omega) _).setCell (p:=⟨g,1,none⟩) (by show w.heap.size≤g;omega) _⟩
   case rest =>
    clear x1 x9 x12 h3 h4 q1;obtain ⟨b5,A5,n5,c5,x1,x9,x12,h5,h4,q1⟩:=hcut;rename World=>w14;have y:=And.intro x9.v2 x12.v2;go_wp2_with fail;rcases HQ.out with ⟨hd,rfl,rfl⟩ | ⟨hd,rfl,hq,hs⟩
    ·(refine (tA _ b5 A5 n5 c5 zs 130 h5 b4 A4 n4 c4 zd 130 h4 hd (by decide)).mono ?_);rintro e w15 ⟨b6,A6,n6,c6,D6,m6,e6,rfl,h6,hb15⟩
     replace x1:=x1.b hb15;replace q1:=q1.trans (hb15.mono q1.size);clear hb15 y;have y:=x1.v3;go_wp2_with fail;refine bodyPost_ret (v:=.tuple #[.agg #[.bool b6,.slice A6 n6 c6,.slice D6 m6 e6],bC 8]) (by simp [results,Tryz.results150,go_sem,ue, *] <;> trivial) rfl ?_;exact ⟨_,_,_,_,_,_,_,rfl,(h6.keep (x1.k3 (by decide) _ _ _)).mono (by decide),((q1.setCell (p:=⟨w.heap.size,0,none⟩) Qr _).setCell (p:=⟨w.heap.size,1,none⟩) Qr _).setCell (p:=⟨w.heap.size,2,none⟩) Qr _⟩
    (refine (xe _ b5 A5 n5 c5 zs 130 h5 b4 A4 n4 c4 zd 130 h4 q 130 hd hq hs (by decide)).mono ?_);rintro e w15 ⟨b6,A6,n6,c6,D6,m6,e6,rfl,h6,hb15⟩;replace x1:=x1.b hb15;replace q1:=q1.trans (hb15.mono q1.size);clear hb15 y;have y:=x1.v3;go_wp2_with fail;refine bodyPost_ret (v:=.tuple #[.agg #[.bool b6,.slice A6 n6 c6,.slice D6 m6 e6],bC 0]) (by simp [results,Tryz.results150,go_sem,cl, *] <;> trivial) rfl ?_;exact ⟨_,_,_,_,_,_,_,rfl,h6.keep (x1.k3 (by decide) _ _ _),((q1.setCell (p:=⟨w.heap.size,0,none⟩) Qr _).setCell (p:=⟨w.heap.size,1,none⟩) Qr _).setCell (p:=⟨w.heap.size,2,none⟩) Qr _⟩
theorem jV.dg {D:List UInt8}(h:D.all aJ=true) (hl:D.length≤120):jV (cq D) ((aj D:Nat):Int):=by
 obtain ⟨h1,h2,h3⟩:=t8 h;exact ⟨h1,h2,by omega⟩
theorem lh.val {m:Bool}{zn zd:Nat}(hn:zn < 4294967296 ^ 60) (hd:zd < 4294967296 ^ 60) (h0:zd≠0):lh (if m then -(zn:Int) else zn) zd 0 (Rat.divInt (sgI m zn) zd):=by
 have e:(if m then -(zn:Int) else (zn:Int))=sgI m zn:=by cases m <;> rfl
 rw [e];exact .ok (by omega) rfl rfl (qw (by rw [vD];exact Nat.lt_trans hn (Nat.pow_lt_pow_right (by decide) (by decide))) (by rw [Int.natAbs_natCast];exact Nat.lt_trans hd (Nat.pow_lt_pow_right (by decide) (by decide))) (by decide))
theorem pd {D E:List UInt8}(hD:isD D) (hE:isD E) {c d:UInt8}(hc:aJ c=false) (hd:c≠d):c ∉ D ++ d :: E:=by
 intro hm;rcases List.mem_append.1 hm with e | e
 ·exact eG hD hc e
 rcases List.mem_cons.1 e with e | e
 ·exact absurd e hd
 exact eG hE hc e
theorem rF (w:World) (s:List UInt8) (x:Int) (q:Rat) (hmx:Mx w) (h:mc s x q) (hx:¬ 60 < s.length) (hb:¬ (s.length=0∨bt s≠s.length)):Calls Tryz.prog 150 #[af s] w (gm w (bC x) q 130):=by
 have d1:(10:Nat) ^ 60 < 4294967296 ^ 60:=by decide
 rcases h with ⟨h,_,_⟩ | ⟨_,h,_,_⟩ | ⟨m,D,h,hn,hD,hs,rfl,rfl⟩ | ⟨m,D,E,h,hn,hD,hE,hs,h0,rfl,rfl⟩ | ⟨m,D,E,h,hn,hD,hE,hs,h0,rfl,rfl⟩ | ⟨m,D,E,h,hn,hD,hE,hs,rfl,rfl⟩
 ·exact absurd h hx
 ·exact absurd h hb
 ·have hh:=d7 (m:=m) (r:=[]) hD
  rw [List.append_nil,← hs] at hh;have hl:D.length≤s.length:=by rw [hs];cases m <;> simp [sg]
  have hv:=lh.val (m:=m) (gW hD.2 (by omega)) (show 1 < 4294967296 ^ 60 by decide) (by decide);rw [show ((1:Nat):Int)=1 from rfl,yk] at hv;exact fJ w s m D D [49] _ _ _ 1 0 _ hmx h (by omega) hn hh (by omega) D [] D [] D [49] false false (jD (eG hD (by decide))) (jD (eG hD (by decide))) (by simp;omega) rfl rfl rfl (jV.dg hD.2 (by omega)) rfl ⟨by decide,by decide,by decide⟩ hv
 ·have hh:=d7 (m:=m) (r:=47 :: E) hD
  rw [← hs] at hh;have hl:(D ++ 47 :: E).length≤s.length:=by rw [hs];cases m <;> simp [sg]
  have hl2:(D ++ 47 :: E).length=D.length+(E.length+1):=by simp
  exact fJ w s m (D ++ 47 :: E) D E _ _ _ _ 8 0 hmx h (by omega) hn hh (by omega) D E (D ++ 47 :: E) [] D E true false (iq (eG hD (by decide))) (jD (pd hD hE (by decide) (by decide))) (by show (D ++ 47 :: E).length+0≤60;omega) rfl rfl rfl (jV.dg hD.2 (by omega)) rfl (jV.dg hE.2 (by omega)) (.zero (by rw [h0];rfl) rfl rfl)
 ·have hh:=d7 (m:=m) (r:=47 :: E) hD
  rw [← hs] at hh;have hl:(D ++ 47 :: E).length≤s.length:=by rw [hs];cases m <;> simp [sg]
  have hl2:(D ++ 47 :: E).length=D.length+(E.length+1):=by simp
  exact fJ w s m (D ++ 47 :: E) D E _ _ _ _ 0 _ hmx h (by omega) hn hh (by omega) D E (D ++ 47 :: E) [] D E true false (iq (eG hD (by decide))) (jD (pd hD hE (by decide) (by decide))) (by show (D ++ 47 :: E).length+0≤60;omega) rfl rfl rfl (jV.dg hD.2 (by omega)) rfl (jV.dg hE.2 (by omega)) (lh.val (gW hD.2 (by omega)) (gW hE.2 (by omega)) h0)
 have hh:=d7 (m:=m) (r:=46 :: E) hD;rw [← hs] at hh;have hl:(D ++ 46 :: E).length≤s.length:=by rw [hs];cases m <;> simp [sg]
 have hl2:(D ++ 46 :: E).length=D.length+(E.length+1):=by simp
 have hN:(D ++ E).all aJ=true:=by rw [List.all_append,hD.2,hE.2];rfl
 have hNl:(D ++ E).length=D.length+E.length:=List.length_append;obtain ⟨t1,t2,t3⟩:=nH E.length;have hT:=jV.dg t3 (by simp;omega);rw [t2] at hT;have hz:(10:Nat) ^ E.length < 4294967296 ^ 60:=Nat.lt_of_le_of_lt (Nat.pow_le_pow_right (by decide) (by omega)) d1;exact fJ w s m (D ++ 46 :: E) (D ++ E) (49 :: List.replicate E.length 48) _ _ _ _ 0 _ hmx h (by omega) hn hh (by omega) (D ++ 46 :: E) [] D E (D ++ 46 :: E) [49] false true (jD (pd hD hE (by decide) (by decide))) (iq (eG hD (by decide))) (by omega) rfl rfl rfl (jV.dg hN (by omega)) rfl hT (lh.val (gW hN (by omega)) hz (by have:=Nat.pow_pos (n:=E.length) (show 0 < 10 by decide);omega))
theorem xy {m:Bool}{B:List UInt8}(h:B≠[]):(sg m B).length≠0:=by
 have:=List.length_pos_iff.2 h;cases m <;> simp [sg];exact h
theorem rG (w:World) (s:List UInt8) (x:Int) (q:Rat) (hmx:Mx w) (h:mc s x q):Calls Tryz.prog 150 #[af s] w (gm w (bC x) q 130):=by
 have hm:∀ {v:Value}{e:Ending}{w':World},gm w v q 1 e w'→gm w v q 130 e w':=fun h=>by
  obtain ⟨b,A,n,c,A',n',c',h1,h2,h3⟩:=h;exact ⟨b,A,n,c,A',n',c',h1,h2.mono (by decide),h3⟩
 by_cases h1:60 < s.length
 ·rcases h with ⟨_,rfl,rfl⟩ | ⟨h,_⟩ | ⟨_,_,h,_⟩ | ⟨_,_,_,h,_⟩ | ⟨_,_,_,h,_⟩ | ⟨_,_,_,h,_⟩ <;> first | (rw [xv];exact (ku w s h1).mono fun _ _ r=>hm r) | omega
 by_cases h2:s.length=0∨bt s≠s.length
 ·rcases h with ⟨h,_⟩ | ⟨_,_,rfl,rfl⟩ | ⟨_,D,_,hn,hD,hs,_⟩ | ⟨_,D,_,_,hn,hD,_,hs,_⟩ | ⟨_,D,_,_,hn,hD,_,hs,_⟩ | ⟨_,D,_,_,hn,hD,_,hs,_⟩
  ·exact absurd h h1
  ·rw [xt];exact (nK w s (by omega) h2).mono fun _ _ r=>hm r
  all_goals
   exfalso;rcases h2 with h2 | h2
   ·rw [hs] at h2
    exact xy (by first | exact hD.1 | simp) h2
   exact h2 hn
 exact rF w s x q hmx h h1 h2
theorem li (w:World) (s:List UInt8) (x:Int) (l:List Tkn) (h:aY s x l):Calls Tryz.prog 36 #[af s] w (tD w (bC x) l) :=
 (vi w s).mono fun _ _ ⟨x',l',h',r⟩=>by
  obtain ⟨rfl,rfl⟩:=h.uniq h';exact r
/-! Only the block gr has turned. -/
section
variable {w w' w2:World}{gr:Nat}
theorem rg_refl (gr:Nat) (w:World):w.grownBy w (some gr):=⟨rfl,rfl,rfl,Qr,fun _ _ _=>rfl⟩
theorem ay (h:w.grownBy w' (some gr)) (k:w'.grownBy w2 (some gr)):w.grownBy w2 (some gr) :=
 ⟨k.os.trans h.os,k.tape.trans h.tape,k.output.trans h.output,Nat.le_trans h.size k.size,fun i hi hne=>(k.block i (Nat.lt_of_lt_of_le hi h.size) hne).trans (h.block i hi hne)⟩
theorem dB (h:w.grownBy w' (some gr)) (i:Nat) (u:Value):w.grownBy (w'.setCell ⟨gr,i,none⟩ u) (some gr) :=
 ay h ⟨rfl,rfl,rfl,by simp [World.setCell],fun k _ hne=>Below.heap_setCell w' ⟨gr,i,none⟩ u k (fun e=>hne (by rw [e]))⟩
theorem d8 (h:w.grownBy w' (some gr)) (k:Below w'.heap.size w' w2):w.grownBy w2 (some gr) :=
 ay h ⟨k.os,k.tape,k.output,k.size,fun i hi _=>k.block i hi⟩
theorem bc (h:w.grownBy w' (some gr)) (o:Obj):w.grownBy (w'.alloc o) (some gr):=d8 h ((Below.refl _ _).alloc Qr o)
theorem vF (h:w.grownBy w' (some gr)):w.grownBy w'.drew (some gr):=⟨h.os,h.tape,h.output,h.size,h.block⟩
theorem dC {B:Nat}(h:w.grownBy w' (some gr)) (hB:B≤w.heap.size) (hg:B≤gr):Below B w w':=(Below.refl B w).grown h hB (fun k e=>by injection e with e;omega)
theorem bD {g t:Nat}{cs:Array Value}(h:w.grownBy w' (some gr)) (x:Blk w g t cs) (hne:g≠gr):Blk w' g t cs:=(h.block g x.lt (fun e=>hne (by injection e))).trans x
theorem pV {g t:Nat}{cs:Array Value}(h:w.grownBy w' (some gr)) (x:w.heap[g]?=some (.cells cs t (0,0))) (hne:g≠gr):w'.heap[g]?=some (.cells cs t (0,0)):=(h.block g (lt_of_block x) (fun e=>hne (by injection e))).trans x
end
def TkA (B:Nat) (w:World) (A:Option Addr) (n c:Nat) (l:List Tkn):Prop:=l.length=n∧n≤c∧(0 < n→∃ g o,A=some ⟨g,o,none⟩∧g < B∧∀ i v,(cf l)[i]?=some v→w.cell? ⟨g,o+i,none⟩=some v)
def MxA (B:Nat) (w:World):Prop:=0 < B∧Mx w
section
variable {B:Nat}{w w':World}{A:Option Addr}{n c gr:Nat}{l:List Tkn}
theorem TkA.rg (h:TkA B w A n c l) (hB:B≤gr) (k:w.grownBy w' (some gr)):TkA B w' A n c l:=by
 refine ⟨h.1,h.2.1,fun hn=>?_⟩;obtain ⟨g,o,e,hg,hc⟩:=h.2.2 hn;exact ⟨g,o,e,hg,fun i v hv=>k.cell (hc i v hv) (fun e=>by injection e with e;simp only at e;omega)⟩
theorem TkA.belB (h:TkA B w A n c l) (k:Below B w w'):TkA B w' A n c l:=by
 refine ⟨h.1,h.2.1,fun hn=>?_⟩;obtain ⟨g,o,e,hg,hc⟩:=h.2.2 hn;exact ⟨g,o,e,hg,fun i v hv=>(k.cell (p:=⟨g,o+i,none⟩) hg).trans (hc i v hv)⟩
theorem TkA.of_tks (h:TkS w A n c l):TkA w.heap.size w A n c l:=by
 refine ⟨h.1,?_,fun hn=>?_⟩
 ·rcases h.2 with ⟨h1,_,h3⟩ | ⟨g,_,h1,_⟩
  ·omega
  exact h1
 rcases h.2 with ⟨h1,_,h3⟩ | ⟨g,e,h1,hc⟩
 ·omega
 have hl:0 < (cf l).length:=by rw [q7,h.1];omega
 have h0:(cf l)[0]?=some ((cf l)[0]'hl):=List.getElem?_eq_getElem hl;exact ⟨g,0,e,World.block_lt_of_cell? w ⟨g,0,none⟩ (hc 0 _ h0),fun i v hv=>by rw [Nat.zero_add];exact hc i v hv⟩
theorem TkA.head {t:Tkn}(h:TkA B w A n c (t :: l)):∃ g o,A=some ⟨g,o,none⟩∧g < B∧w.cell? ⟨g,o,none⟩=some (.int .i64 (t.kind:Nat))∧w.cell? ⟨g,o+1,none⟩=some (af t.text)∧w.cell? ⟨g,o+2,none⟩=some (.int .i64 (t.line:Nat))∧w.cell? ⟨g,o+3,none⟩=some (.int .i64 (t.col:Nat)):=by
 obtain ⟨g,o,e,hg,hc⟩:=h.2.2 (by rw [← h.1];simp);exact ⟨g,o,e,hg,hc 0 _ rfl,hc 1 _ rfl,hc 2 _ rfl,hc 3 _ rfl⟩
theorem TkA.tail {t:Tkn}{A':Option Addr}{n' c':Nat}(h:TkA B w A n c (t :: l)) (hA:A'=if c=1 then A else A.map (·.add 4)) (hn:n'=n - 1) (hc:c'=c - 1):TkA B w A' n' c' l:=by
 subst hn hc;have hl:l.length+1=n:=by rw [← h.1];simp
 refine ⟨by omega,by have:=h.2.1;omega,fun hn=>?_⟩;obtain ⟨g,o,e,hg,hc⟩:=h.2.2 (by omega);have hc1:¬ c=1:=by have:=h.2.1;omega
 rw [if_neg hc1,e] at hA;refine ⟨g,o+4,hA,hg,fun i v hv=>?_⟩
 have h1:(cf (t :: l))[i+4]?=some v:=by
  have:cf (t :: l)=m7 t ++ cf l:=rfl;rw [this,List.getElem?_append_right (by simp [m7])];simpa [m7] using hv
 have:=hc _ _ h1;rwa [show o+(i+4)=o+4+i by omega] at this
theorem MxA.rg (h:MxA B w) (hB:B≤gr) (k:w.grownBy w' (some gr)):MxA B w':=by
 obtain ⟨h1,m,hm⟩:=h;exact ⟨h1,m,k.cell hm (fun e=>by injection e with e;simp only at e;omega)⟩
theorem MxA.belB (h:MxA B w) (k:Below B w w'):MxA B w':=by
 obtain ⟨h1,m,hm⟩:=h;exact ⟨h1,m,(k.cell (p:=⟨_,0,none⟩) h1).trans hm⟩
theorem MxA.out (h:MxA B w):Mx w:=h.2
theorem MxA.of_mx (h:Mx w):MxA w.heap.size w:=by
 obtain ⟨m,hm⟩:=h;exact ⟨World.block_lt_of_cell? w ⟨_,0,none⟩ hm,m,hm⟩
end
structure RdP (B:Nat) (w:World) (gr:Nat) (c1 c2 c3 c4:Value) (s:PS):Prop where
  blk:∃ A n c,Blk w gr 87 #[.slice A n c,c1,c2,c3,c4,bC s.x]∧TkA B w A n c s.toks
  mx:MxA B w
  hB:B≤gr
  len:s.toks.length≤65536
  txt:∀ t∈s.toks,NmL t.text
  hw:noW c1=true∧noW c2=true∧noW c3=true∧noW c4=true
def pe (B:Nat) (w:World) (gr:Nat) (c1 c2 c3 c4:Value) (v:Value) (s:PS) (e:Ending) (w':World):Prop:=e=.returned v∧RdP B w' gr c1 c2 c3 c4 s∧w.grownBy w' (some gr)
section
variable {B:Nat}{w w':World}{gr:Nat}{c1 c2 c3 c4:Value}{s:PS}
theorem RdP.lt (h:RdP B w gr c1 c2 c3 c4 s):gr < w.heap.size:=by obtain ⟨A,n,c,hb,_⟩:=h.blk;exact hb.lt
theorem RdP.bel1 (h:RdP B w gr c1 c2 c3 c4 s) (k:Below (gr+1) w w'):RdP B w' gr c1 c2 c3 c4 s:=by
 obtain ⟨A,n,c,hb,ht⟩:=h.blk;have hB:=h.hB;have k':Below B w w':=k.mono (by omega);exact ⟨⟨A,n,c,hb.below k (by omega),ht.belB k'⟩,h.mx.belB k',h.hB,h.len,h.txt,h.hw⟩
theorem RdP.belw (h:RdP B w gr c1 c2 c3 c4 s) (k:Below w.heap.size w w'):RdP B w' gr c1 c2 c3 c4 s:=by
 obtain ⟨A,n,c,hb,ht⟩:=h.blk;have hlt:=hb.lt;have hB:=h.hB;have k':Below B w w':=k.mono (by omega);exact ⟨⟨A,n,c,hb.below k hlt,ht.belB k'⟩,h.mx.belB k',h.hB,h.len,h.txt,h.hw⟩
theorem RdP.alloc (h:RdP B w gr c1 c2 c3 c4 s) (o:Obj):RdP B (w.alloc o) gr c1 c2 c3 c4 s:=h.belw ((Below.refl _ _).alloc Qr o)
theorem RdP.far (h:RdP B w gr c1 c2 c3 c4 s) {p:Addr}(hp:gr < p.block) (u:Value):RdP B (w.setCell p u) gr c1 c2 c3 c4 s:=by
 obtain ⟨A,n,c,hb,ht⟩:=h.blk;have hB:=h.hB;have k':Below B w (w.setCell p u):=(Below.refl B w).setCell (by omega) u;exact ⟨⟨A,n,c,hb.far (by omega) u,ht.belB k'⟩,h.mx.belB k',h.hB,h.len,h.txt,h.hw⟩
theorem cH {w2:World}(h:w.grownBy w' (some gr)) (k:Below w.heap.size w' w2):w.grownBy w2 (some gr) :=
 ⟨k.os.trans h.os,k.tape.trans h.tape,k.output.trans h.output,Nat.le_trans h.size k.size,fun i hi hne=>(k.block i hi).trans (h.block i hi hne)⟩
theorem ba.rg {α:Type}{T0:TypeId}{Pc:World→List Value→α→Prop}{sz base n:Nat}{v:Value}{l:List α}(h:ba T0 Pc sz w base v n l) (hgr:gr < base) (k:w.grownBy w' (some gr)) (hP:∀ cs a,Pc w cs a→Pc w' cs a):ba T0 Pc sz w' base v n l :=
 h.same (fun g _ hg hc=>pV k hc (by omega)) hP
theorem vG (x:Int):noW (bC x)=true:=by unfold bC;split <;> rfl
theorem RdP.tch {T:TypeId→Bool}(h:RdP B w gr c1 c2 c3 c4 s) (k:w.grownBy w' (some gr)) (hT:T 87=true):Tch T w w':=by
 obtain ⟨A,n,c,hb,_⟩:=h.blk;obtain ⟨h1,h2,h3,h4⟩:=h.hw;refine Tch.of_ne k.size hb hT ?_ fun g hlt hne=>k.block g hlt (fun e=>hne (by injection e))
 simp only [List.all_cons,List.all_nil,h1,h2,h3,h4,vG,Bool.and_true];rfl
end
def TA:TypeId→Bool:=fun _=>true
theorem fi {w:World}{g t:Nat}{cs:Array Value}(z:Blk w g t cs) (hz:cs.toList.all noW=true) (i j k:Nat) (u0 u1 u2:Value):Tch TA w (((w.setCell ⟨g,i,none⟩ u0).setCell ⟨g,j,none⟩ u1).setCell ⟨g,k,none⟩ u2) :=
 Tch.of_ne (by simp [World.setCell]) z rfl hz fun g' _ hne=>by
  rw [Below.heap_setCell _ _ _ _ hne,Below.heap_setCell _ _ _ _ hne,Below.heap_setCell _ _ _ _ hne]
theorem bI {B g:Nat}(w:World) (hB:B≤g) (i j k:Nat) (u0 u1 u2:Value):Below B w (((w.setCell ⟨g,i,none⟩ u0).setCell ⟨g,j,none⟩ u1).setCell ⟨g,k,none⟩ u2) :=
 (((Below.refl B w).setCell (p:=⟨g,i,none⟩) hB u0).setCell (p:=⟨g,j,none⟩) hB u1).setCell (p:=⟨g,k,none⟩) hB u2
theorem dD {w w':World}{gr:Nat}(h:w.grownBy w' (some gr)) {p:Addr}(hp:w.heap.size≤p.block) (u:Value):w.grownBy (w'.setCell p u) (some gr) :=
 ⟨h.os,h.tape,h.output,by simp [World.setCell,h.size],fun k hk hne=>(Below.heap_setCell w' p u k (by omega)).trans (h.block k hk hne)⟩
def mOf (gr:Nat) (w:World):Nat:=(match w.cell? ⟨gr,0,none⟩ with | some (.slice _ n _)=>2 * n | _=>0)+(match w.cell? ⟨gr,5,none⟩ with | some .nilIface=>1 | _=>0)
theorem RdP.meas {B:Nat}{w:World}{gr:Nat}{c1 c2 c3 c4:Value}{s:PS}(h:RdP B w gr c1 c2 c3 c4 s):mOf gr w=2 * s.toks.length+if s.x=0 then 1 else 0:=by
 obtain ⟨A,n,c,hb,ht⟩:=h.blk;unfold mOf;rw [hb.cell 0,hb.cell 5];show 2 * n+(match some (bC s.x) with | some .nilIface=>1 | _=>0)=_;rw [ht.1];by_cases hx:s.x=0
 ·rw [if_pos hx,hx,cl]
 rw [if_neg hx,eVp hx]
theorem vH:(Tryz.prog.info? 67).map (fun i=>(i.zero,i.size,i.bytes))=some (some (.agg #[.string ⟨#[]⟩,.bool false,.slice none 0 0,.slice none 0 0,.bool false,.slice none 0 0,.slice none 0 0]),7,128):=by kernel_rfl
theorem gZ:(Tryz.prog.info? 62).map (fun i=>(i.zero,i.size,i.bytes))=some (some (.agg #[.string ⟨#[]⟩,.slice none 0 0]),2,40):=by kernel_rfl
theorem hH:(Tryz.prog.info? 79).map (fun i=>(i.zero,i.size,i.bytes))=some (some (.agg #[.string ⟨#[]⟩,.int .i64 0,.int .i64 0,.int .i64 0,.int .i64 0,.int .i64 0,.int .i64 0]),7,64):=by kernel_rfl
theorem ia:(Tryz.prog.info? 81).map (fun i=>(i.zero,i.size,i.bytes))=some (some (.agg #[.string ⟨#[]⟩,.int .i64 0]),2,24):=by kernel_rfl
section
variable {w:World}{g t:Nat}{a0 a1 a2 a3 a4 a5:Value}
theorem Blk.s60 (h:Blk w g t #[a0,a1,a2,a3,a4,a5]) (u:Value):Blk (w.setCell ⟨g,0,none⟩ u) g t #[u,a1,a2,a3,a4,a5]:=h.set_ 0 u
theorem Blk.s61 (h:Blk w g t #[a0,a1,a2,a3,a4,a5]) (u:Value):Blk (w.setCell ⟨g,1,none⟩ u) g t #[a0,u,a2,a3,a4,a5]:=h.set_ 1 u
theorem Blk.s62 (h:Blk w g t #[a0,a1,a2,a3,a4,a5]) (u:Value):Blk (w.setCell ⟨g,2,none⟩ u) g t #[a0,a1,u,a3,a4,a5]:=h.set_ 2 u
theorem Blk.s63 (h:Blk w g t #[a0,a1,a2,a3,a4,a5]) (u:Value):Blk (w.setCell ⟨g,3,none⟩ u) g t #[a0,a1,a2,u,a4,a5]:=h.set_ 3 u
theorem Blk.s64 (h:Blk w g t #[a0,a1,a2,a3,a4,a5]) (u:Value):Blk (w.setCell ⟨g,4,none⟩ u) g t #[a0,a1,a2,a3,u,a5]:=h.set_ 4 u
theorem Blk.s65 (h:Blk w g t #[a0,a1,a2,a3,a4,a5]) (u:Value):Blk (w.setCell ⟨g,5,none⟩ u) g t #[a0,a1,a2,a3,a4,u]:=h.set_ 5 u
end
theorem iG {s s':PS}{k:Nat}{t:List UInt8}(h:s.next k=(some t,s')):s'=s∧s.x=0∧∃ t0 r,s.toks=t0 :: r∧t0.kind=k∧t0.text=t:=by
 unfold PS.next at h;split at h
 ·cases h
 rename_i hx;split at h
 ·cases h
 rename_i t0 r e;split at h
 ·rename_i hk
  injection h with h1 h2;injection h1 with h1;exact ⟨h2.symm,by simpa using hx,t0,r,e,hk,h1⟩
 cases h
theorem dH (w:World) (gr:Nat) (c0 c1 c2 c3 c4:Value) (x e:Int) (hb:Blk w gr 87 #[c0,c1,c2,c3,c4,bC x]) (he:e≠0):Calls Tryz.prog 71 #[.pointer (some ⟨gr,0,none⟩),.iface 49 (.int .i64 e)] w (fun en w'=>en=.returned (.tuple #[])∧Blk w' gr 87 #[c0,c1,c2,c3,c4,bC (if x=0 then e else x)]∧w.grownBy w' (some gr)):=by
 have hlt:=hb.lt;have f5:=hb.frozen 5;have ee:=eVp he;by_cases hx:x=0
 ·subst hx
  have HB:=Qh hb;obtain ⟨_,_,_,_,_,a5⟩:=hb.c6;rw [cl] at a5;rw [if_pos rfl,ee];clear hb ee;go_in;go_wp2_with fail;go_end0;exact ⟨rfl,HB.out.s65 _,dB (rg_refl _ _) _ _⟩
 rw [if_neg hx];have HB:=Qh hb;obtain ⟨_,_,_,_,_,a5⟩:=hb.c6;rw [eVp hx] at a5;clear hb ee;go_in;go_wp2_with fail;go_end0;exact ⟨rfl,HB.out,rg_refl _ _⟩
theorem mf (B:Nat) (w:World) (gr:Nat) (c1 c2 c3 c4:Value) (s:PS) (h:RdP B w gr c1 c2 c3 c4 s) (k:Nat) (z:Int) (hz:z=(k:Int)):Calls Tryz.prog 70 #[.pointer (some ⟨gr,0,none⟩),.int .i64 z] w (pe B w gr c1 c2 c3 c4 (.tuple #[af ((s.next k).1.getD []),.bool (s.next k).1.isSome]) (s.next k).2):=by
 subst hz;have HP:=Qh h;obtain ⟨toks,L,x⟩:=s;obtain ⟨A,n,c,hb,ht⟩:=h.blk;have hmx:=h.mx;have hB:=h.hB;have hlen:=h.len;have hw:=h.hw;have htx:=h.txt;simp only at hb ht hlen htx;have HB:=Qh hb;have HT:=Qh ht;have HM:=Qh hmx;have hn:=ht.1;obtain ⟨a0,_,_,_,_,a5⟩:=hb.c6;clear hb ht hmx h;by_cases hx:x=0
 ·subst hx
  rw [cl] at a5
  cases toks with
  | nil =>
   have e:PS.next ⟨[],L,0⟩ k=(none,⟨[],L,18⟩):=rfl;rw [e];subst hn;go_in;go_wp2_with fail;(with_reducible refine (dH _ gr (.slice A 0 c) c1 c2 c3 c4 0 18 HB.out (by decide)).mono ?_);rintro e w1 ⟨rfl,hb1,hg1⟩;rw [if_pos rfl] at hb1;have HB1:=Qh hb1;clear hb1;go_wp2_with fail;refine bodyPost_ret (v:=.tuple #[af [],.bool false]) (by simp [results,Tryz.results70,go_sem, *] <;> trivial) rfl ?_;exact ⟨rfl,⟨⟨A,0,c,HB1.out,HT.out.rg hB hg1⟩,HM.out.rg hB hg1,hB,hlen,htx,hw⟩,hg1⟩
  | cons t r =>
   have hn1:0 < n:=by rw [← hn];simp
   obtain ⟨g,o,e,hg,d0,d1,d2,d3⟩:=HT.out.head;subst e;have hi0:(0:Int) < (n:Int):=by omega
   by_cases hk:t.kind=k
   ·have e:PS.next ⟨t :: r,L,0⟩ k=(some t.text,⟨t :: r,L,0⟩):=by unfold PS.next;rw [if_neg (by simp)];simp [hk]
    rw [e];have hk1:((t.kind:Int) == (k:Int))=true:=by simp [hk]
    have hk2:((n:Int) == 0)=false:=beq_eq_false_iff_ne.2 (by omega);clear hn hk;go_in;go_wp2_with fail;refine bodyPost_ret (v:=.tuple #[af t.text,.bool true]) (by simp [results,Tryz.results70,go_sem, *] <;> trivial) rfl ?_;exact ⟨rfl,HP.out.alloc _,bc (rg_refl _ _) _⟩
   have e:PS.next ⟨t :: r,L,0⟩ k=(none,⟨t :: r,L,2⟩):=by unfold PS.next;rw [if_neg (by simp)];simp [hk]
   rw [e];have hk1:((t.kind:Int) == (k:Int))=false:=beq_eq_false_iff_ne.2 (by omega);have hk2:((n:Int) == 0)=false:=beq_eq_false_iff_ne.2 (by omega);clear hn hk;go_in;go_wp2_with fail;(with_reducible refine (dH _ gr (.slice (some ⟨g,o,none⟩) n c) c1 c2 c3 c4 0 2 (HB.out.alloc _) (by decide)).mono ?_);rintro e w1 ⟨rfl,hb1,hg1⟩;rw [if_pos rfl] at hb1;have HB1:=Qh hb1;have hg2:=ay (bc (rg_refl gr w) _) hg1;clear hb1 hg1;go_wp2_with fail;refine bodyPost_ret (v:=.tuple #[af [],.bool false]) (by simp [results,Tryz.results70,go_sem, *] <;> trivial) rfl ?_;exact ⟨rfl,⟨⟨_,n,c,HB1.out,HT.out.rg hB hg2⟩,HM.out.rg hB hg2,hB,hlen,htx,hw⟩,hg2⟩
 have e:PS.next ⟨toks,L,x⟩ k=(none,⟨toks,L,x⟩):=if_pos hx;rw [e];rw [eVp hx] at a5;go_in;go_wp2_with fail;refine bodyPost_ret (v:=.tuple #[af [],.bool false]) (by simp [results,Tryz.results70,go_sem, *] <;> trivial) rfl ?_;exact ⟨rfl,HP.out,rg_refl _ _⟩
theorem RdP.drop {B:Nat}{w:World}{gr n c n' c':Nat}{A A':Option Addr}{c1 c2 c3 c4:Value}{s:PS}{t0:Tkn}{r:List Tkn}(h:RdP B w gr c1 c2 c3 c4 s) (e:s.toks=t0 :: r)
 (hb:Blk w gr 87 #[.slice A n c,c1,c2,c3,c4,bC s.x]) (ht:TkA B w A n c s.toks) (hA:A'=if c=1 then A else A.map (·.add 4)) (hn:n'=n - 1) (hc:c'=c - 1):RdP B (w.setCell ⟨gr,0,none⟩ (.slice A' n' c')) gr c1 c2 c3 c4 s.drop1:=by
 have hr:=dB (rg_refl gr w) 0 (.slice A' n' c');have e1:s.drop1.toks=r:=by unfold PS.drop1;rw [e];rfl
 rw [e] at ht;exact ⟨⟨A',n',c',hb.s60 _,by rw [e1];exact (ht.tail hA hn hc).rg h.hB hr⟩,h.mx.rg h.hB hr,h.hB,by rw [e1];have:=h.len;rw [e] at this;simp at this;omega,fun t ht=>h.txt t (by rw [e];rw [e1] at ht;exact List.mem_cons_of_mem _ ht),h.hw⟩
theorem bW (B:Nat) (w:World) (gr:Nat) (c1 c2 c3 c4:Value) (s:PS) (h:RdP B w gr c1 c2 c3 c4 s):Calls Tryz.prog 38 #[.pointer (some ⟨gr,0,none⟩)] w (pe B w gr c1 c2 c3 c4 (af s.word.1) s.word.2):=by
 have HP:=Qh h;obtain ⟨W,hW⟩:∃ W,s.word=W:=⟨_,rfl⟩;rw [hW];have HW:=Qh hW;clear h hW;go_in;go_wp2_with fail;(with_reducible refine (mf B _ gr c1 c2 c3 c4 s HP.out 0 0 rfl).mono ?_);rintro e w1 ⟨rfl,h1,hg1⟩;have hW:=HW.out;unfold PS.word at hW;generalize hq:s.next 0=q at h1 hW;obtain ⟨o,s'⟩:=q
 cases o with
 | none =>
  simp only [Option.getD_none,Option.isSome_none] at h1 hW ⊢;subst hW;have H1:=Qh h1;clear hq h1 HW;go_wp2;go_ret;exact ⟨rfl,H1.out,hg1⟩
 | some t =>
  simp only [Option.getD_some,Option.isSome_some] at h1 hW ⊢;subst hW;obtain ⟨e,hx,t0,r,et,_,_⟩:=iG hq;obtain ⟨A,n,c,hb,ht⟩:=h1.blk;have hn:(1:Int)≤(n:Int):=by have:=ht.1;rw [e,et] at this;simp at this;omega
  have f0:=hb.frozen 0;obtain ⟨a0,_,_,_,_,_⟩:=hb.c6;have H1:=Qh h1;have HB:=Qh hb;have HT:=Qh ht;have HE:=Qh (show s'.toks=t0 :: r by rw [e,et]);clear h1 hb ht hq e et hx HW;go_wp2_with fail
  all_goals
   go_ret;exact ⟨rfl,H1.out.drop HE.out HB.out HT.out (by simp [Addr.add, *]) rfl (by omega),dB hg1 _ _⟩
theorem lj (B:Nat) (w:World) (gr:Nat) (c1 c2 c3 c4:Value) (s:PS) (h:RdP B w gr c1 c2 c3 c4 s) (k:Nat) (z:Int) (hz:z=(k:Int)) (text:List UInt8):Calls Tryz.prog 37 #[.pointer (some ⟨gr,0,none⟩),.int .i64 z,af text] w (pe B w gr c1 c2 c3 c4 (.tuple #[]) (s.expect k text)):=by
 have HP:=Qh h;have HZ:=Qh hz;obtain ⟨W,hW⟩:∃ W,s.expect k text=W:=⟨_,rfl⟩;rw [hW];have HW:=Qh hW;clear h hz hW;go_in;go_wp2_with fail;(with_reducible refine (mf B _ gr c1 c2 c3 c4 s HP.out k z HZ.out).mono ?_);rintro e w1 ⟨rfl,h1,hg1⟩;have hW:=HW.out;unfold PS.expect at hW;generalize hq:s.next k=q at h1 hW;obtain ⟨o,s'⟩:=q
 cases o with
 | none =>
  simp only [Option.getD_none,Option.isSome_none] at h1 hW ⊢;subst hW;have H1:=Qh h1;clear hq h1 HW;go_wp2_with fail;go_end0;exact ⟨rfl,H1.out,hg1⟩
 | some t =>
  simp only [Option.getD_some,Option.isSome_some] at h1 hW ⊢;obtain ⟨e,hx,t0,r,et,_,_⟩:=iG hq;have ht1:=aN t;have ht2:=aN text;obtain ⟨A,n,c,hb,ht⟩:=h1.blk;have hn:(1:Int)≤(n:Int):=by have:=ht.1;rw [e,et] at this;simp at this;omega
  have f0:=hb.frozen 0;obtain ⟨a0,_,_,_,_,a5⟩:=hb.c6;have H1:=Qh h1;have HB:=Qh hb;have HT:=Qh ht;have HE:=Qh (show s'.toks=t0 :: r by rw [e,et]);have HX:=Qh (show s'.x=0 by rw [e];exact hx);clear h1 hb ht hq e et hx a5 HW;by_cases heq:t=text
  ·rw [if_pos heq] at hW
   subst hW;subst heq;have hee:(t == t)=true:=by simp
   go_wp2_with fail
   all_goals
    go_end0;exact ⟨rfl,H1.out.drop HE.out HB.out HT.out (by simp [Addr.add, *]) rfl (by omega),dB hg1 _ _⟩
  rw [if_neg heq] at hW;have e2:s'.fail 2={ s' with x:=2 }:=if_pos HX.out;rw [e2] at hW;subst hW;have hee:(t == text)=false:=beq_eq_false_iff_ne.2 heq;clear heq;go_wp2_with fail;(with_reducible refine (dH _ gr (.slice A n c) c1 c2 c3 c4 s'.x 2 HB.out (by decide)).mono ?_);rintro e w2 ⟨rfl,hb2,hg2⟩;rw [if_pos HX.out] at hb2;have HB2:=Qh hb2;clear hb2;go_wp2_with fail;go_end0;exact ⟨rfl,⟨⟨A,n,c,HB2.out,HT.out.rg H1.out.hB hg2⟩,H1.out.mx.rg H1.out.hB hg2,H1.out.hB,H1.out.len,H1.out.txt,H1.out.hw⟩,ay hg1 hg2⟩
theorem dh (B:Nat) (w:World) (gr:Nat) (c1 c2 c3 c4:Value) (s:PS) (h:RdP B w gr c1 c2 c3 c4 s) (text:List UInt8):Calls Tryz.prog 39 #[.pointer (some ⟨gr,0,none⟩),af text] w (pe B w gr c1 c2 c3 c4 (.tuple #[]) (s.expect 2 text)):=by
 have HP:=Qh h;clear h;go_in;go_wp2_with fail;(with_reducible refine (lj B _ gr c1 c2 c3 c4 s HP.out 2 2 rfl text).mono ?_);rintro e w1 ⟨rfl,h1,hg1⟩;have H1:=Qh h1;clear h1;go_wp2_with fail;go_end0;exact ⟨rfl,H1.out,hg1⟩
theorem pW (B:Nat) (w:World) (gr:Nat) (c1 c2 c3 c4:Value) (s:PS) (h:RdP B w gr c1 c2 c3 c4 s) (v:Bool) (hv:decide (s.x=0∧s.toks≠[])=v):Calls Tryz.prog 40 #[.pointer (some ⟨gr,0,none⟩)] w (pe B w gr c1 c2 c3 c4 (.bool v) s):=by
 have HP:=Qh h;subst hv;obtain ⟨A,n,c,hb,ht⟩:=h.blk;have hn:=ht.1;obtain ⟨a0,_,_,_,_,a5⟩:=hb.c6;clear hb ht h;by_cases hx:s.x=0
 ·rw [hx,cl] at a5
  by_cases ht:s.toks=[]
  ·have e:decide (s.x=0∧s.toks≠[])=false:=by simp [ht]
   rw [e];have hn0:n=0:=by rw [← hn,ht];rfl
   subst hn0;clear hn;go_in;go_wp2;go_ret;exact ⟨rfl,HP.out,rg_refl _ _⟩
  have e:decide (s.x=0∧s.toks≠[])=true:=by simp [ht,hx]
  rw [e];have hp:0 < s.toks.length:=List.length_pos_iff.2 ht;have hn0:(0 < n)=True:=eq_true (by omega);clear hn;go_in;go_wp2;go_ret;exact ⟨rfl,HP.out,rg_refl _ _⟩
 have e:decide (s.x=0∧s.toks≠[])=false:=by simp [hx]
 rw [e];rw [eVp hx] at a5;go_in;go_wp2;go_ret;exact ⟨rfl,HP.out,rg_refl _ _⟩
def ze (B:Nat) (w:World) (gr:Nat) (c1 c2 c3 c4:Value) (q:Rat) (s:PS) (e:Ending) (w':World):Prop :=
  ∃ b A n c D m e',e=.returned (.agg #[.bool b,.slice A n c,.slice D m e'])∧QV w' b A n c D m e' q 130∧RdP B w' gr c1 c2 c3 c4 s∧w.grownBy w' (some gr)
theorem pX (w:World) (k:Nat):QV w false none 0 0 none 0 0 0 k:=by
 unfold QV;rw [ls];exact ⟨rfl,Wd.nil_ w,Wd.nil_ w,Nat.zero_le _,Nat.zero_le _⟩
theorem QD.alloc_ {w:World}{b:Bool}{A D:Option Addr}{n c m e k:Nat}{r:RD}(h:QD w b A n c D m e r k) (o:Obj):QD (w.alloc o) b A n c D m e r k:=h.belw ((Below.refl _ _).alloc Qr o)
theorem jW {B:Nat}{w:World}{gr z n c n' c':Nat}{A A':Option Addr}{c1 c2 c3 c4:Value}{s:PS}{t0:Tkn}{r:List Tkn}(h:RdP B w gr c1 c2 c3 c4 s) (e:s.toks=t0 :: r)
 (hb:Blk w gr 87 #[.slice A n c,c1,c2,c3,c4,bC s.x]) (ht:TkA B w A n c s.toks) (hA:A'=if c=1 then A else A.map (·.add 4)) (hn:n'=n - 1) (hc:c'=c - 1)
 (hz:gr < z) (Z:Blk w z 65 #[.bool false,.slice none 0 0,.slice none 0 0]) {b:Bool}{A2 D2:Option Addr}{n2 d2 m2 e2 k:Nat}{q:RD}(hq:QD w b A2 n2 d2 D2 m2 e2 q k) (u0 u1 u2:Value) (o:Obj) :
 QD (((((w.setCell ⟨gr,0,none⟩ (.slice A' n' c')).setCell ⟨z,0,none⟩ u0).setCell ⟨z,1,none⟩ u1).setCell ⟨z,2,none⟩ u2).alloc o) b A2 n2 d2 D2 m2 e2 q k ∧
 RdP B (((((w.setCell ⟨gr,0,none⟩ (.slice A' n' c')).setCell ⟨z,0,none⟩ u0).setCell ⟨z,1,none⟩ u1).setCell ⟨z,2,none⟩ u2).alloc o) gr c1 c2 c3 c4 s.drop1:=by
 have h1:=h.drop e hb ht hA hn hc;have t1:Tch TA w (w.setCell ⟨gr,0,none⟩ (.slice A' n' c')):=h.tch (dB (rg_refl gr w) 0 _) rfl;have Z1:Blk (w.setCell ⟨gr,0,none⟩ (.slice A' n' c')) z 65 #[.bool false,.slice none 0 0,.slice none 0 0]:=Z.far (by show z≠gr;omega) _;exact ⟨((hq.tch t1).tch (fi Z1 rfl 0 1 2 u0 u1 u2)).alloc_ o,(h1.bel1 (bI _ hz 0 1 2 u0 u1 u2)).alloc o⟩
theorem fK (B:Nat) (w:World) (gr:Nat) (c1 c2 c3 c4:Value) (s:PS) (h:RdP B w gr c1 c2 c3 c4 s):Calls Tryz.prog 111 #[.pointer (some ⟨gr,0,none⟩)] w (ze B w gr c1 c2 c3 c4 s.number.1 s.number.2):=by
 have HP:=Qh h;have hlt:=h.lt;obtain ⟨W,hW⟩:∃ W,s.number=W:=⟨_,rfl⟩;rw [hW];have HW:=Qh hW;clear h hW;go_in;go_wp2_with fail;(with_reducible refine (mf B _ gr c1 c2 c3 c4 s (HP.out.alloc _) 1 1 rfl).mono ?_);rintro e w1 ⟨rfl,h1,hg1⟩;have z1:Blk w1 w.heap.size 65 #[.bool false,.slice none 0 0,.slice none 0 0]:=bD hg1 (Blk.new _ _ _) (by omega);have G1:w.grownBy w1 (some gr):=ay (bc (rg_refl gr w) _) hg1;clear hg1;have hlz:=z1.lt;have hW:=HW.out;unfold PS.number at hW;generalize hq:s.next 1=q at h1 hW;obtain ⟨o,s'⟩:=q
 cases o with
 | none =>
  simp only [Option.getD_none,Option.isSome_none] at h1 hW ⊢;subst hW;obtain ⟨cz0,cz1,cz2⟩:=z1.c3;obtain ⟨fz0,fz1,fz2⟩:=z1.f3;have H1:=Qh h1;have Z1:=Qh z1;clear hq h1 z1 HW;go_wp2_with fail;refine bodyPost_ret (v:=.agg #[.bool false,.slice none 0 0,.slice none 0 0]) (by simp [results,Tryz.results111,go_sem, *] <;> trivial) rfl ?_;exact ⟨_,_,_,_,_,_,_,rfl,pX _ _,((H1.out.far hlt _).far hlt _).far hlt _,dD (dD (dD G1 Qr _) Qr _) Qr _⟩
 | some t =>
  simp only [Option.getD_some,Option.isSome_some] at h1 hW ⊢;obtain ⟨e,hx,t0,r,et,_,_⟩:=iG hq;have HV:=Qh (pR t);generalize valX t=x at HV hW;generalize valQ t=qv at HV hW;have HE:=Qh (show s'.toks=t0 :: r by rw [e,et]);have HX:=Qh (show s'.x=0 by rw [e];exact hx);have H1:=Qh h1;have Z1:=Qh z1;have HW2:=Qh hW;clear h1 hq e et hx z1 hW HW;go_wp2_with fail;(with_reducible refine (rG _ t x qv H1.out.mx.out HV.out).mono ?_);rintro e w2 ⟨b2,A2,n2,d2,D2,m2,e2,rfl,h2,hb2⟩;have G2:=d8 G1 hb2;have z2:=Z1.out.below hb2 hlz;have r2:=H1.out.belw hb2;have hlw:=hb2.size;clear hb2 G1;have hgl:=r2.lt;have hlz2:=z2.lt;have R2:=Qh r2;have Z2:=Qh z2;have HQ2:=Qh h2;obtain ⟨A,n,c,hb,ht⟩:=r2.blk;have hB:=r2.hB;have HB:=Qh hb;have HT:=Qh ht;clear Z1 H1 r2 z2 h2 ht;by_cases hx0:x=0
  ·have hW:=HW2.out
   rw [if_neg (by simp [hx0])] at hW;subst hW hx0;rw [cl];have hn:(1:Int)≤(n:Int):=by have:=HT.out.1;rw [HE.out] at this;simp at this;omega
   have f0:=hb.frozen 0;obtain ⟨a0,_,_,_,_,_⟩:=hb.c6;obtain ⟨cz0,cz1,cz2⟩:=Z2.out.c3;obtain ⟨fz0,fz1,fz2⟩:=Z2.out.f3;clear hb HW2;have hne1:¬ gr=w2.heap.size:=by omega
   have hne2:¬ w.heap.size=w2.heap.size:=by omega
   have hne3:¬ gr=w.heap.size:=by omega
   go_wp2_with fail
   all_goals
    refine bodyPost_ret (v:=.agg #[.bool b2,.slice A2 n2 d2,.slice D2 m2 e2]) (by simp [results,Tryz.results111,go_sem, *] <;> trivial) rfl ?_;exact ⟨_,_,_,_,_,_,_,rfl,(jW R2.out HE.out HB.out HT.out (by simp [Addr.add, *]) rfl (by omega) hlt Z2.out HQ2.out _ _ _ _).1,(jW R2.out HE.out HB.out HT.out (by simp [Addr.add, *]) rfl (by omega) hlt Z2.out HQ2.out _ _ _ _).2,bc (dD (dD (dD (dB G2 _ _) Qr _) Qr _) Qr _) _⟩
  have hW:=HW2.out;rw [if_pos hx0] at hW;subst hW;rw [eVp hx0];clear hb HW2;go_wp2_with fail;(with_reducible refine (dH _ gr (.slice A n c) c1 c2 c3 c4 s'.x x (HB.out.alloc _) hx0).mono ?_);rintro e w3 ⟨rfl,hb3,hg3⟩;rw [if_pos HX.out] at hb3;have g3:=ay (bc (rg_refl gr w2) _) hg3;have z3:=bD g3 Z2.out (by omega);obtain ⟨cz0,cz1,cz2⟩:=z3.c3;obtain ⟨fz0,fz1,fz2⟩:=z3.f3;have HB3:=Qh hb3;have hl3:=z3.lt;clear hb3 hg3 z3;go_wp2_with fail;refine bodyPost_ret (v:=.agg #[.bool false,.slice none 0 0,.slice none 0 0]) (by simp [results,Tryz.results111,go_sem, *] <;> trivial) rfl ?_;have e2:s'.fail x={ s' with x:=x }:=if_pos HX.out;rw [e2];have R3:RdP B w3 gr c1 c2 c3 c4 { s' with x:=x }:=⟨⟨A,n,c,HB3.out,HT.out.rg hB g3⟩,R2.out.mx.rg hB g3,hB,R2.out.len,R2.out.txt,R2.out.hw⟩;exact ⟨_,_,_,_,_,_,_,rfl,pX _ _,((R3.far hlt _).far hlt _).far hlt _,dD (dD (dD (ay G2 g3) Qr _) Qr _) Qr _⟩
def yD (B:Nat) (w:World) (gr:Nat) (c1 c2 c3 c4:Value) (b:ai) (s:PS) (e:Ending) (w':World):Prop :=
  ∃ A n c,e=.returned (.agg #[af b.name,.slice A n c])∧ks 130 w' A n c b.pts∧NmL b.name∧RdP B w' gr c1 c2 c3 c4 s∧w.grownBy w' (some gr)
section
variable {w:World}{g t:Nat}{a0 a1 a2 a3 a4 a5 a6:Value}
theorem Blk.x7 (h:Blk w g t #[a0,a1,a2,a3,a4,a5,a6]) (u0 u1 u2:Value):Blk (((w.setCell ⟨g,1,none⟩ u0).setCell ⟨g,2,none⟩ u1).setCell ⟨g,3,none⟩ u2) g t #[a0,u0,u1,u2,a4,a5,a6]:=((h.set_ 1 u0).set_ 2 u1).set_ 3 u2
theorem Blk.y7 (h:Blk w g t #[a0,a1,a2,a3,a4,a5,a6]) (u0 u1 u2:Value):Blk (((w.setCell ⟨g,4,none⟩ u0).setCell ⟨g,5,none⟩ u1).setCell ⟨g,6,none⟩ u2) g t #[a0,a1,a2,a3,u0,u1,u2]:=((h.set_ 4 u0).set_ 5 u1).set_ 6 u2
theorem Blk.f7 (h:Blk w g t #[a0,a1,a2,a3,a4,a5,a6]):w.frozen? ⟨g,0,none⟩=false∧w.frozen? ⟨g,1,none⟩=false∧w.frozen? ⟨g,2,none⟩=false∧w.frozen? ⟨g,3,none⟩=false∧w.frozen? ⟨g,4,none⟩=false∧w.frozen? ⟨g,5,none⟩=false∧w.frozen? ⟨g,6,none⟩=false:=⟨h.frozen 0,h.frozen 1,h.frozen 2,h.frozen 3,h.frozen 4,h.frozen 5,h.frozen 6⟩
theorem Blk.s21 (h:Blk w g t #[a0,a1]) (u:Value):Blk (w.setCell ⟨g,1,none⟩ u) g t #[a0,u]:=h.set_ 1 u
end
theorem ks.of_row {w:World}{base n c:Nat}{A:Option Addr}{l:List ar}(h:ba 67 (MkC 130) 7 w base (.slice A n c) n l):ks 130 w A n c l:=h.slT fun _ _ _ _ h1 h2=>h1.at_ h2
theorem OwJ.far {J:Value→Bool}{w:World}{base n size:Nat}{e:TypeId}{v:Value}{xs:List Value}(h:OwJ J w base e size v n xs) {p:Addr}(hp:some p.block≠v.ownBlock) (u:Value):OwJ J (w.setCell p u) base e size v n xs:=by
 refine ⟨h.1,?_⟩;rcases h.2 with h1 | ⟨g,cap,cur,rfl,h2,h3,h4⟩
 ·exact .inl h1
 exact .inr ⟨g,cap,cur,rfl,h2,(Below.heap_setCell w p u g (fun e=>hp (by simp [Value.ownBlock,e]))).trans h3,h4⟩
theorem uf {J:Value→Bool}{w:World}{base n size g t:Nat}{e:TypeId}{v:Value}{xs:List Value}{cs:Array Value}(h:OwJ J w base e size v n xs) (hb:Blk w g t cs) (ht:t≠e):some g≠v.ownBlock:=by
 intro e1;obtain ⟨_,cur,h2,_⟩:=h.at_ e1.symm;unfold Blk at hb;rw [h2] at hb;injection hb with hb;injection hb with _ hb;exact ht hb.symm
theorem TkA.first {B:Nat}{w:World}{A:Option Addr}{n c:Nat}{s:PS}(ht:TkA B w A n c s.toks):(n=0∧s.signHead=false)∨(0 < n∧∃ g o,∃ k:Nat,A=some ⟨g,o,none⟩∧w.cell? ⟨g,o,none⟩=some (.int .i64 (k:Nat))∧s.signHead=decide (k=2)):=by
 obtain ⟨toks,L,x⟩:=s
 cases toks with
 | nil=>exact .inl ⟨ht.1.symm,rfl⟩
 | cons t r =>
  obtain ⟨g,o,e,_,d0,_⟩:=ht.head;refine .inr ⟨by rw [← ht.1];simp,g,o,t.kind,e,d0,?_⟩;show (t.kind == 2)=_;rfl
structure BdR (B:Nat) (w:World) (gr gb:Nat) (c1 c2 c3 c4:Value) (nm:List UInt8) (wr:World) (s:PS) (l:List ar) (pv:Value):Prop where
  rd:RdP B wr gr c1 c2 c3 c4 s
  rg:w.grownBy wr (some gr)
  out:Blk wr w.heap.size 62 #[af [],.slice none 0 0]
  b:Blk wr gb 62 #[af nm,pv]
  row:ba 67 (MkC 130) 7 wr gb pv l.length l
  lt:gr < w.heap.size∧w.heap.size < gb
section
variable {B:Nat}{w:World}{gr gb:Nat}{c1 c2 c3 c4:Value}{nm:List UInt8}{wr w3:World}{s s3:PS}{l:List ar}{pv:Value}
theorem BdR.call (h:BdR B w gr gb c1 c2 c3 c4 nm wr s l pv) (h3:RdP B w3 gr c1 c2 c3 c4 s3) (g3:wr.grownBy w3 (some gr)):BdR B w gr gb c1 c2 c3 c4 nm w3 s3 l pv :=
 ⟨h3,ay h.rg g3,bD g3 h.out (by have:=h.lt;omega),bD g3 h.b (by have:=h.lt;omega),h.row.rg (by have:=h.lt;omega) g3 (fun _ _ x=>x.tch (h.rd.tch g3 (T:=TA) rfl)),h.lt⟩
theorem BdR.fin {A:Option Addr}{n c:Nat}(h:BdR B w gr gb c1 c2 c3 c4 nm wr s l (.slice A n c)) (u v:Value):RdP B ((wr.setCell ⟨w.heap.size,0,none⟩ u).setCell ⟨w.heap.size,1,none⟩ v) gr c1 c2 c3 c4 s∧w.grownBy ((wr.setCell ⟨w.heap.size,0,none⟩ u).setCell ⟨w.heap.size,1,none⟩ v) (some gr)∧ks 130 ((wr.setCell ⟨w.heap.size,0,none⟩ u).setCell ⟨w.heap.size,1,none⟩ v) A n c l:=by
 obtain ⟨h1,h2⟩:=h.lt;refine ⟨(h.rd.far h1 _).far h1 _,dD (dD h.rg Qr _) Qr _,?_⟩
 have hn:l.length=n:=by
  obtain ⟨A',c',e,_⟩:=h.row.form;injection e with _ e _;exact e.symm
 have hr:=h.row;rw [hn] at hr
 have ht:Tch TA wr ((wr.setCell ⟨w.heap.size,0,none⟩ u).setCell ⟨w.heap.size,1,none⟩ v) :=
  Tch.of_ne (by simp [World.setCell]) h.out rfl rfl fun g' _ hne=>by rw [Below.heap_setCell _ _ _ _ hne,Below.heap_setCell _ _ _ _ hne]
 exact ks.of_row (hr.same (fun g cur hg hc=>by rw [Below.heap_setCell _ _ _ _ (by show g≠w.heap.size;omega),Below.heap_setCell _ _ _ _ (by show g≠w.heap.size;omega)];exact hc) (fun _ _ x=>x.tch ht))
theorem BdR.b5 {xs:List Value}{w5:World}(h:BdR B w gr gb c1 c2 c3 c4 nm wr s l pv) (hown:OwJ noW wr gb 67 7 pv l.length xs) (o:Obj) (hgrow:(wr.alloc o).grownBy w5 pv.ownBlock):Blk w5 gb 62 #[af nm,pv] :=
 (h.b.alloc o).grown hgrow (uf hown h.b (by decide))
theorem BdR.push {xs:List Value}{w5:World}{v':Value}{cs:List Value}{m:ar}{o:Obj}(h:BdR B w gr gb c1 c2 c3 c4 nm wr s l pv) (hown:OwJ noW wr gb 67 7 pv l.length xs) (hrow:fQ (MkC 130) 7 wr l xs)
 (hm:MkC 130 wr cs m) (hcs:cs.length=7) (hown5:OwJ noW w5 gb 67 7 v' (l.length+1) (xs ++ cs)) (hgrow:(wr.alloc o).grownBy w5 pv.ownBlock):BdR B w gr gb c1 c2 c3 c4 nm (w5.setCell ⟨gb,1,none⟩ v') s (l ++ [m]) v':=by
 obtain ⟨h1,h2⟩:=h.lt;have b5:=h.b5 hown o hgrow;have hs:=h.b.lt;have hb5:Below gb wr w5:=((Below.refl gb wr).alloc (by omega) o).grown hgrow (by simp;omega) (fun k hk=>(hown.at_ hk).1);have hb6:Below gb wr (w5.setCell ⟨gb,1,none⟩ v'):=hb5.setCell (p:=⟨gb,1,none⟩) Qr v';have hownA:OwJ noW (wr.alloc o) gb 67 7 pv l.length xs:=hown.belw ((Below.refl _ _).alloc Qr o);obtain ⟨A,c,hpv,_⟩:=h.row.form;have ht:Tch TA wr (w5.setCell ⟨gb,1,none⟩ v'):=((Tch.below ((Below.refl _ _).alloc Qr o)).trans (Tch.grown (T:=TA) (fun _ hu=>hu) rfl hownA hgrow)).trans (Tch.set b5 rfl (by rw [hpv];rfl) 1 v');have hl:(l ++ [m]).length=l.length+1:=by simp
 refine ⟨h.rd.bel1 (hb6.mono (by omega)),cH h.rg (hb6.mono (by omega)),h.out.below hb6 h2,b5.s21 v',?_,h.lt⟩;rw [hl];exact ⟨hl,xs ++ cs,hown5.far (uf hown5 b5 (by decide)) v',(hrow.map_ fun _ _ x=>x.tch ht).snoc (hm.tch ht) hcs⟩
end
theorem vI (B:Nat) (w:World) (gr:Nat) (c1 c2 c3 c4:Value) (s:PS) (h:RdP B w gr c1 c2 c3 c4 s):Calls Tryz.prog 72 #[.pointer (some ⟨gr,0,none⟩)] w (yD B w gr c1 c2 c3 c4 s.body.1 s.body.2):=by
 obtain ⟨i0,hi0,hz0,hz1,hz2⟩:=info_parts vH;have HI:=Qh (And.intro hi0 (And.intro hz0 (And.intro hz1 hz2)));clear hi0 hz0 hz1 hz2;unfold PS.body;obtain ⟨R,hR⟩:∃ R,PS.marks (s.toks.length+1) (s.word.2.expect 2 [123]) []=R:=⟨_,rfl⟩;simp only [hR];have HR:=Qh hR;have HP:=Qh h;have hlt:=h.lt;have HN:=Qh (eH h.txt);clear h hR;go_in;go_wp2_with fail;(with_reducible refine (bW B _ gr c1 c2 c3 c4 s (HP.out.alloc _)).mono ?_);rintro e w1 ⟨rfl,h1,hg1⟩;have z1:Blk w1 w.heap.size 62 #[af [],.slice none 0 0]:=bD hg1 (Blk.new _ _ _) (by omega);have G1:w.grownBy w1 (some gr):=ay (bc (rg_refl gr w) _) hg1;have hlz:=z1.lt;have hl1:=h1.lt;have H1:=Qh h1;clear hg1 h1;go_wp2_with fail;(with_reducible refine (dh B _ gr c1 c2 c3 c4 s.word.2 (H1.out.alloc _) [123]).mono ?_);rintro e w2 ⟨rfl,h2,hg2⟩;have z2:Blk w2 w.heap.size 62 #[af [],.slice none 0 0]:=bD hg2 (z1.alloc _) (by omega);have b2:Blk w2 w1.heap.size 62 #[af s.word.1,.slice none 0 0]:=bD hg2 (Blk.new _ _ _) (by omega);have G2:w.grownBy w2 (some gr):=ay (bc G1 _) hg2;clear z1 G1 H1 hg2;generalize w1.heap.size=gb at hlz hl1 b2 ⊢;have HB2:=Qh b2;have HZ2:=Qh z2;have H2:=Qh h2;clear b2 z2 h2;go_wp2_with fail;go_loopw [] (fun wr=>∃ f s' l pv,BdR B w gr gb c1 c2 c3 c4 s.word.1 wr s' l pv∧(s'.x=0→s'.toks.length < f∧l.length+s'.toks.length≤65536)∧Hid (PS.marks f s' l=R)) (fun wr=>mOf gr wr)
 case atStart =>
  have hst:=(aq s).trans (aI s.word.2 2 [123]);have h6:=HP.out.len;exact ⟨_,_,[],_,⟨H2.out,G2,HZ2.out,HB2.out,ba.nil,hlt,hlz⟩,fun _=>⟨by have:=hst.1;omega,by have:=hst.1;simp;omega⟩,HR⟩
 case round =>
  clear HR H2 HZ2 HB2 G2;obtain ⟨f,s',l,pv,hbr,hfl,HR⟩:=hrel;obtain ⟨A,n,c,hb,ht⟩:=hbr.rd.blk;obtain ⟨a0,_,_,_,_,a5⟩:=hb.c6;obtain ⟨Ap,cp,rfl,hcp⟩:=hbr.row.form;have HBR:=Qh hbr;clear hb hbr;by_cases hx:s'.x=0
  ·rw [hx,cl] at a5
   obtain ⟨hf1,hf2⟩:=hfl hx;have hff:0 < f:=by omega
   rcases ht.first with ⟨hn0,hs⟩ | ⟨hn0,g,o,k,e,d0,hs⟩
   rotate_left
   ·subst e
    rw [show decide (k=2)=_ from rfl] at hs;have hi0:(0:Int) < (n:Int):=by omega
    have hi1:(0 < n)=True:=eq_true hn0;clear ht;by_cases hk:k=2
    ·have hk1:((k:Int) == 2)=true:=by simp [hk]
     have hRl:=fF (l:=l) hff hx (by rw [hs];simp [hk]);rw [HR.out] at hRl;subst hRl;clear hs hfl;go_wp2_with fail;(with_reducible refine (dh B _ gr c1 c2 c3 c4 s' HBR.out.rd [125]).mono ?_);rintro e w3 ⟨rfl,h3,hg3⟩;have HB3:=Qh (HBR.out.call h3 hg3);obtain ⟨cz0,cz1⟩:=HB3.out.out.c2;obtain ⟨fz0,fz1⟩:=HB3.out.out.f2;obtain ⟨cb0,cb1⟩:=HB3.out.b.c2;have hne:¬ gb=w.heap.size:=by omega
     clear h3 hg3;go_wp2_with fail;refine bodyPost_ret (v:=.agg #[af s.word.1,.slice Ap l.length cp]) (by simp [results,Tryz.results72,go_sem, *] <;> trivial) rfl ?_;exact ⟨_,_,_,rfl,(HB3.out.fin _ _).2.2,HN.out,(HB3.out.fin _ _).1,(HB3.out.fin _ _).2.1⟩
    have hk1:((k:Int) == 2)=false:=beq_eq_false_iff_ne.2 (by omega);have hs2:s'.signHead=false:=by rw [hs];simp [hk]
    clear hs;have HS2:=Qh hs2;clear hs2;go_wp2_with fail;(with_reducible refine (bW B _ gr c1 c2 c3 c4 s' HBR.out.rd).mono ?_);rintro e w3 ⟨rfl,h3,hg3⟩;have hnm:=Qh (eH HBR.out.rd.txt);have hl3:=h3.lt;have hw3:=hg3.size;have H3:=Qh h3;clear h3 a0 a5;go_wp2_with fail;(with_reducible refine (fK B _ gr c1 c2 c3 c4 s'.word.2 (H3.out.alloc _)).mono ?_);rintro e w4 ⟨b4,A4,n4,d4,D4,m4,e4,rfl,q4,h4,hg4⟩;have p4:Blk w4 w3.heap.size 67 #[af s'.word.1,.bool false,.slice none 0 0,.slice none 0 0,.bool false,.slice none 0 0,.slice none 0 0]:=bD hg4 (Blk.new _ _ _) (by omega);have g4:wr.grownBy w4 (some gr):=ay (bc hg3 _) hg4;have hlp4:=p4.lt;obtain ⟨_,fp1,fp2,fp3,_⟩:=p4.f7;obtain ⟨_,cq1,cq2,cq3,_⟩:=p4.c7;have P4:=Qh p4;have H4:=Qh h4;have Q4:=Qh q4;clear p4 h4 q4 hg4 hg3 H3;go_wp2_with fail;(with_reducible refine (fK B _ gr c1 c2 c3 c4 s'.word.2.number.2 (H4.out.bel1 (bI w4 hl3 1 2 3 (.bool b4) (.slice A4 n4 d4) (.slice D4 m4 e4)))).mono ?_);rintro e w5 ⟨b5,A5,n5,d5,D5,m5,e5,rfl,q5,h5,hg5⟩;have p5:=bD hg5 (P4.out.x7 (.bool b4) (.slice A4 n4 d4) (.slice D4 m4 e4)) (by omega);have g5:wr.grownBy w5 (some gr):=ay (cH g4 (bI w4 hw3 1 2 3 (.bool b4) (.slice A4 n4 d4) (.slice D4 m4 e4))) hg5;have q45:=(Q4.out.tch (fi P4.out rfl 1 2 3 (.bool b4) (.slice A4 n4 d4) (.slice D4 m4 e4))).tch ((H4.out.bel1 (bI w4 hl3 1 2 3 (.bool b4) (.slice A4 n4 d4) (.slice D4 m4 e4))).tch hg5 (T:=TA) rfl);have hlp5:=p5.lt;obtain ⟨_,_,_,_,fr4,fr5,fr6⟩:=p5.f7;obtain ⟨_,_,_,_,cr4,cr5,cr6⟩:=p5.c7;have P5:=Qh p5;have H5:=Qh h5;have Q45:=Qh q45;have Q5:=Qh q5;clear p5 h5 q5 q45 hg5 g4 P4 H4 Q4 fp1 fp2 fp3 cq1 cq2 cq3;go_wp2_with fail;(with_reducible refine (dh B _ gr c1 c2 c3 c4 s'.word.2.number.2.number.2 (H5.out.bel1 (bI w5 hl3 4 5 6 (.bool b5) (.slice A5 n5 d5) (.slice D5 m5 e5))) [59]).mono ?_);rintro e w6 ⟨rfl,h6,hg6⟩;have p6:=bD hg6 (P5.out.y7 (.bool b5) (.slice A5 n5 d5) (.slice D5 m5 e5)) (by omega);have g6:wr.grownBy w6 (some gr):=ay (cH g5 (bI w5 hw3 4 5 6 (.bool b5) (.slice A5 n5 d5) (.slice D5 m5 e5))) hg6;have t6:=(fi P5.out rfl 4 5 6 (.bool b5) (.slice A5 n5 d5) (.slice D5 m5 e5)).trans ((H5.out.bel1 (bI w5 hl3 4 5 6 (.bool b5) (.slice A5 n5 d5) (.slice D5 m5 e5))).tch hg6 (T:=TA) rfl);have HM:=Qh (show MkC 130 w6 [af s'.word.1,.bool b4,.slice A4 n4 d4,.slice D4 m4 e4,.bool b5,.slice A5 n5 d5,.slice D5 m5 e5] s'.mark.1 from ⟨b4,A4,n4,d4,D4,m4,e4,b5,A5,n5,d5,D5,m5,e5,rfl,Q45.out.tch t6,Q5.out.tch t6,hnm.out⟩);have HB6:=Qh (show BdR B w gr gb c1 c2 c3 c4 s.word.1 w6 s'.mark.2 l (.slice Ap l.length cp) from HBR.out.call h6 g6);obtain ⟨_,xs,hown,hrow⟩:=HB6.out.row;have HO:=Qh hown;have HW:=Qh hrow;obtain ⟨cb0,cb1⟩:=HB6.out.b.c2;obtain ⟨cp0,cp1,cp2,cp3,cp4,cp5,cp6⟩:=p6.c7;have hlb:=HB6.out.b.lt;have hlp6:=p6.lt;clear h6 hg6 hown hrow p6 t6 g5 g6 P5 H5 Q45 Q5 fr4 fr5 fr6 cr4 cr5 cr6;go_wp2_with (at_builtin;refine de _ rfl noW _ _ _ rfl gb 67 i0 (.agg #[.string ⟨#[]⟩,.bool false,.slice none 0 0,.slice none 0 0,.bool false,.slice none 0 0,.slice none 0 0]) 7 128 Tryz.underlying60 HI.out.1 HI.out.2.1 HI.out.2.2.1 HI.out.2.2.2 rfl (by omega) rfl _ l.length xs rfl (HO.out.belw ((Below.refl _ _).alloc Qr _)) ⟨w6.heap.size,0,none⟩ 1 1 [_,_,_,_,_,_,_] rfl rfl (World.news_of_block (heap_alloc_new w6 _)) (by simp [Value.oneCell']) rfl (by omega) (by unfold maxLen;omega) (by omega) (by simp;omega) ?_;intro gx cap w7 hown7 hgrow hat;have fb7:=(HB6.out.b5 HO.out _ hgrow).frozen 1;obtain ⟨ce0,ce1⟩:=(HB6.out.b5 HO.out _ hgrow).c2);have hst:=gX s';have hR2:=dA (l:=l) hff hx HS2.out;rw [HR.out] at hR2;go_roundw
    case rel =>
     refine ⟨f - 1,s'.mark.2,l ++ [s'.mark.1],_,HB6.out.push HO.out HW.out HM.out rfl hown7 hgrow,fun hz=>?_,Qh hR2.symm⟩;have h9:=(hst.2.2.1 hz).2;rw [List.length_append,List.length_singleton];omega
    case measure =>
     rw [(HB6.out.push HO.out HW.out HM.out rfl hown7 hgrow).rd.meas,HBR.out.rd.meas,if_pos hx];have h8:=hst.1;by_cases hz:s'.mark.2.x=0
     ·have h9:=(hst.2.2.1 hz).2
      rw [if_pos hz];omega
     rw [if_neg hz];omega
   subst hn0;have hs2:s'.signHead=false:=hs;clear hs ht;have HS2:=Qh hs2;clear hs2;go_wp2_with fail;(with_reducible refine (bW B _ gr c1 c2 c3 c4 s' HBR.out.rd).mono ?_);rintro e w3 ⟨rfl,h3,hg3⟩;have hnm:=Qh (eH HBR.out.rd.txt);have hl3:=h3.lt;have hw3:=hg3.size;have H3:=Qh h3;clear h3 a0 a5;go_wp2_with fail;(with_reducible refine (fK B _ gr c1 c2 c3 c4 s'.word.2 (H3.out.alloc _)).mono ?_);rintro e w4 ⟨b4,A4,n4,d4,D4,m4,e4,rfl,q4,h4,hg4⟩;have p4:Blk w4 w3.heap.size 67 #[af s'.word.1,.bool false,.slice none 0 0,.slice none 0 0,.bool false,.slice none 0 0,.slice none 0 0]:=bD hg4 (Blk.new _ _ _) (by omega);have g4:wr.grownBy w4 (some gr):=ay (bc hg3 _) hg4;have hlp4:=p4.lt;obtain ⟨_,fp1,fp2,fp3,_⟩:=p4.f7;obtain ⟨_,cq1,cq2,cq3,_⟩:=p4.c7;have P4:=Qh p4;have H4:=Qh h4;have Q4:=Qh q4;clear p4 h4 q4 hg4 hg3 H3;go_wp2_with fail;(with_reducible refine (fK B _ gr c1 c2 c3 c4 s'.word.2.number.2 (H4.out.bel1 (bI w4 hl3 1 2 3 (.bool b4) (.slice A4 n4 d4) (.slice D4 m4 e4)))).mono ?_);rintro e w5 ⟨b5,A5,n5,d5,D5,m5,e5,rfl,q5,h5,hg5⟩;have p5:=bD hg5 (P4.out.x7 (.bool b4) (.slice A4 n4 d4) (.slice D4 m4 e4)) (by omega);have g5:wr.grownBy w5 (some gr):=ay (cH g4 (bI w4 hw3 1 2 3 (.bool b4) (.slice A4 n4 d4) (.slice D4 m4 e4))) hg5;have q45:=(Q4.out.tch (fi P4.out rfl 1 2 3 (.bool b4) (.slice A4 n4 d4) (.slice D4 m4 e4))).tch ((H4.out.bel1 (bI w4 hl3 1 2 3 (.bool b4) (.slice A4 n4 d4) (.slice D4 m4 e4))).tch hg5 (T:=TA) rfl);have hlp5:=p5.lt;obtain ⟨_,_,_,_,fr4,fr5,fr6⟩:=p5.f7;obtain ⟨_,_,_,_,cr4,cr5,cr6⟩:=p5.c7;have P5:=Qh p5;have H5:=Qh h5;have Q45:=Qh q45;have Q5:=Qh q5;clear p5 h5 q5 q45 hg5 g4 P4 H4 Q4 fp1 fp2 fp3 cq1 cq2 cq3;go_wp2_with fail;(with_reducible refine (dh B _ gr c1 c2 c3 c4 s'.word.2.number.2.number.2 (H5.out.bel1 (bI w5 hl3 4 5 6 (.bool b5) (.slice A5 n5 d5) (.slice D5 m5 e5))) [59]).mono ?_);rintro e w6 ⟨rfl,h6,hg6⟩;have p6:=bD hg6 (P5.out.y7 (.bool b5) (.slice A5 n5 d5) (.slice D5 m5 e5)) (by omega);have g6:wr.grownBy w6 (some gr):=ay (cH g5 (bI w5 hw3 4 5 6 (.bool b5) (.slice A5 n5 d5) (.slice D5 m5 e5))) hg6;have t6:=(fi P5.out rfl 4 5 6 (.bool b5) (.slice A5 n5 d5) (.slice D5 m5 e5)).trans ((H5.out.bel1 (bI w5 hl3 4 5 6 (.bool b5) (.slice A5 n5 d5) (.slice D5 m5 e5))).tch hg6 (T:=TA) rfl);have HM:=Qh (show MkC 130 w6 [af s'.word.1,.bool b4,.slice A4 n4 d4,.slice D4 m4 e4,.bool b5,.slice A5 n5 d5,.slice D5 m5 e5] s'.mark.1 from ⟨b4,A4,n4,d4,D4,m4,e4,b5,A5,n5,d5,D5,m5,e5,rfl,Q45.out.tch t6,Q5.out.tch t6,hnm.out⟩);have HB6:=Qh (show BdR B w gr gb c1 c2 c3 c4 s.word.1 w6 s'.mark.2 l (.slice Ap l.length cp) from HBR.out.call h6 g6);obtain ⟨_,xs,hown,hrow⟩:=HB6.out.row;have HO:=Qh hown;have HW:=Qh hrow;obtain ⟨cb0,cb1⟩:=HB6.out.b.c2;obtain ⟨cp0,cp1,cp2,cp3,cp4,cp5,cp6⟩:=p6.c7;have hlb:=HB6.out.b.lt;have hlp6:=p6.lt;clear h6 hg6 hown hrow p6 t6 g5 g6 P5 H5 Q45 Q5 fr4 fr5 fr6 cr4 cr5 cr6;go_wp2_with (at_builtin;refine de _ rfl noW _ _ _ rfl gb 67 i0 (.agg #[.string ⟨#[]⟩,.bool false,.slice none 0 0,.slice none 0 0,.bool false,.slice none 0 0,.slice none 0 0]) 7 128 Tryz.underlying60 HI.out.1 HI.out.2.1 HI.out.2.2.1 HI.out.2.2.2 rfl (by omega) rfl _ l.length xs rfl (HO.out.belw ((Below.refl _ _).alloc Qr _)) ⟨w6.heap.size,0,none⟩ 1 1 [_,_,_,_,_,_,_] rfl rfl (World.news_of_block (heap_alloc_new w6 _)) (by simp [Value.oneCell']) rfl (by omega) (by unfold maxLen;omega) (by omega) (by simp;omega) ?_;intro gx cap w7 hown7 hgrow hat;have fb7:=(HB6.out.b5 HO.out _ hgrow).frozen 1;obtain ⟨ce0,ce1⟩:=(HB6.out.b5 HO.out _ hgrow).c2);have hst:=gX s';have hR2:=dA (l:=l) hff hx HS2.out;rw [HR.out] at hR2;go_roundw
   case rel =>
    refine ⟨f - 1,s'.mark.2,l ++ [s'.mark.1],_,HB6.out.push HO.out HW.out HM.out rfl hown7 hgrow,fun hz=>?_,Qh hR2.symm⟩;have h9:=(hst.2.2.1 hz).2;rw [List.length_append,List.length_singleton];omega
   case measure =>
    rw [(HB6.out.push HO.out HW.out HM.out rfl hown7 hgrow).rd.meas,HBR.out.rd.meas,if_pos hx];have h8:=hst.1;by_cases hz:s'.mark.2.x=0
    ·have h9:=(hst.2.2.1 hz).2
     rw [if_pos hz];omega
    rw [if_neg hz];omega
  rw [eVp hx] at a5;have hz:=HBR.out.out;have hbb:=HBR.out.b;obtain ⟨cz0,cz1⟩:=hz.c2;obtain ⟨fz0,fz1⟩:=hz.f2;obtain ⟨cb0,cb1⟩:=hbb.c2;have hne:¬ gb=w.heap.size:=by omega
  have hRl:=me (f:=f) (l:=l) hx;rw [HR.out] at hRl;subst hRl;clear hz hbb hfl ht;go_wp2_with fail;refine bodyPost_ret (v:=.agg #[af s.word.1,.slice Ap l.length cp]) (by simp [results,Tryz.results72,go_sem, *] <;> trivial) rfl ?_;exact ⟨_,_,_,rfl,(HBR.out.fin _ _).2.2,HN.out,(HBR.out.fin _ _).1,(HBR.out.fin _ _).2.1⟩
theorem pY {α:Type}{f:α→List UInt8}{l:List α}{nm:List UInt8}{i:Nat}{b:α}(h:∀ a∈l.take i,f a≠nm) (hb:l[i]?=some b) (e:f b=nm):l.findIdx? (fun x=>f x == nm)=some i:=by
 rw [List.findIdx?_eq_some_iff_getElem];obtain ⟨hi,hb⟩:=List.getElem?_eq_some_iff.1 hb;refine ⟨hi,by rw [hb];simp [e],fun j hj=>?_⟩
 have hm:l[j]'(by omega)∈l.take i:=by
  rw [List.mem_take_iff_getElem];exact ⟨j,by omega,rfl⟩
 simpa using h _ hm
theorem nL {α:Type}{f:α→List UInt8}{l:List α}{nm:List UInt8}(h:∀ a∈l,f a≠nm):l.findIdx? (fun x=>f x == nm)=none:=by
 rw [List.findIdx?_eq_none_iff];intro x hx;simpa using h x hx
theorem ll {α:Type}{p:α→Prop}{l:List α}{i:Nat}{b:α}(h:∀ a∈l.take i,p a) (hb:l[i]?=some b) (hp:p b):∀ a∈l.take (i+1),p a:=by
 intro a ha;rw [List.take_add_one,hb] at ha;simp at ha;rcases ha with ha | rfl
 ·exact h a ha
 exact hp
section
variable {w w':World}{gr base n c:Nat}{A:Option Addr}{cs:Array Value}
theorem ba.rgt {α:Type}{T0:TypeId}{Pc:World→List Value→α→Prop}{sz:Nat}{v:Value}{l:List α}(h:ba T0 Pc sz w base v n l) (hb:Blk w gr 87 cs) (hne:T0≠87) (k:w.grownBy w' (some gr)) (hP:∀ cs a,Pc w cs a→Pc w' cs a):ba T0 Pc sz w' base v n l :=
 h.same (fun g cur _ hc=>pV k hc (fun e=>by
  subst e;unfold Blk at hb;rw [hb] at hc;injection hc with hc;injection hc with _ hc
  exact hne hc.symm)) hP
theorem ba.bds {k:Nat}{l:List ai}(h:ba 62 (BdC k) 2 w base (.slice A n c) n l):SlS (dw k) 2 w A n c l:=(h.slT (P:=dw k) fun _ _ _ _ h1 h2=>h1.at_ h2).sl fun _ _ _ p=>p
theorem ba.jts {l:List aM}(h:ba 79 JtC 7 w base (.slice A n c) n l):SlS gN 7 w A n c l:=(h.slT (P:=gN) fun _ _ _ _ h1 h2=>h1.at_ h2).sl fun _ _ _ p=>p
theorem ba.drs {l:List aV}(h:ba 81 DrC 2 w base (.slice A n c) n l):SlS gP 2 w A n c l:=(h.slT (P:=gP) fun _ _ _ _ h1 h2=>h1.at_ h2).sl fun _ _ _ p=>p
end
theorem RdP.bodies {B:Nat}{w w':World}{gr n c:Nat}{A:Option Addr}{c1 c2 c3 c4:Value}{s:PS}{l:List ai}(h:RdP B w gr c1 c2 c3 c4 s) (hr:ba 62 (BdC 130) 2 w B (.slice A n c) n l) (k:w.grownBy w' (some gr)):ba 62 (BdC 130) 2 w' B (.slice A n c) n l:=by
 obtain ⟨_,_,_,hb,_⟩:=h.blk;exact hr.rgt hb (by decide) k fun _ _ x=>x.tch (T:=fun t=>t == 87) (h.tch k rfl) (by decide)
theorem nM (B:Nat) (w:World) (gr:Nat) (c1 c3 c4:Value) (A:Option Addr) (n c:Nat) (s:PS) (h:RdP B w gr c1 (.slice A n c) c3 c4 s) (hr:ba 62 (BdC 130) 2 w B (.slice A n c) n s.L.bodies) (hn:n≤100000) (only:Int):Calls Tryz.prog 74 #[.pointer (some ⟨gr,0,none⟩),.int .i64 only] w (pe B w gr c1 (.slice A n c) c3 c4 (.int .i64 (s.named only).1) (s.named only).2):=by
 have HP:=Qh h;have HR:=Qh hr;obtain ⟨W,hW⟩:∃ W,s.named only=W:=⟨_,rfl⟩;rw [hW];have HW:=Qh hW;clear h hr hW;go_in;go_wp2_with fail;(with_reducible refine (bW B _ gr c1 (.slice A n c) c3 c4 s HP.out).mono ?_);rintro e w1 ⟨rfl,h1,hg1⟩;have HB:=Qh (HP.out.bodies HR.out hg1);have hLs:=(aq s).2.2.2;have hW:=HW.out;unfold PS.named at hW;simp only at hW;rw [hLs] at hW;generalize s.word.2=s' at h1 hW;generalize s.word.1=nm at hW ⊢;have H1:=Qh h1;obtain ⟨D,m,d,hb,_⟩:=h1.blk;obtain ⟨_,_,a2,_,_,a5⟩:=hb.c6;have hgl:=hb.lt;clear hb h1 HW HP HR hLs;by_cases hx:s'.x=0
 ·rw [if_neg (by simp [hx])] at hW
  rw [hx,cl] at a5;have HX:=Qh hx;have HW:=Qh hW;clear hx hW;go_wp2_with fail;clear a2 a5;go_loopw [21] (fun iv wr=>∃ i:Nat,iv=.int .i64 (i:Nat)∧i≤n∧Hid (∀ a∈s.L.bodies.take i,a.name≠nm)∧Below w1.heap.size w1 wr) (fun iv _=>n - (intOf iv).toNat)
  case atStart=>exact ⟨0,rfl,Nat.zero_le _,Qh (by simp),ae w1⟩
  case round =>
   obtain ⟨i,rfl,hi,HT,hb⟩:=hrel;rename World=>wr;rcases Nat.lt_or_ge i n with hlt | hge
   ·have hi1:((i:Int) < (n:Int))=True:=by simp;omega
    obtain ⟨g,o,b,e,hg,_,hbi,hB⟩:=(HB.out.bds.bd hb).at_ hlt;subst e;obtain ⟨A',n',c',d0,d1,hM,hnm⟩:=hB;clear hM hnm;have htl:=aN b.name;have htn:=aN nm;have HBI:=Qh hbi;clear hbi;by_cases heq:b.name=nm
    ·have hf:fT s.L.bodies nm=some i:=pY (f:=ai.name) HT.out HBI.out heq
     have hW:=HW.out;rw [hf] at hW;simp only at hW;rw [heq] at d0 htl;have hee:(nm == nm)=true:=by simp
     have r1:=H1.out.belw hb;have g1:=d8 hg1 hb;have R1:=Qh r1;clear HBI heq hf r1;by_cases ho:0≤only
     ·have ho1:(0≤only)=True:=eq_true ho
      by_cases hio:(i:Int)=only
      ·rw [if_neg (by simp [hio])] at hW
       subst hW;have hio1:((i:Int) == only)=true:=by simp [hio]
       clear hio;go_wp2;go_ret;exact ⟨rfl,R1.out.alloc _,bc g1 _⟩
      rw [if_pos ⟨ho,hio⟩,show s'.fail 7={ s' with x:=7 } from if_pos HX.out] at hW;subst hW;have hio1:((i:Int) == only)=false:=beq_eq_false_iff_ne.2 hio;clear hio;obtain ⟨D2,m2,d2,hbr,htr⟩:=R1.out.blk;have HBr:=Qh (hbr.alloc (.cells #[af nm,.slice A' n' c'] 62));have HTr:=Qh htr;clear hbr htr;go_wp2_with fail;(with_reducible refine (dH _ gr (.slice D2 m2 d2) c1 (.slice (some ⟨g,o,none⟩) n c) c3 c4 s'.x 7 HBr.out (by decide)).mono ?_);rintro e w2 ⟨rfl,hb2,hg2⟩;have g2:=ay (bc (rg_refl gr wr) _) hg2;rw [if_pos HX.out] at hb2;have R2:RdP B w2 gr c1 (.slice (some ⟨g,o,none⟩) n c) c3 c4 { s' with x:=7 }:=⟨⟨D2,m2,d2,hb2,HTr.out.rg R1.out.hB g2⟩,R1.out.mx.rg R1.out.hB g2,R1.out.hB,R1.out.len,R1.out.txt,R1.out.hw⟩;clear hb2;go_wp2;go_ret;exact ⟨rfl,R2,ay g1 g2⟩
     have ho1:(0≤only)=False:=eq_false ho;rw [if_neg (by omega)] at hW;subst hW;go_wp2;go_ret;exact ⟨rfl,R1.out.alloc _,bc g1 _⟩
    have hee:(b.name == nm)=false:=beq_eq_false_iff_ne.2 heq;have HT2:=Qh (ll (p:=fun a:ai=>a.name≠nm) HT.out HBI.out heq);clear heq HT HBI;go_wp2_with fail;go_roundw
    case rel=>exact ⟨i+1,by go_num,by omega,HT2,hb.alloc hb.size _⟩
    case measure=>simp [intOf];omega
   have hi1:((i:Int) < (n:Int))=False:=by simp;omega
   obtain rfl:i=n:=by omega
   have hl:s.L.bodies.length=i:=HB.out.1;have hf:fT s.L.bodies nm=none:=nL (f:=ai.name) fun a ha=>HT.out a (by rw [List.take_of_length_le (by omega)];exact ha)
   have hW:=HW.out;rw [hf] at hW;simp only at hW;have e2:s'.fail 5={ s' with x:=5 }:=if_pos HX.out;rw [e2] at hW;subst hW;have r1:=H1.out.belw hb;have g1:=d8 hg1 hb;have R1:=Qh r1;obtain ⟨D2,m2,d2,hbr,htr⟩:=r1.blk;have HBr:=Qh hbr;have HTr:=Qh htr;clear hbr htr r1 hf hl HT;go_wp2_with fail;(with_reducible refine (dH _ gr (.slice D2 m2 d2) c1 (.slice A i c) c3 c4 s'.x 5 HBr.out (by decide)).mono ?_);rintro e w2 ⟨rfl,hb2,g2⟩;rw [if_pos HX.out] at hb2;have R2:RdP B w2 gr c1 (.slice A i c) c3 c4 { s' with x:=5 }:=⟨⟨D2,m2,d2,hb2,HTr.out.rg R1.out.hB g2⟩,R1.out.mx.rg R1.out.hB g2,R1.out.hB,R1.out.len,R1.out.txt,R1.out.hw⟩;clear hb2;go_wp2;go_ret;exact ⟨rfl,R2,ay g1 g2⟩
 rw [if_pos (by simpa using hx)] at hW;subst hW;rw [eVp hx] at a5;clear hx;go_wp2;go_ret;exact ⟨rfl,H1.out,hg1⟩
theorem RdP.body_at {k n c i:Nat}{w:World}{A:Option Addr}{l:List ai}(h:SlS (dw k) 2 w A n c l) (hi:i < n):∃ g o b A' n' c',A=some ⟨g,o,none⟩∧l[i]?=some b∧w.cell? ⟨g,o+i * 2+1,none⟩=some (.slice A' n' c')∧SlS (cW k) 7 w A' n' c' b.pts:=by
 obtain ⟨g,o,b,e,hg,_,hbi,A',n',c',d0,d1,hM,_⟩:=h.at_ hi;exact ⟨g,o,b,A',n',c',e,hbi,d1,hM⟩
theorem ic (B:Nat) (w:World) (gr:Nat) (c1 c3 c4:Value) (A:Option Addr) (n c:Nat) (s:PS) (h:RdP B w gr c1 (.slice A n c) c3 c4 s) (hr:ba 62 (BdC 130) 2 w B (.slice A n c) n s.L.bodies) (hn:n≤100000) (hpt:∀ b∈s.L.bodies,b.pts.length≤100000) (only:Int):Calls Tryz.prog 73 #[.pointer (some ⟨gr,0,none⟩),.int .i64 only] w (pe B w gr c1 (.slice A n c) c3 c4 (.tuple #[.int .i64 (s.full only).1,.int .i64 (s.full only).2.1]) (s.full only).2.2):=by
 have HP:=Qh h;have HR:=Qh hr;have HPT:=Qh hpt;obtain ⟨W,hW⟩:∃ W,s.full only=W:=⟨_,rfl⟩;rw [hW];have HW:=Qh hW;clear h hr hW hpt;go_in;go_wp2_with fail;(with_reducible refine (nM B _ gr c1 c3 c4 A n c s HP.out HR.out hn only).mono ?_);rintro e w1 ⟨rfl,h1,hg1⟩;have H1:=Qh h1;clear h1;go_wp2_with fail;(with_reducible refine (dh B _ gr c1 (.slice A n c) c3 c4 (s.named only).2 H1.out [46]).mono ?_);rintro e w2 ⟨rfl,h2,hg2⟩;have H2:=Qh h2;clear h2;go_wp2_with fail;(with_reducible refine (bW B _ gr c1 (.slice A n c) c3 c4 ((s.named only).2.expect 2 [46]) H2.out).mono ?_);rintro e w3 ⟨rfl,h3,hg3⟩;have G3:=ay (ay hg1 hg2) hg3;have HB:=Qh (HP.out.bodies HR.out G3);have hst:=(aI (s.named only).2 2 [46]).trans (aq ((s.named only).2.expect 2 [46]));have hLs:=((fG s only).trans hst).2.2.2;have hin:=uc s only;have hW:=HW.out;unfold PS.full at hW;simp only at hW;rw [hLs] at hW;have hxs:((s.named only).2.expect 2 [46]).word.2.x=0→(s.named only).2.x=0:=fun hx=>(hst.2.2.1 hx).1
 clear hst hLs HW H1 H2 hg1 hg2 hg3 HP HR;generalize ((s.named only).2.expect 2 [46]).word.2=s' at h3 hW hxs;generalize ((s.named only).2.expect 2 [46]).word.1=nm at hW ⊢;generalize (s.named only).1=b at hW hin ⊢;have H3:=Qh h3;obtain ⟨D,m,d,hb,_⟩:=h3.blk;obtain ⟨_,_,a2,_,_,a5⟩:=hb.c6;have hgl:=hb.lt;clear hb h3;by_cases hx:s'.x=0
 ·rw [if_neg (by simp [hx])] at hW
  rw [hx,cl] at a5;obtain ⟨ib,eb,hib⟩:=hin (hxs hx);subst eb;have HX:=Qh hx;have hl:s.L.bodies.length=n:=HB.out.1;obtain ⟨g,o,bd,A',n',c',e,hbi,d1,hM⟩:=RdP.body_at HB.out.bds (show ib < n by omega);subst e
  have hp:cV s.L (ib:Int)=bd.pts:=by
   unfold cV;rw [Int.toNat_natCast,hbi]
  rw [hp] at hW;have hi1:((ib:Int) < (n:Int))=True:=by simp;omega
  have hi2:(0:Int)≤(ib:Int):=by omega
  have hn':n'≤100000:=by rw [← hM.1];exact HPT.out bd (List.mem_of_getElem? hbi)
  have HW:=Qh hW;have HM:=Qh hM;clear hx hW hp hbi hM hxs hin hl;go_wp2_with fail;clear a2 a5 d1;go_loopw [32] (fun iv wr=>∃ i:Nat,iv=.int .i64 (i:Nat)∧i≤n'∧Hid (∀ a∈bd.pts.take i,a.name≠nm)∧Below w3.heap.size w3 wr) (fun iv _=>n' - (intOf iv).toNat)
  case atStart=>exact ⟨0,rfl,Nat.zero_le _,Qh (by simp),ae w3⟩
  case round =>
   obtain ⟨i,rfl,hi,HT,hb⟩:=hrel;rename World=>wr;rcases Nat.lt_or_ge i n' with hlt | hge
   ·have hj1:((i:Int) < (n':Int))=True:=by simp;omega
    obtain ⟨g2,o2,p,e,hg,_,hpi,hP⟩:=(HM.out.mk_ hb).at_ hlt;subst e;obtain ⟨d0,⟨bx,Ax,nx,cx,Dx,mx,ex,d1,d2,d3,_⟩,⟨by_,Ay,ny,cy,Dy,my,ey,d4,d5,d6,_⟩,_⟩:=hP;have htl:=aN p.name;have htn:=aN nm;have HPI:=Qh hpi;clear hpi;by_cases heq:p.name=nm
    ·have hf:jR bd.pts nm=some i:=pY (f:=ar.name) HT.out HPI.out heq
     have hW:=HW.out;rw [hf] at hW;simp only at hW;subst hW;rw [heq] at d0 htl;have hee:(nm == nm)=true:=by simp
     have g1:=d8 G3 hb;have R1:=Qh (H3.out.belw hb);clear HPI heq hf;go_wp2_with fail;refine bodyPost_ret (v:=.tuple #[.int .i64 (ib:Nat),.int .i64 (i:Nat)]) (by simp [results,Tryz.results73,go_sem, *] <;> trivial) rfl ?_;exact ⟨rfl,R1.out.alloc _,bc g1 _⟩
    have hee:(p.name == nm)=false:=beq_eq_false_iff_ne.2 heq;have HT2:=Qh (ll (p:=fun a:ar=>a.name≠nm) HT.out HPI.out heq);clear heq HT HPI;go_wp2_with fail;go_roundw
    case rel=>exact ⟨i+1,by go_num,by omega,HT2,hb.alloc hb.size _⟩
    case measure=>simp [intOf];omega
   have hj1:((i:Int) < (n':Int))=False:=by simp;omega
   obtain rfl:i=n':=by omega
   have hl:bd.pts.length=i:=HM.out.1;have hf:jR bd.pts nm=none:=nL (f:=ar.name) fun a ha=>HT.out a (by rw [List.take_of_length_le (by omega)];exact ha)
   have hW:=HW.out;rw [hf] at hW;simp only at hW;have e2:s'.fail 5={ s' with x:=5 }:=if_pos HX.out;rw [e2] at hW;subst hW;have r1:=H3.out.belw hb;have g1:=d8 G3 hb;have R1:=Qh r1;obtain ⟨D2,m2,d2,hbr,htr⟩:=r1.blk;have HBr:=Qh hbr;have HTr:=Qh htr;clear hbr htr r1 hf hl HT;go_wp2_with fail;(with_reducible refine (dH _ gr (.slice D2 m2 d2) c1 (.slice (some ⟨g,o,none⟩) n c) c3 c4 s'.x 5 HBr.out (by decide)).mono ?_);rintro e w5 ⟨rfl,hb2,g2⟩;rw [if_pos HX.out] at hb2;have R2:RdP B w5 gr c1 (.slice (some ⟨g,o,none⟩) n c) c3 c4 { s' with x:=5 }:=⟨⟨D2,m2,d2,hb2,HTr.out.rg R1.out.hB g2⟩,R1.out.mx.rg R1.out.hB g2,R1.out.hB,R1.out.len,R1.out.txt,R1.out.hw⟩;clear hb2;go_wp2_with fail;refine bodyPost_ret (v:=.tuple #[.int .i64 0,.int .i64 0]) (by simp [results,Tryz.results73,go_sem, *] <;> trivial) rfl ?_;exact ⟨rfl,R2,ay g1 g2⟩
 rw [if_pos (by simpa using hx)] at hW;subst hW;rw [eVp hx] at a5;clear hx;go_wp2_with fail;refine bodyPost_ret (v:=.tuple #[.int .i64 0,.int .i64 0]) (by simp [results,Tryz.results73,go_sem, *] <;> trivial) rfl ?_;exact ⟨rfl,H3.out,G3⟩
def zf (ops:Array Oper) (fr:(Nat→Value)→Act) (R:Nat→Value→Prop) (T:Nat→(Nat→Value)→World→Prop) (st:Nat→Option Nat) (K:Nat) (L:Array Bool) (a:Act) (w:World):Prop :=
  ∃ x k,a=fr x∧k≤K∧T k x w∧(∀ i j,st i=some j→(L.getD i false=true ↔ j < k))∧(∀ i,L.getD i false=true→R i (x i)) ∧
  (∀ i o,ops[i]?=some o→L.getD i false=true→∀ e∈o.after,Region.binds .any e=true→L.getD e.on false=true)
section
variable (P:Program) (ops:Array Oper) (Q:Exit→Act→World→Prop) (fr:(Nat→Value)→Act) (R:Nat→Value→Prop) (T:Nat→(Nat→Value)→World→Prop)
def nN (i:Nat) (o:Oper):Prop :=
  ∀ k x wq,T k x wq→(∀ e∈o.after,Region.binds .any e=true→R e.on (x e.on))→∀ K':Act→World→Prop,Shut (∀ v,R i v→K' ((fr x).put o.dst v) wq) →
      if Region.wanted o (yielded ops (fr x).tmps)=true then Oper.wp P o (fr x) wq K' Q else K' ((fr x).put o.dst undef) wq
def lm (k:Nat) (i:Nat) (o:Oper):Prop :=
  ∀ x wq,T k x wq→(∀ e∈o.after,Region.binds .any e=true→R e.on (x e.on))→∀ K':Act→World→Prop,Shut (∀ v w',R i v→T (k+1) (upd x i v) w'→K' ((fr x).put o.dst v) w') →
      if Region.wanted o (yielded ops (fr x).tmps)=true then Oper.wp P o (fr x) wq K' Q else K' ((fr x).put o.dst undef) wq
end
section
variable {P:Program}{ops:Array Oper}{Q:Exit→Act→World→Prop}{fr:(Nat→Value)→Act}{R:Nat→Value→Prop}{T:Nat→(Nat→Value)→World→Prop}{st:Nat→Option Nat}{K:Nat}{id:Nat}{w:World}{x0:Nat→Value}
theorem iR {n:Nat}(hm:P.follows .mixedOrders=true) (hn:ops.size=n+1)
 (hput:∀ i o,ops[i]?=some o→i < n→∀ x v,(fr x).put o.dst v=fr (upd x i v))
 (hac:∀ i o,ops[i]?=some o→∀ e∈o.after,Region.binds .any e=true→e.on < i)
 (hreach:∀ j,j < n→∃ k o,j < k∧k≤n∧ops[k]?=some o∧∃ e∈o.after,Region.binds .any e=true∧e.on=j)
 (hst:∀ i j,st i=some j→i < n∧j < K)
 (hinj:∀ i i' j,st i=some j→st i'=some j→i=i')
 (hall:∀ j,j < K→∃ i,st i=some j)
 (hchain:∀ i o j,ops[i]?=some o→st i=some (j+1)→∃ e∈o.after,Region.binds .any e=true∧st e.on=some j)
 (hT:∀ k x i v w,st i=none→T k x w→T k (upd x i v) w)
 (h0:T 0 x0 w.drew)
 (hpure:∀ i o,ops[i]?=some o→i < n→st i=none→nN P ops Q fr R T i o)
 (hstage:∀ i o k,ops[i]?=some o→st i=some k→lm P ops Q fr R T k i o)
 (hlast:∀ o,ops[n]?=some o→∀ x wq,T K x wq→(∀ j,j < n→R j (x j))→∀ K':Act→World→Prop,Shut (∀ a' w',Q .normal a' w'→K' a' w') →
  if Region.wanted o (yielded ops (fr x).tmps)=true then Oper.wp P o (fr x) wq K' Q else K' ((fr x).put o.dst undef) wq) :
 (Code.region id ops true).wp P Q (fr x0) w:=by
 refine wp_region_any hm (kN (fun L a w'=>(L.getD n false=false∧zf ops fr R T st K L a w')∨((∀ i,i < ops.size→L.getD i false=true)∧Q .normal a w')) ?_ ?_ _ _ _ _ (by simp) ?_ ?_)
 ·rintro L a w1 i hs hi hcase
  obtain ⟨hun,o,ho,hall'⟩:=mem_ready.1 hi
  have hlt:i < L.size:=by
   rcases Nat.lt_or_ge i L.size with h | h
   ·exact h
   rw [Array.getD_eq_getD_getElem?,Array.getElem?_eq_none h] at hun;cases hun
  have hunf:L.getD i false=false:=by
   rw [Array.getD_eq_getD_getElem?,Array.getElem?_eq_getElem hlt] at hun ⊢;exact hun
  rcases hcase with ⟨hLn,x,k,rfl,hkK,hTk,hLk,hr,hcl⟩ | ⟨hdone,_⟩
  ·have hdep:∀ e∈o.after,Region.binds .any e=true→R e.on (x e.on):=fun e he hbd=>hr _ (hall' e he hbd)
   refine wpOp_step ho fun K' hK=>?_
   rcases Nat.lt_or_ge i n with hin | hin
   ·have hLn':(L.setIfInBounds i true).getD n false=false:=by
     rw [av hlt,hLn];simp;omega
    have hr':∀ v,R i v→∀ j,(L.setIfInBounds i true).getD j false=true→R j (upd x i v j):=by
     intro v hv j hj;by_cases h:j=i
     ·subst h;rw [eS];exact hv
     rw [bf _ _ h];rw [av hlt] at hj;exact hr j (by simpa [h] using hj)
    cases hsi:st i with
    | none =>
     refine hpure i o ho hin hsi k x w1 hTk hdep K' (fun v hRv=>hK _ _ (Or.inl ⟨hLn',upd x i v,k,hput i o ho hin x v,hkK,hT _ _ _ _ _ hsi hTk,fun i' j hj=>?_,hr' v hRv,nF hlt ho hall' hcl⟩));have hne:i'≠i:=by rintro rfl;rw [hsi] at hj;cases hj
     rw [av hlt,← hLk i' j hj];simp [hne]
    | some j0 =>
     have hk:k=j0:=by
      have h1:¬ j0 < k:=fun h=>by
       have:=(hLk i j0 hsi).2 h;rw [hunf] at this;cases this
      cases j0 with
      | zero=>omega
      | succ j =>
       obtain ⟨e,he,hbd,hse⟩:=hchain i o j ho hsi;have:=(hLk e.on j hse).1 (hall' e he hbd);omega
     subst hk;refine hstage i o k ho hsi x w1 hTk hdep K' (fun v w' hRv hTv=>hK _ _ (Or.inl ⟨hLn',upd x i v,k+1,hput i o ho hin x v,(hst i k hsi).2,hTv,fun i' j hj=>?_,hr' v hRv,nF hlt ho hall' hcl⟩));rw [av hlt];by_cases h:i'=i
     ·subst h
      rw [hsi] at hj;injection hj with hj;subst hj;simp
     have hjk:j≠k:=fun e=>h (hinj _ _ _ hj (by rw [e];exact hsi))
     rw [show (decide (i'=i) || L.getD i' false)=L.getD i' false by simp [h],hLk i' j hj];omega
   have e:i=n:=by omega
   subst e
   have hallj:∀ m j,j < i→i - j≤m→L.getD j false=true:=by
    intro m
    induction m with
    | zero=>intro j hj hm;omega
    | succ m ih =>
     intro j hj hm;obtain ⟨k,o',hjk,hk,ho',e,he,hbd,hea⟩:=hreach j hj;rcases Nat.lt_or_ge k i with h | h
     ·rw [← hea];exact hcl k o' ho' (ih k h (by omega)) e he hbd
     have e2:k=i:=by omega
     subst e2;rw [ho] at ho';injection ho' with ho';subst ho';rw [← hea];exact hall' e he hbd
   have hkk:k=K:=by
    rcases Nat.lt_or_ge k K with h | h
    ·obtain ⟨i',hi'⟩:=hall k h
     have:=(hLk i' k hi').1 (hallj (i - i') i' (hst i' k hi').1 Qr);omega
    omega
   subst hkk;refine hlast o ho x w1 hTk (fun j hj=>hr j (hallj (i - j) j hj Qr)) K' (fun a' w' hq=>hK _ _ (Or.inr ⟨fun j hj=>?_,hq⟩));rw [av hlt];by_cases h:j=i
   ·simp [h]
   rw [hallj (i - j) j (by omega) Qr];simp
  have:=hdone i (by omega);rw [hunf] at this;cases this
 ·rintro L a w1 hs hr0 (⟨hLn,x,k,rfl,hkK,hTk,hLk,hr,hcl⟩ | ⟨_,hq⟩)
  ·have hallL:∀ i,i < ops.size→L.getD i false=true:=by
    intro i
    induction i using Nat.strongRecOn with
    | ind i ih =>
     intro hi;cases h:L.getD i false
     ·exfalso
      have:i∈Region.ready .any ops L:=by
       refine mem_ready.2 ⟨?_,ops[i],Array.getElem?_eq_getElem hi,fun e he hbd=>?_⟩
       ·rw [Array.getD_eq_getD_getElem?,Array.getElem?_eq_getElem (by omega)] at h ⊢;exact h
       have h1:=hac i _ (Array.getElem?_eq_getElem hi) e he hbd;exact ih e.on h1 (by omega)
      rw [hr0] at this;cases this
     rfl
   have:=hallL n (by omega);rw [hLn] at this;cases this
  exact hq
 ·simp
 ·have hz:∀ j,(Array.replicate ops.size false).getD j false=false:=by
   intro j;rw [Array.getD_eq_getD_getElem?,Array.getElem?_replicate];split <;> rfl
  refine Or.inl ⟨hz n,x0,0,rfl,Nat.zero_le _,h0,fun i j hj=>?_,fun i h=>?_,fun i o _ h=>?_⟩
  ·rw [hz];simp
  ·rw [hz] at h;cases h
  rw [hz] at h;cases h
end
def stg (a K i:Nat):Option Nat:=if a≤i∧i < a+K then some (i - a) else none
theorem fj {a K i j:Nat}(h:stg a K i=some j):i=a+j∧j < K:=by
 unfold stg at h;split at h
 ·injection h with h;omega
 cases h
theorem ug {a K j:Nat}(h:j < K):stg a K (a+j)=some j:=by
 unfold stg;rw [if_pos (by omega)];congr 1;omega
theorem nO {a K i:Nat}(h:stg a K i=none):i < a∨a+K≤i:=by
 unfold stg at h;split at h
 ·cases h
 omega
section
variable {P:Program}{ops:Array Oper}{Q:Exit→Act→World→Prop}{fr:(Nat→Value)→Act}{R:Nat→Value→Prop}{T:Nat→(Nat→Value)→World→Prop}{K a:Nat}{id:Nat}{w:World}{x0:Nat→Value}
theorem cR {n:Nat}(hm:P.follows .mixedOrders=true) (hn:ops.size=n+1)
 (hput:∀ i o,ops[i]?=some o→i < n→∀ x v,(fr x).put o.dst v=fr (upd x i v))
 (hac:∀ i o,ops[i]?=some o→∀ e∈o.after,Region.binds .any e=true→e.on < i)
 (hreach:∀ j,j < n→∃ k o,j < k∧k≤n∧ops[k]?=some o∧∃ e∈o.after,Region.binds .any e=true∧e.on=j)
 (haK:a+K≤n)
 (hchain:∀ j o,j+1 < K→ops[a+(j+1)]?=some o→∃ e∈o.after,Region.binds .any e=true∧e.on=a+j)
 (hT:∀ k x i v w,i < a∨a+K≤i→T k x w→T k (upd x i v) w)
 (h0:T 0 x0 w.drew)
 (hpure:∀ i o,ops[i]?=some o→i < n→i < a∨a+K≤i→nN P ops Q fr R T i o)
 (hstage:∀ k o,k < K→ops[a+k]?=some o→lm P ops Q fr R T k (a+k) o)
 (hlast:∀ o,ops[n]?=some o→∀ x wq,T K x wq→(∀ j,j < n→R j (x j))→∀ K':Act→World→Prop,Shut (∀ a' w',Q .normal a' w'→K' a' w') →
  if Region.wanted o (yielded ops (fr x).tmps)=true then Oper.wp P o (fr x) wq K' Q else K' ((fr x).put o.dst undef) wq) :
 (Code.region id ops true).wp P Q (fr x0) w :=
 iR (R:=R) (T:=T) (st:=stg a K) (K:=K) hm hn hput hac hreach
  (fun i j h=>by obtain ⟨h1,h2⟩:=fj h;omega)
  (fun i i' j h h'=>by obtain ⟨h1,_⟩:=fj h;obtain ⟨h2,_⟩:=fj h';omega)
  (fun j h=>⟨a+j,ug h⟩)
  (fun i o j ho h=>by
   obtain ⟨rfl,h2⟩:=fj h;obtain ⟨e,he,hb,hon⟩:=hchain j o h2 ho
   exact ⟨e,he,hb,by rw [hon];exact ug (by omega)⟩)
  (fun k x i v w h=>hT k x i v w (nO h)) h0
  (fun i o ho hi h=>hpure i o ho hi (nO h))
  (fun i o k ho h=>by obtain ⟨rfl,h2⟩:=fj h;exact hstage k o h2 ho) hlast
end
section
variable {P:Program}{ops:Array Oper}{Q:Exit→Act→World→Prop}{fr:(Nat→Value)→Act}{R:Nat→Value→Prop}{T:Nat→(Nat→Value)→World→Prop}{id:Nat}{w:World}{x0:Nat→Value}
end
def VE (u:Value):Value→Prop:=fun v=>v=u
def VA:Value→Prop:=fun _=>True
structure RdL (B:Nat) (w:World) (gr:Nat) (s:PS) (A:Option Addr) (n c:Nat) (A':Option Addr) (n' c':Nat) (A'':Option Addr) (n'' c'':Nat):Prop where
  rd:RdP B w gr (af s.L.name) (.slice A n c) (.slice A' n' c') (.slice A'' n'' c'') s
  bd:ba 62 (BdC 130) 2 w B (.slice A n c) n s.L.bodies
  jt:ba 79 JtC 7 w B (.slice A' n' c') n' s.L.joints
  dr:ba 81 DrC 2 w B (.slice A'' n'' c'') n'' s.L.drivers
  nm:NmL s.L.name
  cnt:n+n'+n''+s.toks.length≤70000
  pts:∀ b∈s.L.bodies,b.pts.length≤70000
def ln (B:Nat) (w:World) (gr:Nat) (s:PS) (e:Ending) (w':World):Prop:=e=.returned (.tuple #[])∧(∃ A n c A' n' c' A'' n'' c'',RdL B w' gr s A n c A' n' c' A'' n'' c'')∧Below B w w'
section
variable {B:Nat}{w w':World}{gr:Nat}{c1 c2 c3 c4:Value}{s:PS}
theorem RdP.other {T:TypeId→Bool}(h:RdP B w gr c1 c2 c3 c4 s) (ht:Tch T w w') (hT:T 87=false) (hb:Below B w w'):RdP B w' gr c1 c2 c3 c4 s:=by
 obtain ⟨A,n,c,h1,h2⟩:=h.blk;exact ⟨⟨A,n,c,ht.2 gr _ _ _ h1 (.inl hT),h2.belB hb⟩,h.mx.belB hb,h.hB,h.len,h.txt,h.hw⟩
theorem RdP.put2 (h:RdP B w gr c1 c2 c3 c4 s) (v:Value) (hv:noW v=true) {s2:PS}(e1:s2.toks=s.toks) (e2:s2.x=s.x):RdP B (w.setCell ⟨gr,2,none⟩ v) gr c1 v c3 c4 s2:=by
 obtain ⟨A,n,c,h1,h2⟩:=h.blk;have hb:Below B w (w.setCell ⟨gr,2,none⟩ v):=(Below.refl B w).setCell (p:=⟨gr,2,none⟩) h.hB v;exact ⟨⟨A,n,c,by rw [e2];exact h1.s62 v,by rw [e1];exact h2.belB hb⟩,h.mx.belB hb,h.hB,by rw [e1];exact h.len,by rw [e1];exact h.txt,h.hw.1,hv,h.hw.2.2⟩
theorem RdP.put3 (h:RdP B w gr c1 c2 c3 c4 s) (v:Value) (hv:noW v=true) {s2:PS}(e1:s2.toks=s.toks) (e2:s2.x=s.x):RdP B (w.setCell ⟨gr,3,none⟩ v) gr c1 c2 v c4 s2:=by
 obtain ⟨A,n,c,h1,h2⟩:=h.blk;have hb:Below B w (w.setCell ⟨gr,3,none⟩ v):=(Below.refl B w).setCell (p:=⟨gr,3,none⟩) h.hB v;exact ⟨⟨A,n,c,by rw [e2];exact h1.s63 v,by rw [e1];exact h2.belB hb⟩,h.mx.belB hb,h.hB,by rw [e1];exact h.len,by rw [e1];exact h.txt,h.hw.1,h.hw.2.1,hv,h.hw.2.2.2⟩
theorem RdP.put4 (h:RdP B w gr c1 c2 c3 c4 s) (v:Value) (hv:noW v=true) {s2:PS}(e1:s2.toks=s.toks) (e2:s2.x=s.x):RdP B (w.setCell ⟨gr,4,none⟩ v) gr c1 c2 c3 v s2:=by
 obtain ⟨A,n,c,h1,h2⟩:=h.blk;have hb:Below B w (w.setCell ⟨gr,4,none⟩ v):=(Below.refl B w).setCell (p:=⟨gr,4,none⟩) h.hB v;exact ⟨⟨A,n,c,by rw [e2];exact h1.s64 v,by rw [e1];exact h2.belB hb⟩,h.mx.belB hb,h.hB,by rw [e1];exact h.len,by rw [e1];exact h.txt,h.hw.1,h.hw.2.1,h.hw.2.2.1,hv⟩
theorem RdP.put1 (h:RdP B w gr c1 c2 c3 c4 s) (v:Value) (hv:noW v=true) {s2:PS}(e1:s2.toks=s.toks) (e2:s2.x=s.x):RdP B (w.setCell ⟨gr,1,none⟩ v) gr v c2 c3 c4 s2:=by
 obtain ⟨A,n,c,h1,h2⟩:=h.blk;have hb:Below B w (w.setCell ⟨gr,1,none⟩ v):=(Below.refl B w).setCell (p:=⟨gr,1,none⟩) h.hB v;exact ⟨⟨A,n,c,by rw [e2];exact h1.s61 v,by rw [e1];exact h2.belB hb⟩,h.mx.belB hb,h.hB,by rw [e1];exact h.len,by rw [e1];exact h.txt,hv,h.hw.2⟩
theorem RdP.drew (h:RdP B w gr c1 c2 c3 c4 s):RdP B w.drew gr c1 c2 c3 c4 s:=⟨h.blk,h.mx,h.hB,h.len,h.txt,h.hw⟩
theorem RdP.cells (h:RdP B w gr c1 c2 c3 c4 s):w.cell? ⟨gr,1,none⟩=some c1∧w.cell? ⟨gr,2,none⟩=some c2∧w.cell? ⟨gr,3,none⟩=some c3∧w.cell? ⟨gr,4,none⟩=some c4∧w.frozen? ⟨gr,1,none⟩=false∧w.frozen? ⟨gr,2,none⟩=false∧w.frozen? ⟨gr,3,none⟩=false∧w.frozen? ⟨gr,4,none⟩=false:=by
 obtain ⟨A,n,c,hb,_⟩:=h.blk;obtain ⟨_,a1,a2,a3,a4,_⟩:=hb.c6;exact ⟨a1,a2,a3,a4,hb.frozen 1,hb.frozen 2,hb.frozen 3,hb.frozen 4⟩
def eI (t:TypeId):TypeId→Bool:=fun u=>u == t
theorem RdP.tchR (h:RdP B w gr c1 c2 c3 c4 s) (k:w.grownBy w' (some gr)):Tch (eI 87) w w':=h.tch k (by simp [eI])
end
theorem ie {α:Type}{T0:TypeId}{Pc:World→List Value→α→Prop}{sz B n:Nat}{w w5:World}{v v5:Value}{l:List α}{xs cs:List Value}{a:α}{o:Obj}(hl:l.length=n) (hown:OwJ noW w B T0 sz v n xs) (hrow:fQ Pc sz w l xs)
 (hm:Pc w cs a) (hcs:cs.length=sz) (hown5:OwJ noW w5 B T0 sz v5 (n+1) (xs ++ cs)) (hgrow:(w.alloc o).grownBy w5 v.ownBlock) (hB:B≤w.heap.size) (hPc:∀ w' cs a,Tch (eI T0) w w'→Pc w cs a→Pc w' cs a) :
 ba T0 Pc sz w5 B v5 (n+1) (l ++ [a])∧Tch (eI T0) w w5∧Below B w w5:=by
 have hownA:OwJ noW (w.alloc o) B T0 sz v n xs:=hown.belw ((Below.refl _ _).alloc Qr o);have ht:Tch (eI T0) w w5:=(Tch.below ((Below.refl _ _).alloc Qr o)).trans (Tch.grown (fun _ hu=>hu) (by simp [eI]) hownA hgrow);exact ⟨⟨by simp [hl],xs ++ cs,hown5,(hrow.map_ fun cs a x=>hPc _ _ _ ht x).snoc (hPc _ _ _ ht hm) hcs⟩,ht,((Below.refl B w).alloc hB o).grown hgrow (by simp;omega) (fun k hk=>(hown.at_ hk).1)⟩
def xA (B gr:Nat) (w:World) (c1 c2 c3 c4:Value) (s:PS) (b:ai) (v:Value) (wq:World):Prop :=
  ∃ A n c,v=.agg #[af b.name,.slice A n c]∧ks 130 wq A n c b.pts∧NmL b.name∧RdP B wq gr c1 c2 c3 c4 s∧w.grownBy wq (some gr)
def TB (B gr:Nat) (w:World) (c1 c2 c3 c4:Value) (s:PS) (b:ai) (n:Nat) (l:List ai):Nat→Value→Value→Value→World→Prop
  | 0,_,_,_,wq=>wq=w.drew
  | 1,v7,_,_,wq=>xA B gr w c1 c2 c3 c4 s b v7 wq
  | 2,_,v8,_,wq=>∃ w2 A n' c',xA B gr w c1 c2 c3 c4 s b (.agg #[af b.name,.slice A n' c']) w2∧v8=.slice (some ⟨w2.heap.size,0,none⟩) 1 1∧wq=w2.alloc (.cells #[af b.name,.slice A n' c'] 62)
  | 3,_,_,v9,wq=>∃ w2 v A5 c5,xA B gr w c1 c2 c3 c4 s b v w2∧v9=.slice A5 (n+1) c5∧ba 62 (BdC 130) 2 wq B v9 (n+1) (l ++ [b])∧Tch (eI 62) w2 wq∧Below B w2 wq
  | _,_,_,_,_=>False
theorem TB.rd {B gr:Nat}{w:World}{c1 c2 c3 c4:Value}{s0 s:PS}{b:ai}{n:Nat}{l:List ai}(h0:RdP B w gr c1 c2 c3 c4 s0):∀ {k:Nat}{v7 v8 v9:Value}{wq:World},TB B gr w c1 c2 c3 c4 s b n l k v7 v8 v9 wq→∃ s',RdP B wq gr c1 c2 c3 c4 s'
 | 0,_,_,_,_,h=>by
  have h:_=_:=h;rw [h];exact ⟨s0,⟨h0.blk,h0.mx,h0.hB,h0.len,h0.txt,h0.hw⟩⟩
 | 1,_,_,_,_,⟨_,_,_,_,_,_,h,_⟩=>⟨s,h⟩
 | 2,_,_,_,_,⟨w2,_,_,_,⟨_,_,_,_,_,_,h,_⟩,_,e⟩=>⟨s,by rw [e];exact h.alloc _⟩
 | 3,_,_,_,_,⟨w2,_,_,_,⟨_,_,_,_,_,_,h,_⟩,_,_,ht,hb⟩=>⟨s,h.other ht (by decide) hb⟩
 | _+4,_,_,_,_,h=>False.elim h
def TJ_ {α:Type}(T0:TypeId) (Pc:World→List Value→α→Prop) (sz:Nat) (B gj:Nat) (w:World) (cs:List Value) (a:α) (n:Nat) (l:List α):Nat→Value→Value→World→Prop
  | 0,_,_,wq=>wq=w.drew
  | 1,v7,_,wq=>v7=.slice (some ⟨w.heap.size,0,none⟩) 1 1∧wq=w.drew.alloc (.cells cs.toArray T0)
  | 2,_,v8,wq=>∃ A5 c5,v8=.slice A5 (n+1) c5∧ba T0 Pc sz wq B v8 (n+1) (l ++ [a])∧Blk wq gj T0 cs.toArray∧Tch (eI T0) w wq∧Below B w wq
  | _,_,_,_=>False
theorem TJ_.rd {α:Type}{T0:TypeId}{Pc:World→List Value→α→Prop}{sz B gj gr n:Nat}{w:World}{cs:List Value}{a:α}{l:List α}{c1 c2 c3 c4:Value}{s:PS}(hT:eI T0 87=false) (h0:RdP B w gr c1 c2 c3 c4 s):∀ {k:Nat}{v7 v8:Value}{wq:World},TJ_ T0 Pc sz B gj w cs a n l k v7 v8 wq→RdP B wq gr c1 c2 c3 c4 s
 | 0,_,_,_,h=>by
  have h:_=_:=h;rw [h];exact ⟨h0.blk,h0.mx,h0.hB,h0.len,h0.txt,h0.hw⟩
 | 1,_,_,_,⟨_,e⟩=>by
  rw [e];exact h0.drew.alloc _
 | 2,_,_,_,⟨_,_,_,_,_,ht,hb⟩=>h0.other ht hT hb
 | _+3,_,_,_,h=>False.elim h
theorem TJ_.blk {α:Type}{T0:TypeId}{Pc:World→List Value→α→Prop}{sz B gj n:Nat}{w:World}{cs:List Value}{a:α}{l:List α}(hb:Blk w gj T0 cs.toArray):∀ {k:Nat}{v7 v8:Value}{wq:World},TJ_ T0 Pc sz B gj w cs a n l k v7 v8 wq→Blk wq gj T0 cs.toArray
 | 0,_,_,_,h=>by
  have h:_=_:=h;rw [h];exact hb.drew
 | 1,_,_,_,⟨_,e⟩=>by rw [e];exact hb.drew.alloc _
 | 2,_,_,_,⟨_,_,_,_,h,_⟩=>h
 | _+3,_,_,_,h=>False.elim h
abbrev fr4 (u0 u1 u2 u3 u4 u5 u6 u7 u8 u9 u10 u11 u12 u26 u27 u28 u29 u30 u31 u32 u33 u34 u35 u36 u37 u38 u39 u40 u41 u42 u43 u44 u45 u46 u47 u48 u49 u50 u51 u52 u53 u54 u55 u56 u57 u58 u59 u60 u61 u62 u63 u64 u65 u66 u67 u68 u69 u70 u71 u72 u73 u74 u75 u76 u77 u78 u79 u80 u81 u82 u83 u84 u85 u86 u87 u88 u89 u90 u91 u92:Value) (xf:Nat→Value):Act:=⟨List.toArray (u0 :: u1 :: u2 :: u3 :: u4 :: u5 :: u6 :: u7 :: u8 :: u9 :: u10 :: u11 :: u12 :: xf 0 :: xf 1 :: xf 2 :: xf 3 :: xf 4 :: xf 5 :: xf 6 :: xf 7 :: xf 8 :: xf 9 :: xf 10 :: xf 11 :: xf 12 :: u26 :: u27 :: u28 :: u29 :: u30 :: u31 :: u32 :: u33 :: u34 :: u35 :: u36 :: u37 :: u38 :: u39 :: u40 :: u41 :: u42 :: u43 :: u44 :: u45 :: u46 :: u47 :: u48 :: u49 :: u50 :: u51 :: u52 :: u53 :: u54 :: u55 :: u56 :: u57 :: u58 :: u59 :: u60 :: u61 :: u62 :: u63 :: u64 :: u65 :: u66 :: u67 :: u68 :: u69 :: u70 :: u71 :: u72 :: u73 :: u74 :: u75 :: u76 :: u77 :: u78 :: u79 :: u80 :: u81 :: u82 :: u83 :: u84 :: u85 :: u86 :: u87 :: u88 :: u89 :: u90 :: u91 :: u92 :: []),[]⟩
abbrev bF (u0 u1 u2 u3 u4 u5 u6 u7 u8 u9 u10 u11 u12 u13 u14 u15 u16 u17 u18 u19 u20 u21 u22 u23 u24 u25 u26 u27 u28 u29 u30 u31 u32 u33 u34 u35 u36 u37 u38 u39 u40 u41 u42 u43 u44 u45 u46 u47 u48 u49 u50 u51 u52 u53 u54 u55 u56 u57 u58 u71 u72 u73 u74 u75 u76 u77 u78 u79 u80 u81 u82 u83 u84 u85 u86 u87 u88 u89 u90 u91 u92:Value) (xf:Nat→Value):Act:=⟨List.toArray (u0 :: u1 :: u2 :: u3 :: u4 :: u5 :: u6 :: u7 :: u8 :: u9 :: u10 :: u11 :: u12 :: u13 :: u14 :: u15 :: u16 :: u17 :: u18 :: u19 :: u20 :: u21 :: u22 :: u23 :: u24 :: u25 :: u26 :: u27 :: u28 :: u29 :: u30 :: u31 :: u32 :: u33 :: u34 :: u35 :: u36 :: u37 :: u38 :: u39 :: u40 :: u41 :: u42 :: u43 :: u44 :: u45 :: u46 :: u47 :: u48 :: u49 :: u50 :: u51 :: u52 :: u53 :: u54 :: u55 :: u56 :: u57 :: u58 :: xf 0 :: xf 1 :: xf 2 :: xf 3 :: xf 4 :: xf 5 :: xf 6 :: xf 7 :: xf 8 :: xf 9 :: xf 10 :: xf 11 :: u71 :: u72 :: u73 :: u74 :: u75 :: u76 :: u77 :: u78 :: u79 :: u80 :: u81 :: u82 :: u83 :: u84 :: u85 :: u86 :: u87 :: u88 :: u89 :: u90 :: u91 :: u92 :: []),[]⟩
abbrev dM (u0 u1 u2 u3 u4 u5 u6 u7 u8 u9 u10 u11 u12 u13 u14 u15 u16 u17 u18 u19 u20 u21 u22 u23 u24 u25 u26 u27 u28 u29 u30 u31 u32 u33 u34 u35 u36 u37 u38 u39 u40 u41 u42 u43 u44 u45 u46 u47 u48 u49 u50 u51 u52 u53 u54 u55 u56 u57 u58 u59 u60 u61 u62 u63 u64 u65 u66 u67 u68 u69 u70 u71 u72 u73 u74 u75 u76 u77 u78 u79 u80:Value) (xf:Nat→Value):Act:=⟨List.toArray (u0 :: u1 :: u2 :: u3 :: u4 :: u5 :: u6 :: u7 :: u8 :: u9 :: u10 :: u11 :: u12 :: u13 :: u14 :: u15 :: u16 :: u17 :: u18 :: u19 :: u20 :: u21 :: u22 :: u23 :: u24 :: u25 :: u26 :: u27 :: u28 :: u29 :: u30 :: u31 :: u32 :: u33 :: u34 :: u35 :: u36 :: u37 :: u38 :: u39 :: u40 :: u41 :: u42 :: u43 :: u44 :: u45 :: u46 :: u47 :: u48 :: u49 :: u50 :: u51 :: u52 :: u53 :: u54 :: u55 :: u56 :: u57 :: u58 :: u59 :: u60 :: u61 :: u62 :: u63 :: u64 :: u65 :: u66 :: u67 :: u68 :: u69 :: u70 :: u71 :: u72 :: u73 :: u74 :: u75 :: u76 :: u77 :: u78 :: u79 :: u80 :: xf 0 :: xf 1 :: xf 2 :: xf 3 :: xf 4 :: xf 5 :: xf 6 :: xf 7 :: xf 8 :: xf 9 :: xf 10 :: xf 11 :: []),[]⟩
theorem pf {α:Type}{T0:TypeId}{Pc:World→List Value→α→Prop}{sz base n g:Nat}{w:World}{v:Value}{l:List α}(h:ba T0 Pc sz w base v n l) (hg:w.heap.size≤g):some g≠v.ownBlock:=by
 intro e;obtain ⟨_,xs,hown,_⟩:=h;obtain ⟨_,cur,h2,_⟩:=hown.at_ e.symm;have:=lt_of_block h2;omega
theorem cY {B g:Nat}(w:World) (hB:B≤g) (i j:Nat) (u0 u1:Value):Below B w ((w.setCell ⟨g,i,none⟩ u0).setCell ⟨g,j,none⟩ u1) :=
 ((Below.refl B w).setCell (p:=⟨g,i,none⟩) hB u0).setCell (p:=⟨g,j,none⟩) hB u1
theorem mg (B:Nat) (w:World) (gr:Nat) (s:PS) (A:Option Addr) (n c:Nat) (A':Option Addr) (n' c':Nat) (A'':Option Addr) (n'' c'':Nat) (h:RdL B w gr s A n c A' n' c' A'' n'' c'') (hw1:s.word.1=jS):Calls Tryz.prog 41 #[.pointer (some ⟨gr,0,none⟩)] w (ln B w gr s.item):=by
 have HW1:=Qh hw1;have hb0:(s.word.1 == [98,111,100,121])=true:=by rw [hw1];decide
 clear hw1;obtain ⟨i0,hi0,hz0,hz1,hz2⟩:=info_parts gZ;obtain ⟨ij,hj0,hj1,hj2,hj3⟩:=info_parts hH;obtain ⟨id,hd0,hd1,hd2,hd3⟩:=info_parts ia;have HI:=Qh (And.intro hi0 (And.intro hz0 (And.intro hz1 hz2)));have HIJ:=Qh (And.intro hj0 (And.intro hj1 (And.intro hj2 hj3)));have HID:=Qh (And.intro hd0 (And.intro hd1 (And.intro hd2 hd3)));clear hi0 hz0 hz1 hz2 hj0 hj1 hj2 hj3 hd0 hd1 hd2 hd3;have HL1:=Qh (aq s).2.2.2;have HL2:=Qh ((aq s).trans (aq s.word.2)).2.2.2;have HP:=Qh h;obtain ⟨W,hW⟩:∃ W,s.item=W:=⟨_,rfl⟩;rw [hW];have HW:=Qh hW;clear h hW;go_in;go_wp2_with fail;(with_reducible refine (bW B _ gr (af s.L.name) (.slice A n c) (.slice A' n' c') (.slice A'' n'' c'') s HP.out.rd).mono ?_);rintro e w1 ⟨rfl,h1,hg1⟩;have H1:=Qh h1;have hgl:=h1.lt;have BW1:=Qh (dC hg1 (B:=B) (by have:=HP.out.rd.lt;have:=HP.out.rd.hB;omega) HP.out.rd.hB);have t0:=HP.out.rd.tchR hg1;have BD1:=Qh (HP.out.bd.tch t0 (by decide) (fun _ _ x=>x.tch t0 (by decide)));have JT1:=Qh (HP.out.jt.tch t0 (by decide) (fun _ _ x=>x));have DR1:=Qh (HP.out.dr.tch t0 (by decide) (fun _ _ x=>x));obtain ⟨Ak,nk,ck,hbk,_⟩:=h1.blk;have HBk:=Qh hbk;clear h1 hg1 t0 hbk;have hn:=aN s.word.1;go_wp2_with fail;change Code.wp _ _ _ (fr4 _ _ _ _ _ _ _ _ _ _ _ _ _ _ _ _ _ _ _ _ _ _ _ _ _ _ _ _ _ _ _ _ _ _ _ _ _ _ _ _ _ _ _ _ _ _ _ _ _ _ _ _ _ _ _ _ _ _ _ _ _ _ _ _ _ _ _ _ _ _ _ _ _ _ _ _ _ _ _ _ (fun _=>undef)) _;refine cR (n:=13) (a:=7) (K:=3) (x0:=fun _=>undef) (R:=fun ri=>List.getD ((VE (.pointer (some ⟨gr,0,none⟩))) :: (VE (.pointer (some ⟨gr,0,none⟩))) :: (VE (.pointer (some ⟨gr,0,none⟩))) :: (VE (.pointer (some ⟨gr,1,none⟩))) :: (VE (.pointer (some ⟨gr,2,none⟩))) :: (VE (.slice A n c)) :: (VE (.pointer (some ⟨gr,0,none⟩))) :: VA :: VA :: VA :: (VE (.pointer (some ⟨gr,0,none⟩))) :: (VE (.pointer (some ⟨gr,1,none⟩))) :: (VE (.pointer (some ⟨gr,2,none⟩))) :: []) ri VA) (T:=fun k x wq=>TB B gr w1 (af s.L.name) (.slice A n c) (.slice A' n' c') (.slice A'' n'' c'') s.word.2.body.2 s.word.2.body.1 n s.L.bodies k (x 7) (x 8) (x 9) wq) (by kernel_rfl) rfl ?_ ?_ ?_ (by decide) ?_ ?_ rfl ?_ ?_ ?_
 ·exact bM ⟨(fun _ _ _=>rfl),(fun _ _ _=>rfl),(fun _ _ _=>rfl),(fun _ _ _=>rfl),(fun _ _ _=>rfl),(fun _ _ _=>rfl),(fun _ _ _=>rfl),(fun _ _ _=>rfl),(fun _ _ _=>rfl),(fun _ _ _=>rfl),(fun _ _ _=>rfl),(fun _ _ _=>rfl),(fun _ _ _=>rfl),(fun h=>absurd h (by decide)),trivial⟩
 ·exact bM (dS _ 0 (by kernel_rfl))
 ·exact (fun j hj=>gV (by kernel_rfl) hj)
 ·intro j o hj ho
  obtain rfl | rfl:j=0∨j=1:=by omega
  ·injection ho with ho
   subst ho;exact ⟨⟨7,.data⟩,by simp,rfl,rfl⟩
  injection ho with ho;subst ho;exact ⟨⟨8,.data⟩,by simp,rfl,rfl⟩
 ·intro k x i v w hi h
  have e7:upd x i v 7=x 7:=bf _ _ (by omega);have e8:upd x i v 8=x 8:=bf _ _ (by omega);have e9:upd x i v 9=x 9:=bf _ _ (by omega);simp only [e7,e8,e9];exact h
 ·refine bM ⟨?_,?_,?_,?_,?_,?_,?_,(fun _ h=>absurd h (by decide)),(fun _ h=>absurd h (by decide)),(fun _ h=>absurd h (by decide)),?_,?_,?_,(fun h=>absurd h (by decide)),trivial⟩
  ·intro _ _ k xf wq hT hd K hK
   (try dsimp only [fr4]);go_simp;have hz:=hK.out _ rfl;exact hz
  ·intro _ _ k xf wq hT hd K hK
   (try dsimp only [fr4]);go_simp;have hz:=hK.out _ rfl;exact hz
  ·intro _ _ k xf wq hT hd K hK
   have dq1:xf 1=.pointer (some ⟨gr,0,none⟩):=hd ⟨1,.data⟩ (by simp) rfl;(try dsimp only [fr4]);(try simp only [dq1]);go_simp;have hz:=hK.out _ rfl;dsimp only [fr4] at hz;simp only [dq1] at hz;exact hz
  ·intro _ _ k xf wq hT hd K hK
   have dq2:xf 2=.pointer (some ⟨gr,0,none⟩):=hd ⟨2,.data⟩ (by simp) rfl;(try dsimp only [fr4]);(try simp only [dq2]);go_simp;have hz:=hK.out _ rfl;dsimp only [fr4] at hz;simp only [dq2] at hz;exact hz
  ·intro _ _ k xf wq hT hd K hK
   have dq3:xf 3=.pointer (some ⟨gr,1,none⟩):=hd ⟨3,.data⟩ (by simp) rfl;(try dsimp only [fr4]);(try simp only [dq3]);go_simp;have hz:=hK.out _ rfl;dsimp only [fr4] at hz;simp only [dq3] at hz;exact hz
  ·intro _ _ k xf wq hT hd K hK
   have dq4:xf 4=.pointer (some ⟨gr,2,none⟩):=hd ⟨4,.data⟩ (by simp) rfl;obtain ⟨sz,hRz⟩:=TB.rd H1.out hT;obtain ⟨_,hc2,_⟩:=hRz.cells;(try dsimp only [fr4]);(try simp only [dq4]);go_simp;have hz:=hK.out _ rfl;dsimp only [fr4] at hz;simp only [dq4] at hz;exact hz
  ·intro _ _ k xf wq hT hd K hK
   (try dsimp only [fr4]);go_simp;have hz:=hK.out _ rfl;exact hz
  ·intro _ _ k xf wq hT hd K hK
   have dq0:xf 0=.pointer (some ⟨gr,0,none⟩):=hd ⟨0,.data⟩ (by simp) rfl;(try dsimp only [fr4]);(try simp only [dq0]);go_simp;have hz:=hK.out _ rfl;dsimp only [fr4] at hz;simp only [dq0] at hz;exact hz
  ·intro _ _ k xf wq hT hd K hK
   have dq10:xf 10=.pointer (some ⟨gr,0,none⟩):=hd ⟨10,.data⟩ (by simp) rfl;(try dsimp only [fr4]);(try simp only [dq10]);go_simp;have hz:=hK.out _ rfl;dsimp only [fr4] at hz;simp only [dq10] at hz;exact hz
  intro _ _ k xf wq hT hd K hK;have dq11:xf 11=.pointer (some ⟨gr,1,none⟩):=hd ⟨11,.data⟩ (by simp) rfl;(try dsimp only [fr4]);(try simp only [dq11]);go_simp;have hz:=hK.out _ rfl;dsimp only [fr4] at hz;simp only [dq11] at hz;exact hz
 ·intro k o hk ho
  obtain rfl | rfl | rfl:=(show k=0∨k=1∨k=2 by omega)
  ·injection ho with ho
   subst ho;intro xf wq hT hd K hK;have dq6:xf 6=.pointer (some ⟨gr,0,none⟩):=hd ⟨6,.data⟩ (by simp) rfl;have hT:wq=w1.drew:=hT;subst hT;(try dsimp only [fr4]);(try simp only [dq6]);go_simp;go_at_call 72;(with_reducible refine (vI B _ gr (af s.L.name) (.slice A n c) (.slice A' n' c') (.slice A'' n'' c'') s.word.2 H1.out.drew).mono ?_);rintro e wr ⟨A3,n3,c3,rfl,hm,hnm,hr,hg⟩;have hz:=hK.out _ _ trivial ⟨A3,n3,c3,rfl,hm,hnm,hr,ay (vF (rg_refl gr w1)) hg⟩;dsimp only [fr4] at hz;simp only [dq6] at hz;exact hz
  ·injection ho with ho
   subst ho;intro xf wq hT hd K hK;obtain ⟨A3,n3,c3,e7,hm,hnm,hr,hg⟩:TB B gr w1 (af s.L.name) (.slice A n c) (.slice A' n' c') (.slice A'' n'' c'') s.word.2.body.2 s.word.2.body.1 n s.L.bodies 1 (xf 7) (xf 8) (xf 9) wq:=hT;(try dsimp only [fr4]);(try simp only [e7]);go_simp;have hz:=hK.out (.slice (some ⟨wq.heap.size,0,none⟩) 1 1) (wq.alloc (.cells #[af s.word.2.body.1.name,.slice A3 n3 c3] 62)) trivial ⟨wq,A3,n3,c3,⟨A3,n3,c3,rfl,hm,hnm,hr,hg⟩,rfl,rfl⟩;dsimp only [fr4] at hz;simp only [e7] at hz;exact hz
  injection ho with ho;subst ho;intro xf wq hT hd K hK;obtain ⟨w2,A3,n3,c3,⟨A4,n4,c4,e4,hm,hnm,hr,hg⟩,e8,ew⟩:TB B gr w1 (af s.L.name) (.slice A n c) (.slice A' n' c') (.slice A'' n'' c'') s.word.2.body.2 s.word.2.body.1 n s.L.bodies 2 (xf 7) (xf 8) (xf 9) wq:=hT;subst ew;cases e4;have dq5:xf 5=.slice A n c:=hd ⟨5,.data⟩ (by simp) rfl;obtain ⟨hl,xs,hown,hrow⟩:=BD1.out.rgt HBk.out (by decide) hg (fun _ _ x=>x.tch (H1.out.tchR hg) (by decide));have hlt:=hr.lt;have hBg:=hr.hB;rw [if_pos (show Region.wanted _ _=true from rfl)];refine dG _ noW _ _ _ rfl B 62 i0 (.agg #[.string ⟨#[]⟩,.slice none 0 0]) 2 40 Tryz.underlying32 HI.out.1 HI.out.2.1 HI.out.2.2.1 HI.out.2.2.2 rfl (by omega) rfl (.slice A n c) n xs dq5 (hown.belw ((Below.refl _ _).alloc Qr _)) ⟨w2.heap.size,0,none⟩ 1 1 [af s.word.2.body.1.name,.slice A3 n3 c3] e8 rfl (World.news_of_block (heap_alloc_new w2 _)) (by simp [Value.oneCell']) rfl (by omega) (by have:=HP.out.cnt;unfold maxLen;omega) (by have:=HP.out.cnt;omega) (by simp;omega) ?_;intro g5 cap w5 hown5 hgrow _;have hp:=ie hl hown hrow (a:=s.word.2.body.1) (cs:=[af s.word.2.body.1.name,.slice A3 n3 c3]) ⟨A3,n3,c3,rfl,hm,hnm⟩ rfl hown5 hgrow (by omega) (fun _ _ _ ht x=>x.tch ht (by decide));exact hK.out _ _ trivial ⟨w2,_,some ⟨g5,0,none⟩,cap,⟨A3,n3,c3,rfl,hm,hnm,hr,hg⟩,rfl,hp.1,hp.2.1,hp.2.2⟩
 intro o ho xf wq hT hr K hK;injection ho with ho;subst ho;obtain ⟨w2,v,A5,c5,⟨A4,n4,c4,e4,hm,hnm,hrd,hg⟩,e9,hrow,ht,hb⟩:TB B gr w1 (af s.L.name) (.slice A n c) (.slice A' n' c') (.slice A'' n'' c'') s.word.2.body.2 s.word.2.body.1 n s.L.bodies 3 (xf 7) (xf 8) (xf 9) wq:=hT;have dq12:xf 12=.pointer (some ⟨gr,2,none⟩):=hr 12 (by decide);have RQ:=hrd.other ht (by decide) hb;obtain ⟨_,hc2,_,_,_,hf2,_⟩:=RQ.cells;rw [e9] at hrow;have RQ':=Qh RQ;have HROW:=Qh hrow;clear RQ hrow hrd hm hnm hr;(try dsimp only [fr4]);(try simp only [dq12,e9]);go_simp;refine hK.out _ _ ?_;go_wp2_with fail;go_end0;have t1:=H1.out.tchR hg;have t3:=RQ'.out.tchR (dB (rg_refl gr wq) 2 (.slice A5 (n+1) c5));have hst:=nI s.word.2;have hL:s.word.2.body.2.L=s.L:=((aq s).trans hst).2.2.2;have htk:=fH (s:=s) (by rw [HW1.out];decide);have eW:W=s.word.2.body.2.addB s.word.2.body.1:=by rw [← HW.out];unfold PS.item;rw [if_pos HW1.out]
 subst eW;refine ⟨rfl,⟨A5,n+1,c5,A',n',c',A'',n'',c'',⟨?_,?_,?_,?_,?_,?_,?_⟩⟩,?_⟩
 ·show RdP B _ gr (af s.word.2.body.2.L.name) _ _ _ _
  rw [hL];exact RQ'.out.put2 _ rfl rfl rfl
 ·show ba _ _ _ _ _ _ _ (s.word.2.body.2.L.bodies ++ [s.word.2.body.1])
  rw [hL];exact HROW.out.tch t3 (by decide) (fun _ _ x=>x.tch t3 (by decide))
 ·show ba _ _ _ _ _ _ _ s.word.2.body.2.L.joints
  rw [hL];exact ((JT1.out.tch t1 (by decide) (fun _ _ x=>x)).tch ht (by decide) (fun _ _ x=>x)).tch t3 (by decide) (fun _ _ x=>x)
 ·show ba _ _ _ _ _ _ _ s.word.2.body.2.L.drivers
  rw [hL];exact ((DR1.out.tch t1 (by decide) (fun _ _ x=>x)).tch ht (by decide) (fun _ _ x=>x)).tch t3 (by decide) (fun _ _ x=>x)
 ·show NmL s.word.2.body.2.L.name
  rw [hL];exact HP.out.nm
 ·show n+1+n'+n''+s.word.2.body.2.toks.length≤_
  have h1:=HP.out.cnt;have h2:=hst.1;omega
 ·intro b hbm
  have hbm:b∈s.word.2.body.2.L.bodies ++ [s.word.2.body.1]:=hbm;rw [hL] at hbm;rcases List.mem_append.1 hbm with hbm | hbm
  ·exact HP.out.pts b hbm
  simp at hbm;subst hbm;have h1:=ua s.word.2;have h2:=H1.out.len;omega
 exact ((BW1.out.trans (dC hg (by have:=H1.out.lt;have:=H1.out.hB;omega) H1.out.hB)).trans hb).setCell (p:=⟨gr,2,none⟩) H1.out.hB _
theorem nP (B:Nat) (w:World) (gr:Nat) (s:PS) (A:Option Addr) (n c:Nat) (A':Option Addr) (n' c':Nat) (A'':Option Addr) (n'' c'':Nat) (h:RdL B w gr s A n c A' n' c' A'' n'' c'') (hw1:s.word.1=rE):Calls Tryz.prog 41 #[.pointer (some ⟨gr,0,none⟩)] w (ln B w gr s.item):=by
 have HW1:=Qh hw1;have hb0:(s.word.1 == [98,111,100,121])=false:=by rw [hw1];decide
 have hb1:(s.word.1 == [112,105,110])=true:=by rw [hw1];decide
 have hb2:(s.word.1 == [115,108,105,100,101])=false:=by rw [hw1];decide
 clear hw1;obtain ⟨i0,hi0,hz0,hz1,hz2⟩:=info_parts gZ;obtain ⟨ij,hj0,hj1,hj2,hj3⟩:=info_parts hH;obtain ⟨id,hd0,hd1,hd2,hd3⟩:=info_parts ia;have HI:=Qh (And.intro hi0 (And.intro hz0 (And.intro hz1 hz2)));have HIJ:=Qh (And.intro hj0 (And.intro hj1 (And.intro hj2 hj3)));have HID:=Qh (And.intro hd0 (And.intro hd1 (And.intro hd2 hd3)));clear hi0 hz0 hz1 hz2 hj0 hj1 hj2 hj3 hd0 hd1 hd2 hd3;have HL1:=Qh (aq s).2.2.2;have HL2:=Qh ((aq s).trans (aq s.word.2)).2.2.2;have HP:=Qh h;obtain ⟨W,hW⟩:∃ W,s.item=W:=⟨_,rfl⟩;rw [hW];have HW:=Qh hW;clear h hW;go_in;go_wp2_with fail;(with_reducible refine (bW B _ gr (af s.L.name) (.slice A n c) (.slice A' n' c') (.slice A'' n'' c'') s HP.out.rd).mono ?_);rintro e w1 ⟨rfl,h1,hg1⟩;have H1:=Qh h1;have hgl:=h1.lt;have BW1:=Qh (dC hg1 (B:=B) (by have:=HP.out.rd.lt;have:=HP.out.rd.hB;omega) HP.out.rd.hB);have t0:=HP.out.rd.tchR hg1;have BD1:=Qh (HP.out.bd.tch t0 (by decide) (fun _ _ x=>x.tch t0 (by decide)));have JT1:=Qh (HP.out.jt.tch t0 (by decide) (fun _ _ x=>x));have DR1:=Qh (HP.out.dr.tch t0 (by decide) (fun _ _ x=>x));obtain ⟨Ak,nk,ck,hbk,_⟩:=h1.blk;have HBk:=Qh hbk;clear h1 hg1 t0 hbk;have hn:=aN s.word.1;go_wp2_with fail;(with_reducible refine (bW B _ gr (af s.L.name) (.slice A n c) (.slice A' n' c') (.slice A'' n'' c'') s.word.2 H1.out).mono ?_);rintro e w2 ⟨rfl,h2,hg2⟩;have H2:=Qh h2;have hlj:=h2.lt;have hw2:=hg2.size;have HNM:=Qh (eH H1.out.txt);clear h2;go_wp2_with fail;(with_reducible refine (ic B _ gr (af s.L.name) (.slice A' n' c') (.slice A'' n'' c'') A n c s.word.2.word.2 (H2.out.alloc _) (by rw [HL2.out];exact H1.out.bodies BD1.out (bc hg2 _)) (by have:=HP.out.cnt;omega) (by rw [HL2.out];exact fun b hb=>Nat.le_trans (HP.out.pts b hb) (by decide)) (-1)).mono ?_);rintro e w3 ⟨rfl,h3,hg3⟩;have hsa:=cG s.word.2.word.2 (-1);generalize hfa:s.word.2.word.2.full (-1)=fa at h3 hsa ⊢;have HFA:=Qh hfa;have HSA:=Qh ((aq s.word.2).trans hsa);clear hfa hsa;have G3:=ay (bc hg2 _) hg3;have p3:Blk w3 w2.heap.size 79 #[af s.word.2.word.1,.int .i64 0,.int .i64 0,.int .i64 0,.int .i64 0,.int .i64 0,.int .i64 0]:=bD hg3 (Blk.new _ _ _) (by omega);have hl3:=p3.lt;have H3:=Qh h3;generalize hgj:w2.heap.size=gj at hlj hw2 p3 hl3 ⊢;have HNE:=Qh (pf JT1.out (g:=gj) (by omega));clear hgj hg3 h3 hg2 H2;obtain ⟨cj0,cj1,cj2,cj3,cj4,cj5,cj6⟩:=p3.c7;obtain ⟨fj0,fj1,fj2,fj3,fj4,fj5,fj6⟩:=p3.f7;have P3:=Qh p3;clear p3;go_wp2_with fail;clear cj0 cj1 cj2 cj3 cj4 cj5 cj6 fj0 fj1 fj2 fj3 fj4 fj5 fj6;have B3:=cY w3 hlj 2 3 (.int .i64 fa.1) (.int .i64 fa.2.1);have G3':=cH G3 (cY w3 hw2 2 3 (.int .i64 fa.1) (.int .i64 fa.2.1));(with_reducible refine (ic B _ gr (af s.L.name) (.slice A' n' c') (.slice A'' n'' c'') A n c fa.2.2 (H3.out.bel1 B3) (by rw [HSA.out.sameL,HL1.out];exact H1.out.bodies BD1.out G3') (by have:=HP.out.cnt;omega) (by rw [HSA.out.sameL,HL1.out];exact fun b hb=>Nat.le_trans (HP.out.pts b hb) (by decide)) (-1)).mono ?_);rintro e w4 ⟨rfl,h4,hg4⟩;have hsb:=cG fa.2.2 (-1);generalize hfb:fa.2.2.full (-1)=fb at h4 hsb ⊢;have HFB:=Qh hfb;have HSB:=Qh (HSA.out.trans hsb);clear hfb hsb;have G4:=ay G3' hg4;have p4:=bD hg4 ((P3.out.set_ 2 (.int .i64 fa.1)).set_ 3 (.int .i64 fa.2.1)) (by omega);have p4:=p4;have H4:=Qh h4;have hl4:=p4.lt;obtain ⟨cj0,cj1,cj2,cj3,cj4,cj5,cj6⟩:=p4.c7;obtain ⟨fj0,fj1,fj2,fj3,fj4,fj5,fj6⟩:=p4.f7;have P4:=Qh p4;clear p4 h4 hg4 G3 G3' B3 P3 H3 hl3;go_wp2_with fail;clear cj0 cj1 cj2 cj3 cj4 cj5 cj6 fj0 fj1 fj2 fj3 fj4 fj5 fj6;(with_reducible refine (dh B _ gr (af s.L.name) (.slice A n c) (.slice A' n' c') (.slice A'' n'' c'') fb.2.2 (H4.out.bel1 (cY w4 hlj 4 5 (.int .i64 fb.1) (.int .i64 fb.2.1))) [59]).mono ?_);rintro e w6 ⟨rfl,h6,hg6⟩;have G6:=Qh (ay (cH G4 (cY w4 hw2 4 5 (.int .i64 fb.1) (.int .i64 fb.2.1))) hg6);have p6:=bD hg6 ((P4.out.set_ 4 (.int .i64 fb.1)).set_ 5 (.int .i64 fb.2.1)) (by omega);have H6:=Qh h6;have P6:=Qh p6;have HC:=Qh (show JtC w6 [af s.word.2.word.1,.int .i64 0,.int .i64 fa.1,.int .i64 fa.2.1,.int .i64 fb.1,.int .i64 fb.2.1,.int .i64 0] ⟨s.word.2.word.1,0,fa.1,fa.2.1,fb.1,fb.2.1,0⟩ from ⟨rfl,HNM.out⟩);have JT6:=Qh (JT1.out.tch (H1.out.tchR G6.out) (by decide) (fun _ _ x=>x));clear h6 hg6 p6;go_wp2_with fail;change Code.wp _ _ _ (bF _ _ _ _ _ _ _ _ _ _ _ _ _ _ _ _ _ _ _ _ _ _ _ _ _ _ _ _ _ _ _ _ _ _ _ _ _ _ _ _ _ _ _ _ _ _ _ _ _ _ _ _ _ _ _ _ _ _ _ _ _ _ _ _ _ _ _ _ _ _ _ _ _ _ _ _ _ _ _ _ _ (fun _=>undef)) _;refine cR (n:=12) (a:=7) (K:=2) (x0:=fun _=>undef) (R:=fun ri=>List.getD ((VE (.pointer (some ⟨gr,0,none⟩))) :: (VE (.pointer (some ⟨gr,0,none⟩))) :: (VE (.pointer (some ⟨gr,0,none⟩))) :: (VE (.pointer (some ⟨gr,1,none⟩))) :: (VE (.pointer (some ⟨gr,3,none⟩))) :: (VE (.slice A' n' c')) :: (VE (.agg #[af s.word.2.word.1,.int .i64 0,.int .i64 fa.1,.int .i64 fa.2.1,.int .i64 fb.1,.int .i64 fb.2.1,.int .i64 0])) :: VA :: VA :: (VE (.pointer (some ⟨gr,0,none⟩))) :: (VE (.pointer (some ⟨gr,1,none⟩))) :: (VE (.pointer (some ⟨gr,3,none⟩))) :: []) ri VA) (T:=fun k x wq=>TJ_ 79 JtC 7 B gj w6 [af s.word.2.word.1,.int .i64 0,.int .i64 fa.1,.int .i64 fa.2.1,.int .i64 fb.1,.int .i64 fb.2.1,.int .i64 0] ⟨s.word.2.word.1,0,fa.1,fa.2.1,fb.1,fb.2.1,0⟩ n' s.L.joints k (x 7) (x 8) wq) (by kernel_rfl) rfl ?_ ?_ ?_ (by decide) ?_ ?_ rfl ?_ ?_ ?_
 ·exact bM ⟨(fun _ _ _=>rfl),(fun _ _ _=>rfl),(fun _ _ _=>rfl),(fun _ _ _=>rfl),(fun _ _ _=>rfl),(fun _ _ _=>rfl),(fun _ _ _=>rfl),(fun _ _ _=>rfl),(fun _ _ _=>rfl),(fun _ _ _=>rfl),(fun _ _ _=>rfl),(fun _ _ _=>rfl),(fun h=>absurd h (by decide)),trivial⟩
 ·exact bM (dS _ 0 (by kernel_rfl))
 ·exact (fun j hj=>gV (by kernel_rfl) hj)
 ·intro j o hj ho
  obtain rfl:j=0:=by omega
  injection ho with ho;subst ho;exact ⟨⟨7,.data⟩,by simp,rfl,rfl⟩
 ·intro k x i v w hi h
  have e7:upd x i v 7=x 7:=bf _ _ (by omega);have e8:upd x i v 8=x 8:=bf _ _ (by omega);simp only [e7,e8];exact h
 ·refine bM ⟨?_,?_,?_,?_,?_,?_,?_,(fun _ h=>absurd h (by decide)),(fun _ h=>absurd h (by decide)),?_,?_,?_,(fun h=>absurd h (by decide)),trivial⟩
  ·intro _ _ k xf wq hT hd K hK
   (try dsimp only [bF]);go_simp;have hz:=hK.out _ rfl;exact hz
  ·intro _ _ k xf wq hT hd K hK
   (try dsimp only [bF]);go_simp;have hz:=hK.out _ rfl;exact hz
  ·intro _ _ k xf wq hT hd K hK
   have dq1:xf 1=.pointer (some ⟨gr,0,none⟩):=hd ⟨1,.data⟩ (by simp) rfl;(try dsimp only [bF]);(try simp only [dq1]);go_simp;have hz:=hK.out _ rfl;dsimp only [bF] at hz;simp only [dq1] at hz;exact hz
  ·intro _ _ k xf wq hT hd K hK
   have dq2:xf 2=.pointer (some ⟨gr,0,none⟩):=hd ⟨2,.data⟩ (by simp) rfl;(try dsimp only [bF]);(try simp only [dq2]);go_simp;have hz:=hK.out _ rfl;dsimp only [bF] at hz;simp only [dq2] at hz;exact hz
  ·intro _ _ k xf wq hT hd K hK
   have dq3:xf 3=.pointer (some ⟨gr,1,none⟩):=hd ⟨3,.data⟩ (by simp) rfl;(try dsimp only [bF]);(try simp only [dq3]);go_simp;have hz:=hK.out _ rfl;dsimp only [bF] at hz;simp only [dq3] at hz;exact hz
  ·intro _ _ k xf wq hT hd K hK
   have dq4:xf 4=.pointer (some ⟨gr,3,none⟩):=hd ⟨4,.data⟩ (by simp) rfl;have hc2:=(TJ_.rd (by decide) H6.out hT).cells;obtain ⟨_,hc2,hc3,hc4,_⟩:=hc2;(try dsimp only [bF]);(try simp only [dq4]);go_simp;have hz:=hK.out _ rfl;dsimp only [bF] at hz;simp only [dq4] at hz;exact hz
  ·intro _ _ k xf wq hT hd K hK
   obtain ⟨hd0,hd1,hd2,hd3,hd4,hd5,hd6⟩:=(TJ_.blk P6.out hT).c7;(try dsimp only [bF]);go_simp;have hz:=hK.out _ rfl;exact hz
  ·intro _ _ k xf wq hT hd K hK
   have dq0:xf 0=.pointer (some ⟨gr,0,none⟩):=hd ⟨0,.data⟩ (by simp) rfl;(try dsimp only [bF]);(try simp only [dq0]);go_simp;have hz:=hK.out _ rfl;dsimp only [bF] at hz;simp only [dq0] at hz;exact hz
  ·intro _ _ k xf wq hT hd K hK
   have dq9:xf 9=.pointer (some ⟨gr,0,none⟩):=hd ⟨9,.data⟩ (by simp) rfl;(try dsimp only [bF]);(try simp only [dq9]);go_simp;have hz:=hK.out _ rfl;dsimp only [bF] at hz;simp only [dq9] at hz;exact hz
  intro _ _ k xf wq hT hd K hK;have dq10:xf 10=.pointer (some ⟨gr,1,none⟩):=hd ⟨10,.data⟩ (by simp) rfl;(try dsimp only [bF]);(try simp only [dq10]);go_simp;have hz:=hK.out _ rfl;dsimp only [bF] at hz;simp only [dq10] at hz;exact hz
 ·intro k o hk ho
  obtain rfl | rfl:=(show k=0∨k=1 by omega)
  ·injection ho with ho
   subst ho;intro xf wq hT hd K hK;have hT:wq=w6.drew:=hT;subst hT;have dq6:xf 6=.agg #[af s.word.2.word.1,.int .i64 0,.int .i64 fa.1,.int .i64 fa.2.1,.int .i64 fb.1,.int .i64 fb.2.1,.int .i64 0]:=hd ⟨6,.data⟩ (by simp) rfl;(try dsimp only [bF]);(try simp only [dq6]);go_simp;have hz:=hK.out (.slice (some ⟨w6.heap.size,0,none⟩) 1 1) (w6.drew.alloc (.cells #[af s.word.2.word.1,.int .i64 0,.int .i64 fa.1,.int .i64 fa.2.1,.int .i64 fb.1,.int .i64 fb.2.1,.int .i64 0] 79)) trivial ⟨rfl,rfl⟩;dsimp only [bF] at hz;simp only [dq6] at hz;exact hz
  injection ho with ho;subst ho;intro xf wq hT hd K hK;obtain ⟨e7,ew⟩:TJ_ 79 JtC 7 B gj w6 [af s.word.2.word.1,.int .i64 0,.int .i64 fa.1,.int .i64 fa.2.1,.int .i64 fb.1,.int .i64 fb.2.1,.int .i64 0] ⟨s.word.2.word.1,0,fa.1,fa.2.1,fb.1,fb.2.1,0⟩ n' s.L.joints 1 (xf 7) (xf 8) wq:=hT;subst ew;have dq5:xf 5=.slice A' n' c':=hd ⟨5,.data⟩ (by simp) rfl;obtain ⟨hl,xs,hown,hrow⟩:=JT6.out;have hown:OwJ noW w6.drew B 79 7 (.slice A' n' c') n' xs:=hown;have hrow:fQ JtC 7 w6.drew s.L.joints xs:=hrow;have hlt:=H6.out.lt;have hBg:=H6.out.hB;have hds:w6.drew.heap.size=w6.heap.size:=rfl;rw [if_pos (show Region.wanted _ _=true from rfl)];refine dG _ noW _ _ _ rfl B 79 ij (.agg #[.string ⟨#[]⟩,.int .i64 0,.int .i64 0,.int .i64 0,.int .i64 0,.int .i64 0,.int .i64 0]) 7 64 Tryz.underlying33 HIJ.out.1 HIJ.out.2.1 HIJ.out.2.2.1 HIJ.out.2.2.2 rfl (by omega) rfl (.slice A' n' c') n' xs dq5 (hown.belw ((Below.refl _ _).alloc Qr _)) ⟨w6.heap.size,0,none⟩ 1 1 [af s.word.2.word.1,.int .i64 0,.int .i64 fa.1,.int .i64 fa.2.1,.int .i64 fb.1,.int .i64 fb.2.1,.int .i64 0] e7 rfl (World.news_of_block (heap_alloc_new w6.drew _)) (by simp [Value.oneCell']) rfl (by omega) (by have:=HP.out.cnt;unfold maxLen;omega) (by have:=HP.out.cnt;omega) (by simp;omega) ?_;intro g5 cap w5 hown5 hgrow _;have hp:=ie hl hown hrow (a:=⟨s.word.2.word.1,0,fa.1,fa.2.1,fb.1,fb.2.1,0⟩) (cs:=[af s.word.2.word.1,.int .i64 0,.int .i64 fa.1,.int .i64 fa.2.1,.int .i64 fb.1,.int .i64 fb.2.1,.int .i64 0]) (show JtC w6.drew _ (⟨s.word.2.word.1,0,fa.1,fa.2.1,fb.1,fb.2.1,0⟩:aM) from HC.out) rfl hown5 hgrow (by omega) (fun _ _ _ _ x=>x);exact hK.out _ _ trivial ⟨some ⟨g5,0,none⟩,cap,rfl,hp.1,(P6.out.drew.alloc _).grown hgrow HNE.out,hp.2.1,((Below.refl B w6).drew).trans hp.2.2⟩
 intro o ho xf wq hT hr K hK;injection ho with ho;subst ho;obtain ⟨A5,c5,e8,hrow,_,ht,hb⟩:TJ_ 79 JtC 7 B gj w6 [af s.word.2.word.1,.int .i64 0,.int .i64 fa.1,.int .i64 fa.2.1,.int .i64 fb.1,.int .i64 fb.2.1,.int .i64 0] ⟨s.word.2.word.1,0,fa.1,fa.2.1,fb.1,fb.2.1,0⟩ n' s.L.joints 2 (xf 7) (xf 8) wq:=hT;have dq11:xf 11=.pointer (some ⟨gr,3,none⟩):=hr 11 (by decide);have RQ:=H6.out.other ht (by decide) hb;obtain ⟨_,hc2,hc3,hc4,_,hf2,hf3,hf4⟩:=RQ.cells;rw [e8] at hrow;have RQ':=Qh RQ;have HROW:=Qh hrow;clear RQ hrow hr;(try dsimp only [bF]);(try simp only [dq11,e8]);go_simp;refine hK.out _ _ ?_;go_wp2_with fail;go_end0;have t1:=H1.out.tchR G6.out;have t3:=RQ'.out.tchR (dB (rg_refl gr wq) 3 (.slice A5 (n'+1) c5));have hst:=HSB.out.trans (aI fb.2.2 2 [59]);have hL:(PS.expect fb.2.2 2 [59]).L=s.L:=hst.2.2.2.trans HL1.out;have htk:=fH (s:=s) (by rw [HW1.out];decide);have hst1:=hst.1
 have eW:W=PS.addJ (PS.expect fb.2.2 2 [59]) ⟨s.word.2.word.1,0,fa.1,fa.2.1,fb.1,fb.2.1,0⟩:=by
  rw [← HW.out];unfold PS.item;rw [if_neg (by rw [HW1.out];decide),if_pos HW1.out];unfold PS.joint;simp only [HFA.out,HFB.out,Bool.false_eq_true,if_false]
 subst eW;refine ⟨rfl,⟨A,n,c,A5,n'+1,c5,A'',n'',c'',⟨?_,?_,?_,?_,?_,?_,?_⟩⟩,?_⟩
 ·show RdP B _ gr (af (PS.expect fb.2.2 2 [59]).L.name) _ _ _ _
  rw [hL];exact RQ'.out.put3 _ rfl rfl rfl
 ·show ba _ _ _ _ _ _ _ (PS.expect fb.2.2 2 [59]).L.bodies
  rw [hL];exact ((BD1.out.tch t1 (by decide) (fun _ _ x=>x.tch t1 (by decide))).tch ht (by decide) (fun _ _ x=>x.tch ht (by decide))).tch t3 (by decide) (fun _ _ x=>x.tch t3 (by decide))
 ·show ba _ _ _ _ _ _ _ ((PS.expect fb.2.2 2 [59]).L.joints ++ [⟨s.word.2.word.1,0,fa.1,fa.2.1,fb.1,fb.2.1,0⟩])
  rw [hL];exact HROW.out.tch t3 (by decide) (fun _ _ x=>x)
 ·show ba _ _ _ _ _ _ _ (PS.expect fb.2.2 2 [59]).L.drivers
  rw [hL];exact ((DR1.out.tch t1 (by decide) (fun _ _ x=>x)).tch ht (by decide) (fun _ _ x=>x)).tch t3 (by decide) (fun _ _ x=>x)
 ·show NmL (PS.expect fb.2.2 2 [59]).L.name
  rw [hL];exact HP.out.nm
 ·show n+(n'+1)+n''+(PS.expect fb.2.2 2 [59]).toks.length≤_
  have h1:=HP.out.cnt;omega
 ·intro b hbm
  have hbm:b∈(PS.expect fb.2.2 2 [59]).L.bodies:=hbm;rw [hL] at hbm;exact HP.out.pts b hbm
 exact ((BW1.out.trans (dC G6.out (by have:=H1.out.lt;have:=H1.out.hB;omega) H1.out.hB)).trans hb).setCell (p:=⟨gr,3,none⟩) H1.out.hB _
theorem kw (B:Nat) (w:World) (gr:Nat) (s:PS) (A:Option Addr) (n c:Nat) (A':Option Addr) (n' c':Nat) (A'':Option Addr) (n'' c'':Nat) (h:RdL B w gr s A n c A' n' c' A'' n'' c'') (hw1:s.word.1=iC):Calls Tryz.prog 41 #[.pointer (some ⟨gr,0,none⟩)] w (ln B w gr s.item):=by
 have HW1:=Qh hw1;have hb0:(s.word.1 == [98,111,100,121])=false:=by rw [hw1];decide
 have hb1:(s.word.1 == [112,105,110])=false:=by rw [hw1];decide
 have hb2:(s.word.1 == [115,108,105,100,101])=true:=by rw [hw1];decide
 clear hw1;obtain ⟨i0,hi0,hz0,hz1,hz2⟩:=info_parts gZ;obtain ⟨ij,hj0,hj1,hj2,hj3⟩:=info_parts hH;obtain ⟨id,hd0,hd1,hd2,hd3⟩:=info_parts ia;have HI:=Qh (And.intro hi0 (And.intro hz0 (And.intro hz1 hz2)));have HIJ:=Qh (And.intro hj0 (And.intro hj1 (And.intro hj2 hj3)));have HID:=Qh (And.intro hd0 (And.intro hd1 (And.intro hd2 hd3)));clear hi0 hz0 hz1 hz2 hj0 hj1 hj2 hj3 hd0 hd1 hd2 hd3;have HL1:=Qh (aq s).2.2.2;have HL2:=Qh ((aq s).trans (aq s.word.2)).2.2.2;have HP:=Qh h;obtain ⟨W,hW⟩:∃ W,s.item=W:=⟨_,rfl⟩;rw [hW];have HW:=Qh hW;clear h hW;go_in;go_wp2_with fail;(with_reducible refine (bW B _ gr (af s.L.name) (.slice A n c) (.slice A' n' c') (.slice A'' n'' c'') s HP.out.rd).mono ?_);rintro e w1 ⟨rfl,h1,hg1⟩;have H1:=Qh h1;have hgl:=h1.lt;have BW1:=Qh (dC hg1 (B:=B) (by have:=HP.out.rd.lt;have:=HP.out.rd.hB;omega) HP.out.rd.hB);have t0:=HP.out.rd.tchR hg1;have BD1:=Qh (HP.out.bd.tch t0 (by decide) (fun _ _ x=>x.tch t0 (by decide)));have JT1:=Qh (HP.out.jt.tch t0 (by decide) (fun _ _ x=>x));have DR1:=Qh (HP.out.dr.tch t0 (by decide) (fun _ _ x=>x));obtain ⟨Ak,nk,ck,hbk,_⟩:=h1.blk;have HBk:=Qh hbk;clear h1 hg1 t0 hbk;have hn:=aN s.word.1;go_wp2_with fail;(with_reducible refine (bW B _ gr (af s.L.name) (.slice A n c) (.slice A' n' c') (.slice A'' n'' c'') s.word.2 H1.out).mono ?_);rintro e w2 ⟨rfl,h2,hg2⟩;have H2:=Qh h2;have hlj:=h2.lt;have hw2:=hg2.size;have HNM:=Qh (eH H1.out.txt);clear h2;go_wp2_with fail;(with_reducible refine (ic B _ gr (af s.L.name) (.slice A' n' c') (.slice A'' n'' c'') A n c s.word.2.word.2 (H2.out.alloc _) (by rw [HL2.out];exact H1.out.bodies BD1.out (bc hg2 _)) (by have:=HP.out.cnt;omega) (by rw [HL2.out];exact fun b hb=>Nat.le_trans (HP.out.pts b hb) (by decide)) (-1)).mono ?_);rintro e w3 ⟨rfl,h3,hg3⟩;have hsa:=cG s.word.2.word.2 (-1);generalize hfa:s.word.2.word.2.full (-1)=fa at h3 hsa ⊢;have HFA:=Qh hfa;have HSA:=Qh ((aq s.word.2).trans hsa);clear hfa hsa;have G3:=ay (bc hg2 _) hg3;have p3:Blk w3 w2.heap.size 79 #[af s.word.2.word.1,.int .i64 0,.int .i64 0,.int .i64 0,.int .i64 0,.int .i64 0,.int .i64 0]:=bD hg3 (Blk.new _ _ _) (by omega);have hl3:=p3.lt;have H3:=Qh h3;generalize hgj:w2.heap.size=gj at hlj hw2 p3 hl3 ⊢;have HNE:=Qh (pf JT1.out (g:=gj) (by omega));clear hgj hg3 h3 hg2 H2;obtain ⟨cj0,cj1,cj2,cj3,cj4,cj5,cj6⟩:=p3.c7;obtain ⟨fj0,fj1,fj2,fj3,fj4,fj5,fj6⟩:=p3.f7;have P3:=Qh p3;clear p3;go_wp2_with fail;clear cj0 cj1 cj2 cj3 cj4 cj5 cj6 fj0 fj1 fj2 fj3 fj4 fj5 fj6;have B3:=cY w3 hlj 2 3 (.int .i64 fa.1) (.int .i64 fa.2.1);have G3':=cH G3 (cY w3 hw2 2 3 (.int .i64 fa.1) (.int .i64 fa.2.1));(with_reducible refine (ic B _ gr (af s.L.name) (.slice A' n' c') (.slice A'' n'' c'') A n c fa.2.2 (H3.out.bel1 B3) (by rw [HSA.out.sameL,HL1.out];exact H1.out.bodies BD1.out G3') (by have:=HP.out.cnt;omega) (by rw [HSA.out.sameL,HL1.out];exact fun b hb=>Nat.le_trans (HP.out.pts b hb) (by decide)) (-1)).mono ?_);rintro e w4 ⟨rfl,h4,hg4⟩;have hsb:=cG fa.2.2 (-1);generalize hfb:fa.2.2.full (-1)=fb at h4 hsb ⊢;have HFB:=Qh hfb;have HSB:=Qh (HSA.out.trans hsb);clear hfb hsb;have G4:=ay G3' hg4;have p4:=bD hg4 ((P3.out.set_ 2 (.int .i64 fa.1)).set_ 3 (.int .i64 fa.2.1)) (by omega);have p4:=p4;have H4:=Qh h4;have hl4:=p4.lt;obtain ⟨cj0,cj1,cj2,cj3,cj4,cj5,cj6⟩:=p4.c7;obtain ⟨fj0,fj1,fj2,fj3,fj4,fj5,fj6⟩:=p4.f7;have P4:=Qh p4;clear p4 h4 hg4 G3 G3' B3 P3 H3 hl3;go_wp2_with fail;clear cj0 cj1 cj2 cj3 cj4 cj5 cj6 fj0 fj1 fj2 fj3 fj4 fj5 fj6;have B4:=(cY w4 hlj 4 5 (.int .i64 fb.1) (.int .i64 fb.2.1)).setCell (p:=⟨gj,1,none⟩) hlj (.int .i64 1);have G4':=cH G4 ((cY w4 hw2 4 5 (.int .i64 fb.1) (.int .i64 fb.2.1)).setCell (p:=⟨gj,1,none⟩) hw2 (.int .i64 1));have Q4:=Qh (((P4.out.set_ 4 (.int .i64 fb.1)).set_ 5 (.int .i64 fb.2.1)).set_ 1 (.int .i64 1));(with_reducible refine (ic B _ gr (af s.L.name) (.slice A' n' c') (.slice A'' n'' c'') A n c fb.2.2 (H4.out.bel1 B4) (by rw [HSB.out.sameL,HL1.out];exact H1.out.bodies BD1.out G4') (by have:=HP.out.cnt;omega) (by rw [HSB.out.sameL,HL1.out];exact fun b hb=>Nat.le_trans (HP.out.pts b hb) (by decide)) fb.1).mono ?_);rintro e w5 ⟨rfl,h5,hg5⟩;have hsc:=cG fb.2.2 fb.1;generalize hft:fb.2.2.full fb.1=ft at h5 hsc ⊢;have HFT:=Qh hft;have HSC:=Qh (HSB.out.trans hsc);clear hft hsc;have G5:=ay G4' hg5;have p5:=bD hg5 Q4.out (by omega);have H5:=Qh h5;have hl5:=p5.lt;obtain ⟨cj0,cj1,cj2,cj3,cj4,cj5,cj6⟩:=p5.c7;obtain ⟨fj0,fj1,fj2,fj3,fj4,fj5,fj6⟩:=p5.f7;have P5:=Qh p5;clear p5 h5 hg5 G4 G4' B4 P4 H4 Q4 hl4;go_wp2_with fail;clear cj0 cj1 cj2 cj3 cj4 cj5 cj6 fj0 fj1 fj2 fj3 fj4 fj5 fj6;(with_reducible refine (dh B _ gr (af s.L.name) (.slice A n c) (.slice A' n' c') (.slice A'' n'' c'') ft.2.2 (H5.out.bel1 ((Below.refl _ w5).setCell (p:=⟨gj,6,none⟩) hlj (.int .i64 ft.2.1))) [59]).mono ?_);rintro e w6 ⟨rfl,h6,hg6⟩;have G6:=Qh (ay (cH G5 ((Below.refl _ w5).setCell (p:=⟨gj,6,none⟩) hw2 (.int .i64 ft.2.1))) hg6);have p6:=bD hg6 (P5.out.set_ 6 (.int .i64 ft.2.1)) (by omega);have H6:=Qh h6;have P6:=Qh p6;have HC:=Qh (show JtC w6 [af s.word.2.word.1,.int .i64 1,.int .i64 fa.1,.int .i64 fa.2.1,.int .i64 fb.1,.int .i64 fb.2.1,.int .i64 ft.2.1] ⟨s.word.2.word.1,1,fa.1,fa.2.1,fb.1,fb.2.1,ft.2.1⟩ from ⟨rfl,HNM.out⟩);have JT6:=Qh (JT1.out.tch (H1.out.tchR G6.out) (by decide) (fun _ _ x=>x));clear h6 hg6 p6;go_wp2_with fail;change Code.wp _ _ _ (bF _ _ _ _ _ _ _ _ _ _ _ _ _ _ _ _ _ _ _ _ _ _ _ _ _ _ _ _ _ _ _ _ _ _ _ _ _ _ _ _ _ _ _ _ _ _ _ _ _ _ _ _ _ _ _ _ _ _ _ _ _ _ _ _ _ _ _ _ _ _ _ _ _ _ _ _ _ _ _ _ _ (fun _=>undef)) _;refine cR (n:=12) (a:=7) (K:=2) (x0:=fun _=>undef) (R:=fun ri=>List.getD ((VE (.pointer (some ⟨gr,0,none⟩))) :: (VE (.pointer (some ⟨gr,0,none⟩))) :: (VE (.pointer (some ⟨gr,0,none⟩))) :: (VE (.pointer (some ⟨gr,1,none⟩))) :: (VE (.pointer (some ⟨gr,3,none⟩))) :: (VE (.slice A' n' c')) :: (VE (.agg #[af s.word.2.word.1,.int .i64 1,.int .i64 fa.1,.int .i64 fa.2.1,.int .i64 fb.1,.int .i64 fb.2.1,.int .i64 ft.2.1])) :: VA :: VA :: (VE (.pointer (some ⟨gr,0,none⟩))) :: (VE (.pointer (some ⟨gr,1,none⟩))) :: (VE (.pointer (some ⟨gr,3,none⟩))) :: []) ri VA) (T:=fun k x wq=>TJ_ 79 JtC 7 B gj w6 [af s.word.2.word.1,.int .i64 1,.int .i64 fa.1,.int .i64 fa.2.1,.int .i64 fb.1,.int .i64 fb.2.1,.int .i64 ft.2.1] ⟨s.word.2.word.1,1,fa.1,fa.2.1,fb.1,fb.2.1,ft.2.1⟩ n' s.L.joints k (x 7) (x 8) wq) (by kernel_rfl) rfl ?_ ?_ ?_ (by decide) ?_ ?_ rfl ?_ ?_ ?_
 ·exact bM ⟨(fun _ _ _=>rfl),(fun _ _ _=>rfl),(fun _ _ _=>rfl),(fun _ _ _=>rfl),(fun _ _ _=>rfl),(fun _ _ _=>rfl),(fun _ _ _=>rfl),(fun _ _ _=>rfl),(fun _ _ _=>rfl),(fun _ _ _=>rfl),(fun _ _ _=>rfl),(fun _ _ _=>rfl),(fun h=>absurd h (by decide)),trivial⟩
 ·exact bM (dS _ 0 (by kernel_rfl))
 ·exact (fun j hj=>gV (by kernel_rfl) hj)
 ·intro j o hj ho
  obtain rfl:j=0:=by omega
  injection ho with ho;subst ho;exact ⟨⟨7,.data⟩,by simp,rfl,rfl⟩
 ·intro k x i v w hi h
  have e7:upd x i v 7=x 7:=bf _ _ (by omega);have e8:upd x i v 8=x 8:=bf _ _ (by omega);simp only [e7,e8];exact h
 ·refine bM ⟨?_,?_,?_,?_,?_,?_,?_,(fun _ h=>absurd h (by decide)),(fun _ h=>absurd h (by decide)),?_,?_,?_,(fun h=>absurd h (by decide)),trivial⟩
  ·intro _ _ k xf wq hT hd K hK
   (try dsimp only [bF]);go_simp;have hz:=hK.out _ rfl;exact hz
  ·intro _ _ k xf wq hT hd K hK
   (try dsimp only [bF]);go_simp;have hz:=hK.out _ rfl;exact hz
  ·intro _ _ k xf wq hT hd K hK
   have dq1:xf 1=.pointer (some ⟨gr,0,none⟩):=hd ⟨1,.data⟩ (by simp) rfl;(try dsimp only [bF]);(try simp only [dq1]);go_simp;have hz:=hK.out _ rfl;dsimp only [bF] at hz;simp only [dq1] at hz;exact hz
  ·intro _ _ k xf wq hT hd K hK
   have dq2:xf 2=.pointer (some ⟨gr,0,none⟩):=hd ⟨2,.data⟩ (by simp) rfl;(try dsimp only [bF]);(try simp only [dq2]);go_simp;have hz:=hK.out _ rfl;dsimp only [bF] at hz;simp only [dq2] at hz;exact hz
  ·intro _ _ k xf wq hT hd K hK
   have dq3:xf 3=.pointer (some ⟨gr,1,none⟩):=hd ⟨3,.data⟩ (by simp) rfl;(try dsimp only [bF]);(try simp only [dq3]);go_simp;have hz:=hK.out _ rfl;dsimp only [bF] at hz;simp only [dq3] at hz;exact hz
  ·intro _ _ k xf wq hT hd K hK
   have dq4:xf 4=.pointer (some ⟨gr,3,none⟩):=hd ⟨4,.data⟩ (by simp) rfl;have hc2:=(TJ_.rd (by decide) H6.out hT).cells;obtain ⟨_,hc2,hc3,hc4,_⟩:=hc2;(try dsimp only [bF]);(try simp only [dq4]);go_simp;have hz:=hK.out _ rfl;dsimp only [bF] at hz;simp only [dq4] at hz;exact hz
  ·intro _ _ k xf wq hT hd K hK
   obtain ⟨hd0,hd1,hd2,hd3,hd4,hd5,hd6⟩:=(TJ_.blk P6.out hT).c7;(try dsimp only [bF]);go_simp;have hz:=hK.out _ rfl;exact hz
  ·intro _ _ k xf wq hT hd K hK
   have dq0:xf 0=.pointer (some ⟨gr,0,none⟩):=hd ⟨0,.data⟩ (by simp) rfl;(try dsimp only [bF]);(try simp only [dq0]);go_simp;have hz:=hK.out _ rfl;dsimp only [bF] at hz;simp only [dq0] at hz;exact hz
  ·intro _ _ k xf wq hT hd K hK
   have dq9:xf 9=.pointer (some ⟨gr,0,none⟩):=hd ⟨9,.data⟩ (by simp) rfl;(try dsimp only [bF]);(try simp only [dq9]);go_simp;have hz:=hK.out _ rfl;dsimp only [bF] at hz;simp only [dq9] at hz;exact hz
  intro _ _ k xf wq hT hd K hK;have dq10:xf 10=.pointer (some ⟨gr,1,none⟩):=hd ⟨10,.data⟩ (by simp) rfl;(try dsimp only [bF]);(try simp only [dq10]);go_simp;have hz:=hK.out _ rfl;dsimp only [bF] at hz;simp only [dq10] at hz;exact hz
 ·intro k o hk ho
  obtain rfl | rfl:=(show k=0∨k=1 by omega)
  ·injection ho with ho
   subst ho;intro xf wq hT hd K hK;have hT:wq=w6.drew:=hT;subst hT;have dq6:xf 6=.agg #[af s.word.2.word.1,.int .i64 1,.int .i64 fa.1,.int .i64 fa.2.1,.int .i64 fb.1,.int .i64 fb.2.1,.int .i64 ft.2.1]:=hd ⟨6,.data⟩ (by simp) rfl;(try dsimp only [bF]);(try simp only [dq6]);go_simp;have hz:=hK.out (.slice (some ⟨w6.heap.size,0,none⟩) 1 1) (w6.drew.alloc (.cells #[af s.word.2.word.1,.int .i64 1,.int .i64 fa.1,.int .i64 fa.2.1,.int .i64 fb.1,.int .i64 fb.2.1,.int .i64 ft.2.1] 79)) trivial ⟨rfl,rfl⟩;dsimp only [bF] at hz;simp only [dq6] at hz;exact hz
  injection ho with ho;subst ho;intro xf wq hT hd K hK;obtain ⟨e7,ew⟩:TJ_ 79 JtC 7 B gj w6 [af s.word.2.word.1,.int .i64 1,.int .i64 fa.1,.int .i64 fa.2.1,.int .i64 fb.1,.int .i64 fb.2.1,.int .i64 ft.2.1] ⟨s.word.2.word.1,1,fa.1,fa.2.1,fb.1,fb.2.1,ft.2.1⟩ n' s.L.joints 1 (xf 7) (xf 8) wq:=hT;subst ew;have dq5:xf 5=.slice A' n' c':=hd ⟨5,.data⟩ (by simp) rfl;obtain ⟨hl,xs,hown,hrow⟩:=JT6.out;have hown:OwJ noW w6.drew B 79 7 (.slice A' n' c') n' xs:=hown;have hrow:fQ JtC 7 w6.drew s.L.joints xs:=hrow;have hlt:=H6.out.lt;have hBg:=H6.out.hB;have hds:w6.drew.heap.size=w6.heap.size:=rfl;rw [if_pos (show Region.wanted _ _=true from rfl)];refine dG _ noW _ _ _ rfl B 79 ij (.agg #[.string ⟨#[]⟩,.int .i64 0,.int .i64 0,.int .i64 0,.int .i64 0,.int .i64 0,.int .i64 0]) 7 64 Tryz.underlying33 HIJ.out.1 HIJ.out.2.1 HIJ.out.2.2.1 HIJ.out.2.2.2 rfl (by omega) rfl (.slice A' n' c') n' xs dq5 (hown.belw ((Below.refl _ _).alloc Qr _)) ⟨w6.heap.size,0,none⟩ 1 1 [af s.word.2.word.1,.int .i64 1,.int .i64 fa.1,.int .i64 fa.2.1,.int .i64 fb.1,.int .i64 fb.2.1,.int .i64 ft.2.1] e7 rfl (World.news_of_block (heap_alloc_new w6.drew _)) (by simp [Value.oneCell']) rfl (by omega) (by have:=HP.out.cnt;unfold maxLen;omega) (by have:=HP.out.cnt;omega) (by simp;omega) ?_;intro g5 cap w5 hown5 hgrow _;have hp:=ie hl hown hrow (a:=⟨s.word.2.word.1,1,fa.1,fa.2.1,fb.1,fb.2.1,ft.2.1⟩) (cs:=[af s.word.2.word.1,.int .i64 1,.int .i64 fa.1,.int .i64 fa.2.1,.int .i64 fb.1,.int .i64 fb.2.1,.int .i64 ft.2.1]) (show JtC w6.drew _ (⟨s.word.2.word.1,1,fa.1,fa.2.1,fb.1,fb.2.1,ft.2.1⟩:aM) from HC.out) rfl hown5 hgrow (by omega) (fun _ _ _ _ x=>x);exact hK.out _ _ trivial ⟨some ⟨g5,0,none⟩,cap,rfl,hp.1,(P6.out.drew.alloc _).grown hgrow HNE.out,hp.2.1,((Below.refl B w6).drew).trans hp.2.2⟩
 intro o ho xf wq hT hr K hK;injection ho with ho;subst ho;obtain ⟨A5,c5,e8,hrow,_,ht,hb⟩:TJ_ 79 JtC 7 B gj w6 [af s.word.2.word.1,.int .i64 1,.int .i64 fa.1,.int .i64 fa.2.1,.int .i64 fb.1,.int .i64 fb.2.1,.int .i64 ft.2.1] ⟨s.word.2.word.1,1,fa.1,fa.2.1,fb.1,fb.2.1,ft.2.1⟩ n' s.L.joints 2 (xf 7) (xf 8) wq:=hT;have dq11:xf 11=.pointer (some ⟨gr,3,none⟩):=hr 11 (by decide);have RQ:=H6.out.other ht (by decide) hb;obtain ⟨_,hc2,hc3,hc4,_,hf2,hf3,hf4⟩:=RQ.cells;rw [e8] at hrow;have RQ':=Qh RQ;have HROW:=Qh hrow;clear RQ hrow hr;(try dsimp only [bF]);(try simp only [dq11,e8]);go_simp;refine hK.out _ _ ?_;go_wp2_with fail;go_end0;have t1:=H1.out.tchR G6.out;have t3:=RQ'.out.tchR (dB (rg_refl gr wq) 3 (.slice A5 (n'+1) c5));have hst:=HSC.out.trans (aI ft.2.2 2 [59]);have hL:(PS.expect ft.2.2 2 [59]).L=s.L:=hst.2.2.2.trans HL1.out;have htk:=fH (s:=s) (by rw [HW1.out];decide);have hst1:=hst.1
 have eW:W=PS.addJ (PS.expect ft.2.2 2 [59]) ⟨s.word.2.word.1,1,fa.1,fa.2.1,fb.1,fb.2.1,ft.2.1⟩:=by
  rw [← HW.out];unfold PS.item;rw [if_neg (by rw [HW1.out];decide),if_neg (by rw [HW1.out];decide),if_pos HW1.out];unfold PS.joint;simp only [HFA.out,HFB.out,HFT.out,if_true]
 subst eW;refine ⟨rfl,⟨A,n,c,A5,n'+1,c5,A'',n'',c'',⟨?_,?_,?_,?_,?_,?_,?_⟩⟩,?_⟩
 ·show RdP B _ gr (af (PS.expect ft.2.2 2 [59]).L.name) _ _ _ _
  rw [hL];exact RQ'.out.put3 _ rfl rfl rfl
 ·show ba _ _ _ _ _ _ _ (PS.expect ft.2.2 2 [59]).L.bodies
  rw [hL];exact ((BD1.out.tch t1 (by decide) (fun _ _ x=>x.tch t1 (by decide))).tch ht (by decide) (fun _ _ x=>x.tch ht (by decide))).tch t3 (by decide) (fun _ _ x=>x.tch t3 (by decide))
 ·show ba _ _ _ _ _ _ _ ((PS.expect ft.2.2 2 [59]).L.joints ++ [⟨s.word.2.word.1,1,fa.1,fa.2.1,fb.1,fb.2.1,ft.2.1⟩])
  rw [hL];exact HROW.out.tch t3 (by decide) (fun _ _ x=>x)
 ·show ba _ _ _ _ _ _ _ (PS.expect ft.2.2 2 [59]).L.drivers
  rw [hL];exact ((DR1.out.tch t1 (by decide) (fun _ _ x=>x)).tch ht (by decide) (fun _ _ x=>x)).tch t3 (by decide) (fun _ _ x=>x)
 ·show NmL (PS.expect ft.2.2 2 [59]).L.name
  rw [hL];exact HP.out.nm
 ·show n+(n'+1)+n''+(PS.expect ft.2.2 2 [59]).toks.length≤_
  have h1:=HP.out.cnt;omega
 ·intro b hbm
  have hbm:b∈(PS.expect ft.2.2 2 [59]).L.bodies:=hbm;rw [hL] at hbm;exact HP.out.pts b hbm
 exact ((BW1.out.trans (dC G6.out (by have:=H1.out.lt;have:=H1.out.hB;omega) H1.out.hB)).trans hb).setCell (p:=⟨gr,3,none⟩) H1.out.hB _
theorem jX (B:Nat) (w:World) (gr:Nat) (s:PS) (A:Option Addr) (n c:Nat) (A':Option Addr) (n' c':Nat) (A'':Option Addr) (n'' c'':Nat) (h:RdL B w gr s A n c A' n' c' A'' n'' c'') (hw1:s.word.1=fD):Calls Tryz.prog 41 #[.pointer (some ⟨gr,0,none⟩)] w (ln B w gr s.item):=by
 have HW1:=Qh hw1;have hb0:(s.word.1 == [98,111,100,121])=false:=by rw [hw1];decide
 have hb1:(s.word.1 == [112,105,110])=false:=by rw [hw1];decide
 have hb2:(s.word.1 == [115,108,105,100,101])=false:=by rw [hw1];decide
 have hb3:(s.word.1 == [100,114,105,118,101,114])=true:=by rw [hw1];decide
 clear hw1;obtain ⟨i0,hi0,hz0,hz1,hz2⟩:=info_parts gZ;obtain ⟨ij,hj0,hj1,hj2,hj3⟩:=info_parts hH;obtain ⟨id,hd0,hd1,hd2,hd3⟩:=info_parts ia;have HI:=Qh (And.intro hi0 (And.intro hz0 (And.intro hz1 hz2)));have HIJ:=Qh (And.intro hj0 (And.intro hj1 (And.intro hj2 hj3)));have HID:=Qh (And.intro hd0 (And.intro hd1 (And.intro hd2 hd3)));clear hi0 hz0 hz1 hz2 hj0 hj1 hj2 hj3 hd0 hd1 hd2 hd3;have HL1:=Qh (aq s).2.2.2;have HL2:=Qh ((aq s).trans (aq s.word.2)).2.2.2;have HP:=Qh h;obtain ⟨W,hW⟩:∃ W,s.item=W:=⟨_,rfl⟩;rw [hW];have HW:=Qh hW;clear h hW;go_in;go_wp2_with fail;(with_reducible refine (bW B _ gr (af s.L.name) (.slice A n c) (.slice A' n' c') (.slice A'' n'' c'') s HP.out.rd).mono ?_);rintro e w1 ⟨rfl,h1,hg1⟩;have H1:=Qh h1;have hgl:=h1.lt;have BW1:=Qh (dC hg1 (B:=B) (by have:=HP.out.rd.lt;have:=HP.out.rd.hB;omega) HP.out.rd.hB);have t0:=HP.out.rd.tchR hg1;have BD1:=Qh (HP.out.bd.tch t0 (by decide) (fun _ _ x=>x.tch t0 (by decide)));have JT1:=Qh (HP.out.jt.tch t0 (by decide) (fun _ _ x=>x));have DR1:=Qh (HP.out.dr.tch t0 (by decide) (fun _ _ x=>x));obtain ⟨Ak,nk,ck,hbk,_⟩:=h1.blk;have HBk:=Qh hbk;clear h1 hg1 t0 hbk;have hn:=aN s.word.1;go_wp2_with fail;(with_reducible refine (bW B _ gr (af s.L.name) (.slice A n c) (.slice A' n' c') (.slice A'' n'' c'') s.word.2 H1.out).mono ?_);rintro e w2 ⟨rfl,h2,hg2⟩;have H2:=Qh h2;have hlj:=h2.lt;have hw2:=hg2.size;have HNM:=Qh (eH H1.out.txt);clear h2;go_wp2_with fail;(with_reducible refine (nM B _ gr (af s.L.name) (.slice A' n' c') (.slice A'' n'' c'') A n c s.word.2.word.2 (H2.out.alloc _) (by rw [HL2.out];exact H1.out.bodies BD1.out (bc hg2 _)) (by have:=HP.out.cnt;omega) (-1)).mono ?_);rintro e w3 ⟨rfl,h3,hg3⟩;have hsa:=fG s.word.2.word.2 (-1);generalize hfa:s.word.2.word.2.named (-1)=fa at h3 hsa ⊢;have HFA:=Qh hfa;have HSA:=Qh ((aq s.word.2).trans hsa);clear hfa hsa;have G3:=ay (bc hg2 _) hg3;have p3:Blk w3 w2.heap.size 81 #[af s.word.2.word.1,.int .i64 0]:=bD hg3 (Blk.new _ _ _) (by omega);have hl3:=p3.lt;have H3:=Qh h3;generalize hgj:w2.heap.size=gj at hlj hw2 p3 hl3 ⊢;have HNE:=Qh (pf DR1.out (g:=gj) (by omega));clear hgj hg3 h3 hg2 H2;obtain ⟨cj0,cj1⟩:=p3.c2;obtain ⟨fj0,fj1⟩:=p3.f2;have P3:=Qh p3;clear p3;go_wp2_with fail;clear cj0 cj1 fj0 fj1;(with_reducible refine (dh B _ gr (af s.L.name) (.slice A n c) (.slice A' n' c') (.slice A'' n'' c'') fa.2 (H3.out.bel1 ((Below.refl _ w3).setCell (p:=⟨gj,1,none⟩) hlj (.int .i64 fa.1))) [59]).mono ?_);rintro e w6 ⟨rfl,h6,hg6⟩;have G6:=Qh (ay (cH G3 ((Below.refl _ w3).setCell (p:=⟨gj,1,none⟩) hw2 (.int .i64 fa.1))) hg6);have p6:=bD hg6 (P3.out.set_ 1 (.int .i64 fa.1)) (by omega);have H6:=Qh h6;have P6:=Qh p6;have HC:=Qh (show DrC w6 [af s.word.2.word.1,.int .i64 fa.1] ⟨s.word.2.word.1,fa.1⟩ from ⟨rfl,HNM.out⟩);have DR6:=Qh (DR1.out.tch (H1.out.tchR G6.out) (by decide) (fun _ _ x=>x));clear h6 hg6 p6;go_wp2_with fail;change Code.wp _ _ _ (dM _ _ _ _ _ _ _ _ _ _ _ _ _ _ _ _ _ _ _ _ _ _ _ _ _ _ _ _ _ _ _ _ _ _ _ _ _ _ _ _ _ _ _ _ _ _ _ _ _ _ _ _ _ _ _ _ _ _ _ _ _ _ _ _ _ _ _ _ _ _ _ _ _ _ _ _ _ _ _ _ _ (fun _=>undef)) _;refine cR (n:=12) (a:=7) (K:=2) (x0:=fun _=>undef) (R:=fun ri=>List.getD ((VE (.pointer (some ⟨gr,0,none⟩))) :: (VE (.pointer (some ⟨gr,0,none⟩))) :: (VE (.pointer (some ⟨gr,0,none⟩))) :: (VE (.pointer (some ⟨gr,1,none⟩))) :: (VE (.pointer (some ⟨gr,4,none⟩))) :: (VE (.slice A'' n'' c'')) :: (VE (.agg #[af s.word.2.word.1,.int .i64 fa.1])) :: VA :: VA :: (VE (.pointer (some ⟨gr,0,none⟩))) :: (VE (.pointer (some ⟨gr,1,none⟩))) :: (VE (.pointer (some ⟨gr,4,none⟩))) :: []) ri VA) (T:=fun k x wq=>TJ_ 81 DrC 2 B gj w6 [af s.word.2.word.1,.int .i64 fa.1] ⟨s.word.2.word.1,fa.1⟩ n'' s.L.drivers k (x 7) (x 8) wq) (by kernel_rfl) rfl ?_ ?_ ?_ (by decide) ?_ ?_ rfl ?_ ?_ ?_
 ·exact bM ⟨(fun _ _ _=>rfl),(fun _ _ _=>rfl),(fun _ _ _=>rfl),(fun _ _ _=>rfl),(fun _ _ _=>rfl),(fun _ _ _=>rfl),(fun _ _ _=>rfl),(fun _ _ _=>rfl),(fun _ _ _=>rfl),(fun _ _ _=>rfl),(fun _ _ _=>rfl),(fun _ _ _=>rfl),(fun h=>absurd h (by decide)),trivial⟩
 ·exact bM (dS _ 0 (by kernel_rfl))
 ·exact (fun j hj=>gV (by kernel_rfl) hj)
 ·intro j o hj ho
  obtain rfl:j=0:=by omega
  injection ho with ho;subst ho;exact ⟨⟨7,.data⟩,by simp,rfl,rfl⟩
 ·intro k x i v w hi h
  have e7:upd x i v 7=x 7:=bf _ _ (by omega);have e8:upd x i v 8=x 8:=bf _ _ (by omega);simp only [e7,e8];exact h
 ·refine bM ⟨?_,?_,?_,?_,?_,?_,?_,(fun _ h=>absurd h (by decide)),(fun _ h=>absurd h (by decide)),?_,?_,?_,(fun h=>absurd h (by decide)),trivial⟩
  ·intro _ _ k xf wq hT hd K hK
   (try dsimp only [dM]);go_simp;have hz:=hK.out _ rfl;exact hz
  ·intro _ _ k xf wq hT hd K hK
   (try dsimp only [dM]);go_simp;have hz:=hK.out _ rfl;exact hz
  ·intro _ _ k xf wq hT hd K hK
   have dq1:xf 1=.pointer (some ⟨gr,0,none⟩):=hd ⟨1,.data⟩ (by simp) rfl;(try dsimp only [dM]);(try simp only [dq1]);go_simp;have hz:=hK.out _ rfl;dsimp only [dM] at hz;simp only [dq1] at hz;exact hz
  ·intro _ _ k xf wq hT hd K hK
   have dq2:xf 2=.pointer (some ⟨gr,0,none⟩):=hd ⟨2,.data⟩ (by simp) rfl;(try dsimp only [dM]);(try simp only [dq2]);go_simp;have hz:=hK.out _ rfl;dsimp only [dM] at hz;simp only [dq2] at hz;exact hz
  ·intro _ _ k xf wq hT hd K hK
   have dq3:xf 3=.pointer (some ⟨gr,1,none⟩):=hd ⟨3,.data⟩ (by simp) rfl;(try dsimp only [dM]);(try simp only [dq3]);go_simp;have hz:=hK.out _ rfl;dsimp only [dM] at hz;simp only [dq3] at hz;exact hz
  ·intro _ _ k xf wq hT hd K hK
   have dq4:xf 4=.pointer (some ⟨gr,4,none⟩):=hd ⟨4,.data⟩ (by simp) rfl;have hc2:=(TJ_.rd (by decide) H6.out hT).cells;obtain ⟨_,hc2,hc3,hc4,_⟩:=hc2;(try dsimp only [dM]);(try simp only [dq4]);go_simp;have hz:=hK.out _ rfl;dsimp only [dM] at hz;simp only [dq4] at hz;exact hz
  ·intro _ _ k xf wq hT hd K hK
   obtain ⟨hd0,hd1⟩:=(TJ_.blk P6.out hT).c2;(try dsimp only [dM]);go_simp;have hz:=hK.out _ rfl;exact hz
  ·intro _ _ k xf wq hT hd K hK
   have dq0:xf 0=.pointer (some ⟨gr,0,none⟩):=hd ⟨0,.data⟩ (by simp) rfl;(try dsimp only [dM]);(try simp only [dq0]);go_simp;have hz:=hK.out _ rfl;dsimp only [dM] at hz;simp only [dq0] at hz;exact hz
  ·intro _ _ k xf wq hT hd K hK
   have dq9:xf 9=.pointer (some ⟨gr,0,none⟩):=hd ⟨9,.data⟩ (by simp) rfl;(try dsimp only [dM]);(try simp only [dq9]);go_simp;have hz:=hK.out _ rfl;dsimp only [dM] at hz;simp only [dq9] at hz;exact hz
  intro _ _ k xf wq hT hd K hK;have dq10:xf 10=.pointer (some ⟨gr,1,none⟩):=hd ⟨10,.data⟩ (by simp) rfl;(try dsimp only [dM]);(try simp only [dq10]);go_simp;have hz:=hK.out _ rfl;dsimp only [dM] at hz;simp only [dq10] at hz;exact hz
 ·intro k o hk ho
  obtain rfl | rfl:=(show k=0∨k=1 by omega)
  ·injection ho with ho
   subst ho;intro xf wq hT hd K hK;have hT:wq=w6.drew:=hT;subst hT;have dq6:xf 6=.agg #[af s.word.2.word.1,.int .i64 fa.1]:=hd ⟨6,.data⟩ (by simp) rfl;(try dsimp only [dM]);(try simp only [dq6]);go_simp;have hz:=hK.out (.slice (some ⟨w6.heap.size,0,none⟩) 1 1) (w6.drew.alloc (.cells #[af s.word.2.word.1,.int .i64 fa.1] 81)) trivial ⟨rfl,rfl⟩;dsimp only [dM] at hz;simp only [dq6] at hz;exact hz
  injection ho with ho;subst ho;intro xf wq hT hd K hK;obtain ⟨e7,ew⟩:TJ_ 81 DrC 2 B gj w6 [af s.word.2.word.1,.int .i64 fa.1] ⟨s.word.2.word.1,fa.1⟩ n'' s.L.drivers 1 (xf 7) (xf 8) wq:=hT;subst ew;have dq5:xf 5=.slice A'' n'' c'':=hd ⟨5,.data⟩ (by simp) rfl;obtain ⟨hl,xs,hown,hrow⟩:=DR6.out;have hown:OwJ noW w6.drew B 81 2 (.slice A'' n'' c'') n'' xs:=hown;have hrow:fQ DrC 2 w6.drew s.L.drivers xs:=hrow;have hlt:=H6.out.lt;have hBg:=H6.out.hB;have hds:w6.drew.heap.size=w6.heap.size:=rfl;rw [if_pos (show Region.wanted _ _=true from rfl)];refine dG _ noW _ _ _ rfl B 81 id (.agg #[.string ⟨#[]⟩,.int .i64 0]) 2 24 Tryz.underlying34 HID.out.1 HID.out.2.1 HID.out.2.2.1 HID.out.2.2.2 rfl (by omega) rfl (.slice A'' n'' c'') n'' xs dq5 (hown.belw ((Below.refl _ _).alloc Qr _)) ⟨w6.heap.size,0,none⟩ 1 1 [af s.word.2.word.1,.int .i64 fa.1] e7 rfl (World.news_of_block (heap_alloc_new w6.drew _)) (by simp [Value.oneCell']) rfl (by omega) (by have:=HP.out.cnt;unfold maxLen;omega) (by have:=HP.out.cnt;omega) (by simp;omega) ?_;intro g5 cap w5 hown5 hgrow _;have hp:=ie hl hown hrow (a:=⟨s.word.2.word.1,fa.1⟩) (cs:=[af s.word.2.word.1,.int .i64 fa.1]) (show DrC w6.drew _ (⟨s.word.2.word.1,fa.1⟩:aV) from HC.out) rfl hown5 hgrow (by omega) (fun _ _ _ _ x=>x);exact hK.out _ _ trivial ⟨some ⟨g5,0,none⟩,cap,rfl,hp.1,(P6.out.drew.alloc _).grown hgrow HNE.out,hp.2.1,((Below.refl B w6).drew).trans hp.2.2⟩
 intro o ho xf wq hT hr K hK;injection ho with ho;subst ho;obtain ⟨A5,c5,e8,hrow,_,ht,hb⟩:TJ_ 81 DrC 2 B gj w6 [af s.word.2.word.1,.int .i64 fa.1] ⟨s.word.2.word.1,fa.1⟩ n'' s.L.drivers 2 (xf 7) (xf 8) wq:=hT;have dq11:xf 11=.pointer (some ⟨gr,4,none⟩):=hr 11 (by decide);have RQ:=H6.out.other ht (by decide) hb;obtain ⟨_,hc2,hc3,hc4,_,hf2,hf3,hf4⟩:=RQ.cells;rw [e8] at hrow;have RQ':=Qh RQ;have HROW:=Qh hrow;clear RQ hrow hr;(try dsimp only [dM]);(try simp only [dq11,e8]);go_simp;refine hK.out _ _ ?_;go_wp2_with fail;go_end0;have t1:=H1.out.tchR G6.out;have t3:=RQ'.out.tchR (dB (rg_refl gr wq) 4 (.slice A5 (n''+1) c5));have hst:=HSA.out.trans (aI fa.2 2 [59]);have hL:(PS.expect fa.2 2 [59]).L=s.L:=hst.2.2.2.trans HL1.out;have htk:=fH (s:=s) (by rw [HW1.out];decide);have hst1:=hst.1
 have eW:W=PS.addD (PS.expect fa.2 2 [59]) ⟨s.word.2.word.1,fa.1⟩:=by
  rw [← HW.out];unfold PS.item;rw [if_neg (by rw [HW1.out];decide),if_neg (by rw [HW1.out];decide),if_neg (by rw [HW1.out];decide),if_pos HW1.out];unfold PS.driver;simp only [HFA.out]
 subst eW;refine ⟨rfl,⟨A,n,c,A',n',c',A5,n''+1,c5,⟨?_,?_,?_,?_,?_,?_,?_⟩⟩,?_⟩
 ·show RdP B _ gr (af (PS.expect fa.2 2 [59]).L.name) _ _ _ _
  rw [hL];exact RQ'.out.put4 _ rfl rfl rfl
 ·show ba _ _ _ _ _ _ _ (PS.expect fa.2 2 [59]).L.bodies
  rw [hL];exact ((BD1.out.tch t1 (by decide) (fun _ _ x=>x.tch t1 (by decide))).tch ht (by decide) (fun _ _ x=>x.tch ht (by decide))).tch t3 (by decide) (fun _ _ x=>x.tch t3 (by decide))
 ·show ba _ _ _ _ _ _ _ (PS.expect fa.2 2 [59]).L.joints
  rw [hL];exact ((JT1.out.tch t1 (by decide) (fun _ _ x=>x)).tch ht (by decide) (fun _ _ x=>x)).tch t3 (by decide) (fun _ _ x=>x)
 ·show ba _ _ _ _ _ _ _ ((PS.expect fa.2 2 [59]).L.drivers ++ [⟨s.word.2.word.1,fa.1⟩])
  rw [hL];exact HROW.out.tch t3 (by decide) (fun _ _ x=>x)
 ·show NmL (PS.expect fa.2 2 [59]).L.name
  rw [hL];exact HP.out.nm
 ·show n+n'+(n''+1)+(PS.expect fa.2 2 [59]).toks.length≤_
  have h1:=HP.out.cnt;omega
 ·intro b hbm
  have hbm:b∈(PS.expect fa.2 2 [59]).L.bodies:=hbm;rw [hL] at hbm;exact HP.out.pts b hbm
 exact ((BW1.out.trans (dC G6.out (by have:=H1.out.lt;have:=H1.out.hB;omega) H1.out.hB)).trans hb).setCell (p:=⟨gr,4,none⟩) H1.out.hB _
theorem mh (B:Nat) (w:World) (gr:Nat) (s:PS) (A:Option Addr) (n c:Nat) (A':Option Addr) (n' c':Nat) (A'':Option Addr) (n'' c'':Nat) (h:RdL B w gr s A n c A' n' c' A'' n'' c'') (k1:s.word.1≠jS) (k2:s.word.1≠rE) (k3:s.word.1≠iC) (k4:s.word.1≠fD):Calls Tryz.prog 41 #[.pointer (some ⟨gr,0,none⟩)] w (ln B w gr s.item):=by
 have hb0:(s.word.1 == [98,111,100,121])=false:=beq_eq_false_iff_ne.2 k1;have hb1:(s.word.1 == [112,105,110])=false:=beq_eq_false_iff_ne.2 k2;have hb2:(s.word.1 == [115,108,105,100,101])=false:=beq_eq_false_iff_ne.2 k3;have hb3:(s.word.1 == [100,114,105,118,101,114])=false:=beq_eq_false_iff_ne.2 k4;have HK:=Qh (show s.item=s.word.2.fail 2 by unfold PS.item;rw [if_neg k1,if_neg k2,if_neg k3,if_neg k4]);clear k1 k2 k3 k4;obtain ⟨i0,hi0,hz0,hz1,hz2⟩:=info_parts gZ;obtain ⟨ij,hj0,hj1,hj2,hj3⟩:=info_parts hH;obtain ⟨id,hd0,hd1,hd2,hd3⟩:=info_parts ia;have HI:=Qh (And.intro hi0 (And.intro hz0 (And.intro hz1 hz2)));have HIJ:=Qh (And.intro hj0 (And.intro hj1 (And.intro hj2 hj3)));have HID:=Qh (And.intro hd0 (And.intro hd1 (And.intro hd2 hd3)));clear hi0 hz0 hz1 hz2 hj0 hj1 hj2 hj3 hd0 hd1 hd2 hd3;have HL1:=Qh (aq s).2.2.2;have HL2:=Qh ((aq s).trans (aq s.word.2)).2.2.2;have HP:=Qh h;obtain ⟨W,hW⟩:∃ W,s.item=W:=⟨_,rfl⟩;rw [hW];have HW:=Qh hW;clear h hW;go_in;go_wp2_with fail;(with_reducible refine (bW B _ gr (af s.L.name) (.slice A n c) (.slice A' n' c') (.slice A'' n'' c'') s HP.out.rd).mono ?_);rintro e w1 ⟨rfl,h1,hg1⟩;have H1:=Qh h1;have hgl:=h1.lt;have BW1:=Qh (dC hg1 (B:=B) (by have:=HP.out.rd.lt;have:=HP.out.rd.hB;omega) HP.out.rd.hB);have t0:=HP.out.rd.tchR hg1;have BD1:=Qh (HP.out.bd.tch t0 (by decide) (fun _ _ x=>x.tch t0 (by decide)));have JT1:=Qh (HP.out.jt.tch t0 (by decide) (fun _ _ x=>x));have DR1:=Qh (HP.out.dr.tch t0 (by decide) (fun _ _ x=>x));obtain ⟨Ak,nk,ck,hbk,_⟩:=h1.blk;have HBk:=Qh hbk;clear h1 hg1 t0 hbk;have hn:=aN s.word.1;have HB1:=HBk.out;clear HBk;obtain ⟨Ak,nk,ck,hbk,htk⟩:=H1.out.blk;have HBk:=Qh hbk;have HTk:=Qh htk;clear hbk htk HB1;go_wp2_with fail;(with_reducible refine (dH _ gr (.slice Ak nk ck) (af s.L.name) (.slice A n c) (.slice A' n' c') (.slice A'' n'' c'') s.word.2.x 2 HBk.out (by decide)).mono ?_);rintro e w2 ⟨rfl,hb2,g2⟩;have HB2:=Qh hb2;clear hb2;go_wp2_with fail;go_end0;have t1:=H1.out.tchR g2;have eW:W=s.word.2.fail 2:=by rw [← HW.out,HK.out]
 have R2:RdP B w2 gr (af s.L.name) (.slice A n c) (.slice A' n' c') (.slice A'' n'' c'') (s.word.2.fail 2):=by
  have hb2:=HB2.out;unfold PS.fail;split
  ·rename_i hx
   rw [if_pos hx] at hb2;exact ⟨⟨Ak,nk,ck,hb2,HTk.out.rg H1.out.hB g2⟩,H1.out.mx.rg H1.out.hB g2,H1.out.hB,H1.out.len,H1.out.txt,H1.out.hw⟩
  rename_i hx;rw [if_neg hx] at hb2;exact ⟨⟨Ak,nk,ck,hb2,HTk.out.rg H1.out.hB g2⟩,H1.out.mx.rg H1.out.hB g2,H1.out.hB,H1.out.len,H1.out.txt,H1.out.hw⟩
 have hst:=(aq s).trans (dz s.word.2 2 (by decide) 0);have hL:(s.word.2.fail 2).L=s.L:=hst.2.2.2;subst eW;refine ⟨rfl,⟨A,n,c,A',n',c',A'',n'',c'',⟨by rw [hL];exact R2,?_,?_,?_,by rw [hL];exact HP.out.nm,?_,by rw [hL];exact HP.out.pts⟩⟩,?_⟩
 ·rw [hL];exact BD1.out.tch t1 (by decide) (fun _ _ x=>x.tch t1 (by decide))
 ·rw [hL];exact JT1.out.tch t1 (by decide) (fun _ _ x=>x)
 ·rw [hL];exact DR1.out.tch t1 (by decide) (fun _ _ x=>x)
 ·have h1:=HP.out.cnt
  have h2:=hst.1;omega
 exact BW1.out.trans (dC g2 (by have:=H1.out.lt;have:=H1.out.hB;omega) H1.out.hB)
theorem vJ (B:Nat) (w:World) (gr:Nat) (s:PS) (A:Option Addr) (n c:Nat) (A':Option Addr) (n' c':Nat) (A'':Option Addr) (n'' c'':Nat) (h:RdL B w gr s A n c A' n' c' A'' n'' c''):Calls Tryz.prog 41 #[.pointer (some ⟨gr,0,none⟩)] w (ln B w gr s.item):=by
 by_cases h1:s.word.1=jS
 ·exact mg B w gr s A n c A' n' c' A'' n'' c'' h h1
 by_cases h2:s.word.1=rE
 ·exact nP B w gr s A n c A' n' c' A'' n'' c'' h h2
 by_cases h3:s.word.1=iC
 ·exact kw B w gr s A n c A' n' c' A'' n'' c'' h h3
 by_cases h4:s.word.1=fD
 ·exact jX B w gr s A n c A' n' c' A'' n'' c'' h h4
 exact mh B w gr s A n c A' n' c' A'' n'' c'' h h1 h2 h3 h4
theorem uh:∀ (f:Nat) (r:List UInt8) (line col:Nat) (l:List Tkn),toks f r line col=.ok l→(l.map fun t=>t.text.length).sum≤r.length∧∀ t∈l,0 < t.text.length:=by
 intro f
 induction f with
 | zero=>intro r line col l h;unfold toks at h;injection h with h;subst h;simp
 | succ f ih =>
  intro r line col l h
  cases r with
  | nil=>unfold toks at h;injection h with h;subst h;simp
  | cons c s =>
   unfold toks at h;split at h
   ·have:=ih _ _ _ _ h
    refine ⟨?_,this.2⟩;rw [List.length_cons];omega
   split at h
   ·have:=ih _ _ _ _ h
    refine ⟨?_,this.2⟩;rw [List.length_cons];omega
   split at h
   ·have:=ih _ _ _ _ h
    refine ⟨?_,this.2⟩;rw [List.length_drop] at this;omega
   split at h
   ·cases h
   rename_i k n hf;have hn:=dT hf
   cases hx:toks f ((c :: s).drop n) line (col+n) with
   | err x=>rw [hx] at h;cases h
   | ok l' =>
    rw [hx] at h;injection h with h;subst h;have:=ih _ _ _ _ hx;have hl:((c :: s).take n).length=n:=by rw [List.length_take];omega
    rw [List.length_drop] at this;refine ⟨?_,fun t ht=>?_⟩
    ·simp only [List.map_cons,List.sum_cons,hl];omega
    rcases List.mem_cons.1 ht with e | e
    ·subst e;show 0 < ((c :: s).take n).length;omega
    exact this.2 t e
theorem jY:∀ {l:List Tkn},(∀ t∈l,0 < t.text.length)→l.length≤(l.map fun t=>t.text.length).sum
 | [],_=>by simp
 | t :: l,h=>by
  have h1:=jY (l:=l) (fun x hx=>h x (by simp [hx]));have h2:=h t (by simp);simp only [List.length_cons,List.map_cons,List.sum_cons];omega
theorem jZ {s:List UInt8}{l:List Tkn}(h:du s=.ok l):l.length≤s.length∧(l.map fun t=>t.text.length).sum≤s.length:=by
 obtain ⟨h1,h2⟩:=uh _ _ _ _ _ h;have:=jY h2;omega
theorem aY.len {s:List UInt8}{x:Int}{l:List Tkn}(h:aY s x l):l.length≤65536:=by
 rcases h with ⟨_,_,rfl⟩ | ⟨h,ht,_⟩ | ⟨_,_,_,_,rfl⟩
 ·simp
 ·have:=(jZ ht).1;omega
 simp
def LkY (k:Nat) (w:World) (A:Option Addr) (n c:Nat) (B:Option Addr) (p d:Nat) (C:Option Addr) (q e:Nat) (L:ag):Prop :=
  ∀ (T:TypeId→Bool) (w2:World),Tch T w w2→T 62=false→T 79=false→T 81=false→T 67=false→LkS k w2 A n c B p d C q e L
theorem LkY.out {k:Nat}{w:World}{A B C:Option Addr}{n c p d q e:Nat}{L:ag}(h:LkY k w A n c B p d C q e L):LkS k w A n c B p d C q e L:=h (fun _=>false) w (Tch.refl w) rfl rfl rfl rfl
theorem LkY.tch {T:TypeId→Bool}{k:Nat}{w w':World}{A B C:Option Addr}{n c p d q e:Nat}{L:ag}(h:LkY k w A n c B p d C q e L) (t:Tch T w w') (h1:T 62=false) (h2:T 79=false) (h3:T 81=false) (h4:T 67=false):LkY k w' A n c B p d C q e L:=by
 intro T2 w2 t2 g1 g2 g3 g4;refine h (fun t=>T t || T2 t) w2 ((t.mono fun _ ht=>by simp [ht]).trans (t2.mono fun _ ht=>by simp [ht])) ?_ ?_ ?_ ?_ <;> simp [h1,h2,h3,h4,g1,g2,g3,g4]
def pg (w:World) (v:Value) (L:ag) (e:Ending) (w':World):Prop :=
  ∃ A n c A' n' c' A'' n'' c'',e=.returned (.tuple #[.agg #[af L.name,.slice A n c,.slice A' n' c',.slice A'' n'' c''],v])∧LkY 130 w' A n c A' n' c' A'' n'' c'' L∧Below w.heap.size w w'
theorem vK {l:List Tkn}{t:Tkn}(h:t∈l):t.text.length≤(l.map fun t=>t.text.length).sum:=by
 induction l with
 | nil=>cases h
 | cons a l ih =>
  rw [List.map_cons,List.sum_cons];rcases List.mem_cons.1 h with rfl | h
  ·omega
  have:=ih h;omega
theorem rH {s:List UInt8}{l:List Tkn}(h:aY s 0 l):∀ t∈l,NmL t.text:=by
 intro t ht;rcases h with ⟨_,h,_⟩ | ⟨h,hk,_⟩ | ⟨_,_,_,_,rfl⟩
 ·cases h
 ·have h1:=(jZ hk).2
  have h2:=vK ht;show t.text.length < _;omega
 cases ht
theorem vL (w:World) (k:Nat):LkS k w none 0 0 none 0 0 none 0 0 L0:=⟨by show ([]:List UInt8).length < _;decide,⟨rfl,Qr,fun h=>absurd h (by omega)⟩,⟨rfl,Qr,fun h=>absurd h (by omega)⟩,⟨rfl,Qr,fun h=>absurd h (by omega)⟩⟩
theorem LkY.zero (k:Nat) (w:World):LkY k w none 0 0 none 0 0 none 0 0 L0:=fun _ w2 _ _ _ _ _=>vL w2 k
theorem ui {w:World}{A:Option Addr}{n c:Nat}{s:List UInt8}{l:List Tkn}(hs:aY s 0 l) (ht:TkS w A n c l) (hmx:Mx w) (L:ag) (hL:L.name=[]∧L.bodies=[]∧L.joints=[]∧L.drivers=[]):RdL w.heap.size (w.alloc (.cells #[.slice A n c,.string ⟨#[]⟩,.slice none 0 0,.slice none 0 0,.slice none 0 0,.nilIface] 87)) w.heap.size ⟨l,L,0⟩ none 0 0 none 0 0 none 0 0:=by
 obtain ⟨h1,h2,h3,h4⟩:=hL;have hb:Below w.heap.size w (w.alloc (.cells #[.slice A n c,.string ⟨#[]⟩,.slice none 0 0,.slice none 0 0,.slice none 0 0,.nilIface] 87)):=(Below.refl _ _).alloc Qr _;refine ⟨⟨⟨A,n,c,?_,(TkA.of_tks ht).belB hb⟩,(MxA.of_mx hmx).belB hb,Qr,hs.len,rH hs,by rw [h1];exact ⟨rfl,rfl,rfl,rfl⟩⟩,by rw [h2];exact ba.nil,by rw [h3];exact ba.nil,by rw [h4];exact ba.nil,by rw [h1];show ([]:List UInt8).length < _;decide,?_,by rw [h2];intro b hb;cases hb⟩
 ·rw [h1];exact Blk.new _ _ _
 have:=hs.len;show 0+0+0+l.length≤_;omega
theorem RdL.lk {B:Nat}{w:World}{gr:Nat}{s:PS}{A A' A'':Option Addr}{n c n' c' n'' c'':Nat}(h:RdL B w gr s A n c A' n' c' A'' n'' c''):LkS 130 w A n c A' n' c' A'' n'' c'' s.L:=⟨h.nm,h.bd.bds,h.jt.jts,h.dr.drs⟩
theorem RdL.call {B:Nat}{w w':World}{gr:Nat}{s s':PS}{A A' A'':Option Addr}{n c n' c' n'' c'':Nat}(h:RdL B w gr s A n c A' n' c' A'' n'' c'') (h':RdP B w' gr (af s.L.name) (.slice A n c) (.slice A' n' c') (.slice A'' n'' c'') s') (k:w.grownBy w' (some gr)) (hL:s'.L=s.L) (hl:s'.toks.length≤s.toks.length):RdL B w' gr s' A n c A' n' c' A'' n'' c'':=by
 have t:=h.rd.tchR k;exact ⟨by rw [hL];exact h',by rw [hL];exact h.bd.tch t (by decide) (fun _ _ x=>x.tch t (by decide)),by rw [hL];exact h.jt.tch t (by decide) (fun _ _ x=>x),by rw [hL];exact h.dr.tch t (by decide) (fun _ _ x=>x),by rw [hL];exact h.nm,by have:=h.cnt;omega,by rw [hL];exact h.pts⟩
theorem RdL.below {B:Nat}{w w':World}{gr:Nat}{s:PS}{A A' A'':Option Addr}{n c n' c' n'' c'':Nat}(h:RdL B w gr s A n c A' n' c' A'' n'' c'') (k:w.grownBy w' (some gr)):Below B w w':=dC k (by have:=h.rd.lt;have:=h.rd.hB;omega) h.rd.hB
theorem RdL.name {B:Nat}{w:World}{gr:Nat}{s:PS}{A A' A'':Option Addr}{n c n' c' n'' c'':Nat}(h:RdL B w gr s A n c A' n' c' A'' n'' c'') (nm:List UInt8) (hn:NmL nm):RdL B (w.setCell ⟨gr,1,none⟩ (af nm)) gr { s with L:={ s.L with name:=nm } } A n c A' n' c' A'' n'' c'':=by
 have t:=h.rd.tchR (dB (rg_refl gr w) 1 (af nm));exact ⟨h.rd.put1 _ rfl rfl rfl,h.bd.tch t (by decide) (fun _ _ x=>x.tch t (by decide)),h.jt.tch t (by decide) (fun _ _ x=>x),h.dr.tch t (by decide) (fun _ _ x=>x),hn,h.cnt,h.pts⟩
theorem RdL.belw {B:Nat}{w w':World}{gr:Nat}{s:PS}{A A' A'':Option Addr}{n c n' c' n'' c'':Nat}(h:RdL B w gr s A n c A' n' c' A'' n'' c'') (k:Below w.heap.size w w'):RdL B w' gr s A n c A' n' c' A'' n'' c'':=by
 have t:Tch (fun _=>false) w w':=Tch.below k;exact ⟨h.rd.belw k,h.bd.tch t rfl (fun _ _ x=>x.tch t rfl),h.jt.tch t rfl (fun _ _ x=>x),h.dr.tch t rfl (fun _ _ x=>x),h.nm,h.cnt,h.pts⟩
theorem RdL.lkY {B:Nat}{w w':World}{gr:Nat}{s:PS}{A A' A'':Option Addr}{n c n' c' n'' c'':Nat}(h:RdL B w gr s A n c A' n' c' A'' n'' c'') (t:Tch (eI 36) w w'):LkY 130 w' A n c A' n' c' A'' n'' c'' s.L:=by
 intro T w2 t2 h1 h2 h3 h4;have u:Tch (fun x=>eI 36 x || T x) w w2:=(t.mono fun _ k=>by simp [k]).trans (t2.mono fun _ k=>by simp [k]);have e1:(eI 36 62 || T 62)=false:=by rw [h1];decide
 have e2:(eI 36 79 || T 79)=false:=by rw [h2];decide
 have e3:(eI 36 81 || T 81)=false:=by rw [h3];decide
 have e4:(eI 36 67 || T 67)=false:=by rw [h4];decide
 exact ⟨h.nm,(h.bd.tch u e1 (fun _ _ x=>x.tch u e4)).bds,(h.jt.tch u e2 (fun _ _ x=>x)).jts,(h.dr.tch u e3 (fun _ _ x=>x)).drs⟩
theorem zg {w:World}{g:Nat}{t:TypeId}{a0 a1 a2 a3:Value}(z:Blk w g t #[a0,a1,a2,a3]) (hz:noW a0=true∧noW a1=true∧noW a2=true∧noW a3=true) (u0 u1 u2 u3:Value):Tch (eI t) w ((((w.setCell ⟨g,0,none⟩ u0).setCell ⟨g,1,none⟩ u1).setCell ⟨g,2,none⟩ u2).setCell ⟨g,3,none⟩ u3) :=
 Tch.of_ne (by simp [World.setCell]) z (by simp [eI]) (by simp [hz]) fun g' _ hne=>by
  rw [Below.heap_setCell _ _ _ _ hne,Below.heap_setCell _ _ _ _ hne,Below.heap_setCell _ _ _ _ hne,Below.heap_setCell _ _ _ _ hne]
theorem vM {B g:Nat}{a w:World}(h:Below B a w) (hB:B≤g) (u0 u1 u2 u3:Value):Below B a ((((w.setCell ⟨g,0,none⟩ u0).setCell ⟨g,1,none⟩ u1).setCell ⟨g,2,none⟩ u2).setCell ⟨g,3,none⟩ u3) :=
 (((h.setCell (p:=⟨g,0,none⟩) hB u0).setCell (p:=⟨g,1,none⟩) hB u1).setCell (p:=⟨g,2,none⟩) hB u2).setCell (p:=⟨g,3,none⟩) hB u3
theorem nQ (w:World) (s:List UInt8) (x:Int) (l:List Tkn) (hs:aY s x l) (hx:x≠0):Calls Tryz.prog 15 #[af s] w (pg w (bC x) L0):=by
 have HS:=Qh hs;have HX:=Qh hx;rw [eVp hx];clear hs hx;go_in;go_wp2_with fail;(with_reducible refine (li _ s x l HS.out).mono ?_);rintro e w1 ⟨A,n,c,rfl,_,hb1⟩;rw [eVp HX.out];have z1:Blk w1 w.heap.size 36 #[.string ⟨#[]⟩,.slice none 0 0,.slice none 0 0,.slice none 0 0]:=(ak _ _ _ (by simp)).below hb1 (by simp);have cz0:=z1.c4;have fz0:=z1.f4;have q1:=hb1.q1;clear hb1 z1;go_wp2_with fail;refine bodyPost_ret (v:=.tuple #[.agg #[.string ⟨#[]⟩,.slice none 0 0,.slice none 0 0,.slice none 0 0],.iface 49 (.int .i64 x)]) (by simp [results,Tryz.results15,go_sem, *] <;> trivial) rfl ?_;exact ⟨_,_,_,_,_,_,_,_,_,rfl,LkY.zero _ _,(((q1.setCell (p:=⟨w.heap.size,0,none⟩) Qr _).setCell (p:=⟨w.heap.size,1,none⟩) Qr _).setCell (p:=⟨w.heap.size,2,none⟩) Qr _).setCell (p:=⟨w.heap.size,3,none⟩) Qr _⟩
theorem fk (w:World) (s:List UInt8) (l:List Tkn) (hmx:Mx w) (hs:aY s 0 l) (x:Int) (L:ag) (h:((cF l).x≠0∧x=(cF l).x∧L=L0)∨((cF l).x=0∧bT (cF l).L≠0∧x=bT (cF l).L∧L=L0)∨((cF l).x=0∧bT (cF l).L=0∧x=0∧L=(cF l).L)):Calls Tryz.prog 15 #[af s] w (pg w (bC x) L):=by
 have HS:=Qh hs;have HM:=Qh hmx;obtain ⟨R,hR⟩:∃ R,cF l=R:=⟨_,rfl⟩;rw [hR] at h;have HR:=Qh hR;have HH:=Qh h;clear hs hmx hR h;go_in;go_wp2_with fail;(with_reducible refine (li _ s 0 l HS.out).mono ?_);rintro e w1 ⟨A,n,c,rfl,ht,hb1⟩;rw [cl];have z1:Blk w1 w.heap.size 36 #[.string ⟨#[]⟩,.slice none 0 0,.slice none 0 0,.slice none 0 0]:=(ak _ _ _ (by simp)).below hb1 (by simp);have q1:=hb1.q1;have hz1:=z1.lt;have H1:=Qh (ui HS.out ht (HM.out.belw q1) L0 ⟨rfl,rfl,rfl,rfl⟩);have Z1:=Qh (z1.alloc (.cells #[.slice A n c,.string ⟨#[]⟩,.slice none 0 0,.slice none 0 0,.slice none 0 0,.nilIface] 87));have Q1:=Qh (q1.alloc q1.size (.cells #[.slice A n c,.string ⟨#[]⟩,.slice none 0 0,.slice none 0 0,.slice none 0 0,.nilIface] 87));clear hb1 z1 q1 ht;go_wp2_with fail;(with_reducible refine (lj w1.heap.size _ w1.heap.size _ _ _ _ ⟨l,L0,0⟩ H1.out.rd 0 0 rfl [108,105,110,107,97,103,101]).mono ?_);rintro e w2 ⟨rfl,h2,hg2⟩;have H2:=Qh (H1.out.call h2 hg2 (aI _ 0 _).sameL (aI _ 0 _).1);have B2:=H1.out.below hg2;have Z2:=Qh (Z1.out.below B2 hz1);have Q2:=Qh (Q1.out.trans (B2.mono (by omega)));have hl2:=h2.lt;clear h2 hg2 B2 Z1 Q1 H1;generalize hgr:w1.heap.size=gr at hz1 H2 hl2 ⊢;have hs1:(⟨l,L0,0⟩:PS).expect 0 [108,105,110,107,97,103,101]=(⟨l,L0,0⟩:PS).expect 0 bi:=rfl;rw [hs1] at H2;clear hs1;have HR1:=HR.out;unfold cF at HR1;simp only at HR1;have hst1:=aI (⟨l,L0,0⟩:PS) 0 bi;generalize (⟨l,L0,0⟩:PS).expect 0 bi=s1 at H2 HR1 hst1;have HR2:=Qh HR1;have HST1:=Qh hst1;clear HR1 hst1 HR;go_wp2_with fail;(with_reducible refine (bW gr _ gr _ _ _ _ s1 H2.out.rd).mono ?_);rintro e w3 ⟨rfl,h3,hg3⟩;have hnm:=eH H2.out.rd.txt;have H3:=Qh (H2.out.call h3 hg3 (aq _).sameL (aq _).1);have B3:=H2.out.below hg3;have Z3:=Qh (Z2.out.below B3 hz1);have Q3:=Qh (Q2.out.trans (B3.mono (by omega)));have H3n:=Qh (H3.out.name s1.word.1 hnm);have hl3:=h3.lt;obtain ⟨cn1,_,_,_,fn1,_⟩:=h3.cells;clear h3 hg3 B3 hnm;go_wp2_with fail;clear cn1 fn1;(with_reducible refine (dh gr _ gr _ _ _ _ _ H3n.out.rd [59]).mono ?_);rintro e w4 ⟨rfl,h4,hg4⟩;have H4:=Qh (H3n.out.call h4 hg4 (aI _ 2 _).sameL (aI _ 2 _).1);have B4:=H3n.out.below hg4;have hz3:=Z3.out.far (p:=⟨gr,1,none⟩) (by show w.heap.size≠gr;omega) (af s1.word.1);have Z4:=Qh (hz3.below B4 hz1);have Q4:=Qh ((Q3.out.setCell (p:=⟨gr,1,none⟩) (by show w.heap.size≤gr;omega) (af s1.word.1)).trans (B4.mono (by omega)))
 have hlen:s1.word.2.toks.length < l.length+1:=by
  have h1:=HST1.out.1;have h2:=(aq s1).1;have h3:s1.toks.length≤l.length:=h1;omega
 have hst4:=(aI (⟨s1.word.2.toks,⟨s1.word.1,s1.word.2.L.bodies,s1.word.2.L.joints,s1.word.2.L.drivers⟩,s1.word.2.x⟩:PS) 2 [59]).1;clear h4 hg4 B4 H3n H3 H2 Z2 Q2 Z3 Q3 hz3 HST1;generalize (⟨s1.word.2.toks,⟨s1.word.1,s1.word.2.L.bodies,s1.word.2.L.joints,s1.word.2.L.drivers⟩,s1.word.2.x⟩:PS).expect 2 [59]=s4 at H4 HR2 hst4
 have hlen4:s4.toks.length < l.length+1:=by
  have h3:s4.toks.length≤s1.word.2.toks.length:=hst4;omega
 clear hst4 hlen;go_wp2_with fail;go_loopw [] (fun wr=>∃ f s' A n c A' n' c' A'' n'' c'',RdL gr wr gr s' A n c A' n' c' A'' n'' c''∧(s'.x=0→s'.toks.length < f)∧Hid (PS.items f s'=R)∧Below w.heap.size w wr∧Blk wr w.heap.size 36 #[.string ⟨#[]⟩,.slice none 0 0,.slice none 0 0,.slice none 0 0]) (fun wr=>mOf gr wr)
 case atStart=>exact ⟨l.length+1,s4,_,_,_,_,_,_,_,_,_,H4.out,fun _=>hlen4,HR2,Q4.out,Z4.out⟩
 case round =>
  clear H4 HR2 Q4 Z4 hlen4;obtain ⟨f,s',A,n,c,A',n',c',A'',n'',c'',hrd,hf,HRr,hq,hz⟩:=hrel;rename World=>wr;have HRD:=Qh hrd;have HQ:=Qh hq;have HZ:=Qh hz;have HF:=Qh hf;clear hrd hq hz hf;by_cases hmr:s'.x=0∧s'.toks≠[]
  ·have HMR:=Qh hmr
   clear hmr;go_wp2_with fail;(with_reducible refine (pW gr _ gr _ _ _ _ s' HRD.out.rd true (by simp only [HMR.out,and_self,decide_true,ne_eq,not_false_eq_true])).mono ?_);rintro e w5 ⟨rfl,h5,hg5⟩;have H5:=Qh (HRD.out.call h5 hg5 rfl Qr);have B5:=HRD.out.below hg5;clear h5 hg5;go_wp2_with fail;(with_reducible refine (vJ gr _ gr s' A n c A' n' c' A'' n'' c'' H5.out).mono ?_);rintro e w6 ⟨rfl,⟨A5,n5,c5,A6,n6,c6,A7,n7,c7,h6⟩,hb6⟩;have H6:=Qh h6;have B6:=B5.trans hb6;clear h6 hb6;go_wp2_with fail;have hil:=nJ s';have hff:=HF.out HMR.out.1;have hst:=jU (f:=f) (by omega) HMR.out;rw [HRr.out] at hst;go_roundw
   case rel=>exact ⟨f - 1,s'.item,_,_,_,_,_,_,_,_,_,H6.out,fun hx=>by have:=hil.2 hx;omega,Qh hst.symm,HQ.out.trans (B6.mono (by omega)),HZ.out.below B6 hz1⟩
   case measure =>
    rw [H6.out.rd.meas,HRD.out.rd.meas,if_pos HMR.out.1];have h8:=hil.1;by_cases hx:s'.item.x=0
    ·have h9:=hil.2 hx
     rw [if_pos hx];omega
    rw [if_neg hx];omega
  have hend:=lg (f:=f) hmr;rw [HRr.out] at hend;subst hend;have HMR:=Qh hmr;clear hmr;go_wp2_with fail;(with_reducible refine (pW gr _ gr _ _ _ _ R HRD.out.rd false (decide_eq_false HMR.out)).mono ?_);rintro e w5 ⟨rfl,h5,hg5⟩;have B5:=HRD.out.below hg5;have H5:=Qh (HRD.out.call h5 hg5 rfl Qr);have Q5:=Qh (HQ.out.trans (B5.mono (by omega)));have z5:=HZ.out.below B5 hz1;have Z5:=Qh z5;obtain ⟨D5,m5,d5,hb5,_⟩:=h5.blk;obtain ⟨_,g1,g2,g3,g4,g5⟩:=hb5.c6;have hl5:=h5.lt;obtain ⟨cz0,cz1,cz2,cz3⟩:=z5.c4;obtain ⟨fz0,fz1,fz2,fz3⟩:=z5.f4;have hne:¬ gr=w.heap.size:=by omega
  clear h5 hg5 B5 z5 hb5 HRD HQ HZ HMR HF;rcases HH.out with ⟨hx,rfl,rfl⟩ | ⟨hx,hc,rfl,rfl⟩ | ⟨hx,hc,rfl,rfl⟩
  ·rw [eVp hx] at g5
   have HX:=Qh hx;clear hx;go_wp2_with fail;go_region
   all_goals
    go_wp2_with fail;refine bodyPost_ret (v:=.tuple #[.agg #[.string ⟨#[]⟩,.slice none 0 0,.slice none 0 0,.slice none 0 0],.iface 49 (.int .i64 R.x)]) (by simp [results,Tryz.results15,go_sem, *] <;> trivial) rfl ?_;rw [eVp HX.out];exact ⟨_,_,_,_,_,_,_,_,_,rfl,LkY.zero _ _,by first | exact vM Q5.out Qr _ _ _ _ | exact vM Q5.out.drew Qr _ _ _ _⟩
  ·rw [hx,cl] at g5
   clear hx;have HCK:=Qh hc;clear hc;go_wp2_with fail;(with_reducible refine (je _ A n c A' n' c' A'' n'' c'' R.L 130 H5.out.lk (by decide) (by decide) _ rfl).mono ?_);rintro e w6 ⟨rfl,hb6⟩;rw [eVp HCK.out];have z6:=Z5.out.below hb6 (by omega);obtain ⟨cy0,cy1,cy2,cy3⟩:=z6.c4;obtain ⟨fy0,fy1,fy2,fy3⟩:=z6.f4;have Q6:=Qh (Q5.out.trans (hb6.mono Q5.out.size));clear hb6 z6 cz0 cz1 cz2 cz3 fz0 fz1 fz2 fz3 g1 g2 g3 g4 g5;go_wp2_with fail;refine bodyPost_ret (v:=.tuple #[.agg #[.string ⟨#[]⟩,.slice none 0 0,.slice none 0 0,.slice none 0 0],.iface 49 (.int .i64 (bT R.L))]) (by simp [results,Tryz.results15,go_sem, *] <;> trivial) rfl ?_;rw [eVp HCK.out];exact ⟨_,_,_,_,_,_,_,_,_,rfl,LkY.zero _ _,vM Q6.out Qr _ _ _ _⟩
  rw [hx,cl] at g5;clear hx;have HCK:=Qh hc;clear hc;go_wp2_with fail;(with_reducible refine (je _ A n c A' n' c' A'' n'' c'' R.L 130 H5.out.lk (by decide) (by decide) 0 HCK.out).mono ?_);rintro e w6 ⟨rfl,hb6⟩;rw [cl];have z6:=Z5.out.below hb6 (by omega);obtain ⟨cy0,cy1,cy2,cy3⟩:=z6.c4;obtain ⟨fy0,fy1,fy2,fy3⟩:=z6.f4;have H6:=Qh (H5.out.belw hb6);have Z6:=Qh z6;obtain ⟨k1,k2,k3,k4,_⟩:=H6.out.rd.cells;have Q6:=Qh (Q5.out.trans (hb6.mono Q5.out.size));clear hb6 z6 cz0 cz1 cz2 cz3 fz0 fz1 fz2 fz3 g1 g2 g3 g4 g5;go_wp2_with fail;refine bodyPost_ret (v:=.tuple #[.agg #[af R.L.name,.slice A n c,.slice A' n' c',.slice A'' n'' c''],.nilIface]) (by simp [results,Tryz.results15,go_sem, *] <;> trivial) rfl ?_;exact ⟨_,_,_,_,_,_,_,_,_,rfl,H6.out.lkY (zg Z6.out ⟨rfl,rfl,rfl,rfl⟩ _ _ _ _),vM Q6.out Qr _ _ _ _⟩
theorem nR (w:World) (s:List UInt8) (x:Int) (L:ag) (hmx:Mx w) (h:fE s x L):Calls Tryz.prog 15 #[af s] w (pg w (bC x) L):=by
 rcases h with ⟨l,hs,hx,rfl⟩ | ⟨l,hs,hr,hx,rfl⟩ | ⟨l,hs,hr,hc,hx,rfl⟩ | ⟨l,hs,hr,hc,rfl,rfl⟩
 ·exact nQ w s x l hs hx
 ·exact fk w s l hmx hs x L0 (.inl ⟨by rw [hr];exact hx,hr.symm,rfl⟩)
 ·exact fk w s l hmx hs x L0 (.inr (.inl ⟨hr,by rw [hc];exact hx,hc.symm,rfl⟩))
 exact fk w s l hmx hs 0 _ (.inr (.inr ⟨hr,hc,rfl,rfl⟩))
def LkC (k:Nat) (w:World) (cs:List Value) (L:ag):Prop:=∃ A n c B p d C q e,cs=[af L.name,.slice A n c,.slice B p d,.slice C q e]∧LkY k w A n c B p d C q e L
theorem LkC.tch {T:TypeId→Bool}{k:Nat}{w w':World}{cs:List Value}{L:ag}(h:LkC k w cs L) (t:Tch T w w') (h1:T 62=false) (h2:T 79=false) (h3:T 81=false) (h4:T 67=false):LkC k w' cs L:=by
 obtain ⟨A,n,c,B,p,d,C,q,e,h0,hL⟩:=h;exact ⟨A,n,c,B,p,d,C,q,e,h0,hL.tch t h1 h2 h3 h4⟩
theorem LkC.at_ {k:Nat}{w:World}{cs:List Value}{L:ag}{g o:Nat}(x:LkC k w cs L) (hc:∀ j u,cs[j]?=some u→w.cell? ⟨g,o+j,none⟩=some u):dL k w g o L:=by
 obtain ⟨A,n,c,B,p,d,C,q,e,rfl,hL⟩:=x;exact ⟨A,n,c,B,p,d,C,q,e,hc 0 _ rfl,hc 1 _ rfl,hc 2 _ rfl,hc 3 _ rfl,hL.out⟩
abbrev rI (k:Nat) (w:World) (base:Nat) (v:Value) (n:Nat) (Ls:List ag):Prop:=ba 36 (LkC k) 4 w base v n Ls
theorem ba.lks {k:Nat}{w:World}{base:Nat}{A:Option Addr}{n c:Nat}{Ls:List ag}(h:rI k w base (.slice A n c) n Ls):SlS (dL k) 4 w A n c Ls:=(h.slT (P:=dL k) fun _ _ _ _ x hc=>x.at_ hc).sl fun _ _ _ x=>x
theorem ba.lkb {k:Nat}{w w':World}{base:Nat}{v:Value}{n:Nat}{Ls:List ag}(h:rI k w base v n Ls) (hb:Below w.heap.size w w'):rI k w' base v n Ls:=h.tch (T:=fun _=>false) (Tch.below hb) rfl fun _ _ x=>x.tch (Tch.below (T:=fun _=>false) hb) rfl rfl rfl rfl
theorem vN:(Tryz.prog.info? 36).map (fun i=>(i.zero,i.size,i.bytes))=some (some (.agg #[.string ⟨#[]⟩,.slice none 0 0,.slice none 0 0,.slice none 0 0]),4,88):=by kernel_rfl
theorem ba.more {k:Nat}{w w9:World}{base:Nat}{v:Value}{n:Nat}{Ls:List ag}{L:ag}{xs cs:List Value}{v9:Value}(hl:Ls.length=n) (hown:OwJ noW w base 36 4 v n xs) (hr:fQ (LkC k) 4 w Ls xs) (hc:LkC k w cs L) (h9:OwJ noW w9 base 36 4 v9 (n+1) (xs ++ cs)) (hg:w.grownBy w9 v.ownBlock) (h4:cs.length=4):rI k w9 base v9 (n+1) (Ls ++ [L]):=by
 have t:Tch (eI 36) w w9:=Tch.grown (fun _ h=>h) (by simp [eI]) hown hg;have m:∀ cs a,LkC k w cs a→LkC k w9 cs a:=fun _ _ x=>x.tch t (by decide) (by decide) (by decide) (by decide)
 exact ⟨by rw [List.length_append,hl];rfl,xs ++ cs,h9,(hr.map_ m).snoc (m _ _ hc) h4⟩
def bP (Ls:List ag) (i:Nat):List UInt8:=(Ls.drop i).flatMap pkL
theorem nS {Ls:List ag}{i:Nat}{L:ag}(h:Ls[i]?=some L):bP Ls i=fg (bO L).length (fP (bO L)) ++ 10 :: (bO L ++ bP Ls (i+1)):=by
 unfold bP;obtain ⟨hi,e⟩:=List.getElem?_eq_some_iff.1 h;rw [List.drop_eq_getElem_cons hi,e,List.flatMap_cons];unfold pkL;rw [tW];simp
theorem ph {Ls:List ag}{i:Nat}(h:Ls.length≤i):bP Ls i=[]:=by unfold bP;rw [List.drop_eq_nil_of_le h];rfl
theorem lp:∀ (Ls:List ag) (i:Nat),(bP Ls i).length≤(Ls.flatMap pkL).length
 | [],i=>by unfold bP;simp
 | L :: r,0=>Qr
 | L :: r,i+1=>by
  have:=lp r i;unfold bP at this ⊢;rw [List.drop_succ_cons,List.flatMap_cons,List.length_append];omega
theorem rJ (Ls:List ag):cD Ls=eF Ls.length ++ bP Ls 0:=rfl
def yE (L:ag):Prop:=be L=0∧fE (bO L) 0 L∧okL L
theorem nT (w:World) (Ls:List ag) (S:List UInt8) (hS:cD Ls=S) (hn:Ls.length≤16) (hl:S.length≤65536) (hE:∀ L∈Ls,yE L) (htab:Tab w) (ht6:T64 w) (hmx:Mx w) :
 Calls Tryz.prog 18 #[af S] w (fun e' w'=>∃ A c,e'=.returned (.tuple #[.slice A Ls.length c,.nilIface])∧SlS (dL 130) 4 w' A Ls.length c Ls∧Below w.heap.size w w'):=by
 obtain ⟨N,hN⟩:∃ N,Ls.length=N:=⟨_,rfl⟩;have hR0:(bP Ls 0).length≤65536:=by rw [rJ] at hS;rw [← hS,List.length_append] at hl;omega
 have hRl:∀ i,(bP Ls i).length≤65536:=fun i=>Nat.le_trans (lp Ls i) hR0
 have hS2:eF N ++ bP Ls 0=S:=by rw [← hN];exact hS
 obtain ⟨i0,hi0,hz0,hz1,hz2⟩:=info_parts vN;have HI0:=Qh (And.intro hi0 (And.intro hz0 (And.intro hz1 hz2)));have HS:=Qh hS2;have HE:=Qh hE;have HRL:=Qh hRl;have HN:=Qh hN;have HTab:=Qh htab;have H6:=Qh ht6;have HM:=Qh hmx;rw [hN] at hn;rw [hN];clear hS hE hR0 hRl hS2 hN htab ht6 hmx hi0 hz0 hz1 hz2;go_in;go_wp2_with fail;(with_reducible refine (la w N hn (bP Ls 0) S HS.out hl HTab.out HM.out).mono ?_);rintro e' w1 ⟨rfl,q1⟩;go_wp2_with fail;go_loopw [5,7,31] (fun rv ov iv wr=>∃ i:Nat,rv=af (bP Ls i)∧iv=.int .i64 (i:Nat)∧i≤N∧rI 130 wr w.heap.size ov i (Ls.take i)∧Below w.heap.size w wr) (fun _ _ iv _=>N - (intOf iv).toNat)
 case atStart=>exact ⟨0,rfl,rfl,Nat.zero_le _,ba.nil,q1⟩
 case round =>
  clear q1;obtain ⟨i,rfl,rfl,hi,hrow,q1⟩:=hrel;rename World=>wa;obtain ⟨A0,c0,rfl,hic⟩:=hrow.form;have HRow:=Qh hrow;clear hrow;rcases Nat.lt_or_ge i N with hlt | hge
  ·have hi1:((i:Int) < (N:Int))=True:=by simp;omega
   obtain ⟨L,hLi⟩:∃ L,Ls[i]?=some L:=⟨_,List.getElem?_eq_getElem (by rw [HN.out];exact hlt)⟩;obtain ⟨hE0,hRd,hok⟩:=HE.out L (List.mem_of_getElem? hLi);have htk:Ls.take (i+1)=Ls.take i ++ [L]:=by rw [List.take_add_one,hLi];rfl
   have hst:=nS hLi;have hRi:=HRL.out i;have hT0:cj L=bO L:=if_pos hE0;obtain ⟨R2,hR2⟩:∃ R2,bP Ls (i+1)=R2:=⟨_,rfl⟩;obtain ⟨T,hT⟩:∃ T,bO L=T:=⟨_,rfl⟩;obtain ⟨R,hR⟩:∃ R,bP Ls i=R:=⟨_,rfl⟩;rw [hT,hR2,hR] at hst;rw [hT] at hRd hT0;rw [hR] at hRi ⊢;obtain ⟨Ln,hLn⟩:∃ Ln,fg T.length (fP T)=Ln:=⟨_,rfl⟩;obtain ⟨M,hM⟩:∃ M,T ++ R2=M:=⟨_,rfl⟩;have hMl:M.length=T.length+R2.length:=by rw [← hM,List.length_append]
   have hRl:R.length=Ln.length+(M.length+1):=by rw [hst,hLn,hM,List.length_append,List.length_cons]
   have hc1:Lib.cut R [10]=(Ln,M,true):=by rw [hst,hM,← hLn];exact iq (rz _ _)
   obtain ⟨I,hI⟩:∃ I,Lib.itoa (T.length:Int)=I:=⟨_,rfl⟩;obtain ⟨X,hX⟩:∃ X,jM (fP T)=X:=⟨_,rfl⟩
   have hc2:Lib.cut Ln [32]=(I,X,true):=by
    rw [← hLn,← hI,← hX,show fg T.length (fP T)=Lib.itoa (T.length:Int) ++ 32 :: jM (fP T) by unfold fg;simp];exact iq (o4 (by decide))
   have fM:((M.length:Int) < (T.length:Int))=False:=eq_false (by omega);have zM:=am M;have zT:=am T;have hTM:T.length≤M.length:=by omega
   have e1:(⟨M.toArray⟩:ByteArray).extract 0 T.length=⟨T.toArray⟩:=by rw [iM,List.drop_zero,Nat.sub_zero,← hM];simp
   have e2:(⟨M.toArray⟩:ByteArray).extract T.length M.length=⟨R2.toArray⟩:=by rw [iM,← hM];simp
   have HT6:=Qh (show R.length≤65536∧Ln.length≤65536∧T.length≤65536 by omega);have HC:=Qh (And.intro hc1 hc2);have HI:=Qh hI;have HX:=Qh hX;have HL:=Qh (And.intro hE0 (And.intro hRd (And.intro hok (And.intro hT0 (And.intro htk hR2)))));clear hLi hE0 hRd hok htk hst hRi hT0 hR2 hT hR hLn hM hRl hc1 hc2 hI hX hMl;go_wp2_with fail;(with_reducible refine (nC wa R 10 Ln M true (HM.out.belw q1) HT6.out.1 HC.out.1).mono ?_);rintro e' w2 ⟨rfl,hb2⟩;have p2:=hb2;go_wp2_with fail;(with_reducible refine (nC w2 Ln 32 I X true (HM.out.belw (ah q1 p2)) HT6.out.2.1 HC.out.2).mono ?_);rintro e' w3 ⟨rfl,hb3⟩;have p3:=ah p2 hb3;clear p2 hb2 hb3;go_wp2_with fail;(with_reducible refine (pN w3 T.length (by have:=HT6.out.2.2;omega) I HI.out (HTab.out.belw (ah q1 p3))).mono ?_);rintro e' w4 ⟨rfl,hb4⟩;have p4:=ah p3 hb4;clear p3 hb4;go_wp2_with fail;(with_reducible refine (vw w4 (fP T) X HX.out).mono ?_);rintro e' w5 ⟨rfl,hb5⟩;have p5:=ah p4 hb5;clear p4 hb5;go_wp2_with fail;(with_reducible refine (tS w5 T (by have:=HT6.out.2.2;omega)).mono ?_);rintro e' w6 ⟨rfl,hb6⟩;have p6:=ah p5 hb6;clear p5 hb6;go_wp2_with fail;(with_reducible refine (vX w6 (fP T) (pM T) (H6.out.belw (ah q1 p6))).mono ?_);rintro e' w7 ⟨rfl,hb7⟩;rw [HX.out];have p7:=ah p6 hb7;clear p6 hb7;go_wp2_with fail;(with_reducible refine (nR w7 T 0 L (HM.out.belw (ah q1 p7)) HL.out.2.1).mono ?_);rintro e' w8 ⟨A1,n1,c1,B1,m1,d1,C1,k1,e1,rfl,hY,hb8⟩;rw [cl];have p8:=ah p7 hb8;have HY:=Qh hY;clear p7 hb8 hY;go_wp2_with fail;have xl:Blk (w8.alloc (.cells #[af L.name,.slice A1 n1 c1,.slice B1 m1 d1,.slice C1 k1 e1] 36)) w8.heap.size 36 #[af L.name,.slice A1 n1 c1,.slice B1 m1 d1,.slice C1 k1 e1]:=ak _ _ _ rfl;have pl:Below w8.heap.size w8 (w8.alloc (.cells #[af L.name,.slice A1 n1 c1,.slice B1 m1 d1,.slice C1 k1 e1] 36)):=(ae w8).alloc Qr _;have HYb:Hid (LkY 130 (w8.alloc (.cells #[af L.name,.slice A1 n1 c1,.slice B1 m1 d1,.slice C1 k1 e1] 36)) A1 n1 c1 B1 m1 d1 C1 k1 e1 L):=Qh (HY.out.tch (Tch.below (T:=fun _=>false) pl) rfl rfl rfl rfl);have p9:=ah p8 pl;generalize (w8.alloc (.cells #[af L.name,.slice A1 n1 c1,.slice B1 m1 d1,.slice C1 k1 e1] 36))=w9 at xl HYb p9 ⊢;clear p8 pl HY;(with_reducible refine (yz w9 A1 n1 c1 B1 m1 d1 C1 k1 e1 L (HYb.out.out.ok40 HL.out.2.2.1) (HTab.out.belw (ah q1 p9))).mono ?_);rintro e' wb ⟨rfl,hbb⟩;rw [HL.out.2.2.2.1,HL.out.1,cl];have pb:=ah p9 hbb;have xb:=xl.below hbb xl.lt;have HYc:Hid (LkY 130 wb A1 n1 c1 B1 m1 d1 C1 k1 e1 L):=Qh (HYb.out.tch (Tch.below (T:=fun _=>false) hbb) rfl rfl rfl rfl);have c00:=xb.c4;have hlb:w8.heap.size < wb.heap.size:=xb.lt;have qb:=ah q1 pb;have HRb:=Qh (HRow.out.lkb pb);obtain ⟨hlen,xs,hown,hrc⟩:=HRb.out;have hqs:=qb.size;clear p9 hbb xl HYb HRow pb;go_wp2_with (at_builtin;refine de _ rfl noW _ _ _ rfl w.heap.size 36 i0 (.agg #[.string ⟨#[]⟩,.slice none 0 0,.slice none 0 0,.slice none 0 0]) 4 88 Tryz.underlying22 HI0.out.1 HI0.out.2.1 HI0.out.2.2.1 HI0.out.2.2.2 rfl (by omega) rfl _ i xs rfl (hown.belw ((Below.refl _ _).alloc Qr _)) ⟨wb.heap.size,0,none⟩ 1 1 [_,_,_,_] rfl rfl (World.news_of_block (heap_alloc_new wb _)) (by simp [Value.oneCell']) rfl (by omega) (by unfold maxLen;omega) (by omega) (by simp;omega) ?_;intro gx cap wz hown1 hgrow hor);have pa:Below wb.heap.size wb (wb.alloc (.cells #[af L.name,.slice A1 n1 c1,.slice B1 m1 d1,.slice C1 k1 e1] 36)):=(ae wb).alloc Qr _;have ta:=Tch.below (T:=fun _=>false) pa
   have hmore:rI 130 wz w.heap.size (.slice (some ⟨gx,0,none⟩) (i+1) cap) (i+1) (Ls.take i ++ [L]) :=
    ba.more hlen (hown.belw pa) (hrc.map_ fun _ _ x=>x.tch ta rfl rfl rfl rfl) ⟨A1,n1,c1,B1,m1,d1,C1,k1,e1,rfl,HYc.out.tch ta rfl rfl rfl rfl⟩ hown1 hgrow rfl
   have hbz:Below w.heap.size w wz:=(qb.alloc qb.size _).grown hgrow (by simp;omega) (dp hown.own);go_roundw
   case rel=>exact ⟨i+1,by rw [HL.out.2.2.2.2.2],by go_num,by omega,by rw [HL.out.2.2.2.2.1];exact hmore,hbz⟩
   case measure=>simp [intOf];omega
  have hi1:((i:Int) < (N:Int))=False:=by simp;omega
  have hR:bP Ls i=[]:=ph (by rw [HN.out];exact hge);rw [hR];obtain rfl:i=N:=by omega
  have htk:Ls.take i=Ls:=List.take_of_length_le (by rw [HN.out];exact Qr);rw [htk] at HRow;clear htk hR;go_wp2_with fail;go_ret2;exact ⟨A0,c0,rfl,HRow.out.lks,q1⟩
theorem pi (w:World) (Ls:List ag) (S:List UInt8) (hS:cD Ls=S) (hn:Ls.length≤16) (hl:S.length≤65536) (htab:Tab w) (hmx:Mx w):Calls Tryz.prog 21 #[af S] w (aF w (.tuple #[.int .i64 (Ls.length:Nat),.nilIface])):=by
 obtain ⟨N,hN⟩:∃ N,Ls.length=N:=⟨_,rfl⟩;have hS2:eF N ++ bP Ls 0=S:=by rw [← hN];exact hS
 rw [hN] at hn ⊢;have HS:=Qh hS2;clear hS hS2;go_in;go_wp2_with fail;(with_reducible refine (la w N hn (bP Ls 0) S HS.out hl htab hmx).mono ?_);rintro e' w1 ⟨rfl,q1⟩;go_wp2_with fail;go_ret2;exact ⟨rfl,q1⟩
def kt (l:List Tkn):List (Nat × List UInt8):=l.map fun t=>(t.kind,t.text)
structure AtK (s:PS) (K:List (Nat × List UInt8)) (L:ag):Prop where
  x:s.x=0
  k:kt s.toks=K
  l:s.L=L
theorem AtK.head {s:PS}{k:Nat}{t:List UInt8}{K:List (Nat × List UInt8)}{L:ag}(h:AtK s ((k,t) :: K) L):∃ u r,s.toks=u :: r∧u.kind=k∧u.text=t∧kt r=K:=by
 have h1:=h.k;unfold kt at h1
 cases e:s.toks with
 | nil=>rw [e] at h1;cases h1
 | cons u r =>
  rw [e,List.map_cons] at h1;injection h1 with h2 h3;injection h2 with h4 h5;exact ⟨u,r,rfl,h4,h5,h3⟩
theorem AtK.next {s:PS}{k:Nat}{t:List UInt8}{K:List (Nat × List UInt8)}{L:ag}(h:AtK s ((k,t) :: K) L):s.next k=(some t,s):=by
 obtain ⟨u,r,e,h1,h2,_⟩:=h.head;unfold PS.next;rw [if_neg (by rw [h.x];simp),e];show (if u.kind=k then (some u.text,s) else _)=_;rw [if_pos h1,h2]
theorem AtK.drop {s:PS}{p:Nat × List UInt8}{K:List (Nat × List UInt8)}{L:ag}(h:AtK s (p :: K) L):AtK s.drop1 K L:=by
 obtain ⟨u,r,e,_,_,h3⟩:=AtK.head (k:=p.1) (t:=p.2) h;refine ⟨h.x,?_,h.l⟩;show kt (s.toks.drop 1)=K;rw [e];exact h3
theorem AtK.word {s:PS}{t:List UInt8}{K:List (Nat × List UInt8)}{L:ag}(h:AtK s ((0,t) :: K) L):s.word.1=t∧AtK s.word.2 K L:=by
 unfold PS.word;rw [h.next];exact ⟨rfl,h.drop⟩
theorem AtK.expect {s:PS}{k:Nat}{t:List UInt8}{K:List (Nat × List UInt8)}{L:ag}(h:AtK s ((k,t) :: K) L):AtK (s.expect k t) K L:=by
 unfold PS.expect;rw [h.next];show AtK (if t=t then s.drop1 else s.fail 2) K L;rw [if_pos rfl];exact h.drop
theorem AtK.number {s:PS}{t:List UInt8}{K:List (Nat × List UInt8)}{L:ag}(h:AtK s ((1,t) :: K) L) (hv:valX t=0):s.number.1=valQ t∧AtK s.number.2 K L:=by
 unfold PS.number;rw [h.next];show (if valX t≠0 then (0,s.fail (valX t)) else (valQ t,s.drop1):Rat × PS).1=_∧AtK (if valX t≠0 then (0,s.fail (valX t)) else (valQ t,s.drop1):Rat × PS).2 K L;rw [if_neg (by rw [hv];simp)];exact ⟨rfl,h.drop⟩
/-! Texts of numbers. -/
theorem pZ (z:Int):∃ m D,isD D∧Lib.itoa z=sg m D∧sgI m (aj D)=z:=by
 obtain ⟨h1,h2⟩:=uY z;generalize Lib.itoa z=s at h1 h2 ⊢;refine ⟨bL s,bA s,?_,?_,?_⟩
 ·unfold okZ at h1
  rw [Bool.and_eq_true,Bool.and_eq_true,decide_eq_true_eq] at h1;exact ⟨h1.1.1,h1.1.2⟩
 ·unfold bL bA sg
  split <;> split <;> simp_all
 unfold dq at h2;unfold sgI;exact h2
theorem jf {m m':Bool}{D D' r r':List UInt8}(h:isD D) (h':isD D') (e:sg m (D ++ r)=sg m' (D' ++ r')):m=m'∧D ++ r=D' ++ r':=by
 obtain ⟨a1,a2⟩:=d7 (m:=m) (r:=r) h;obtain ⟨b1,b2⟩:=d7 (m:=m') (r:=r') h';rw [e] at a1 a2;exact ⟨a1.symm.trans b1,a2.symm.trans b2⟩
theorem nU (q:Rat):∃ m D t,isD D∧aE q=sg m (D ++ t)∧((t=[]∧q=((sgI m (aj D):Int):Rat))∨∃ E,isD E∧t=47 :: E∧aj E≠0∧q=Rat.divInt (sgI m (aj D)) (aj E)):=by
 obtain ⟨m,D,hD,e1,e2⟩:=pZ q.num;by_cases hd:q.den=1
 ·refine ⟨m,D,[],hD,?_,.inl ⟨rfl,?_⟩⟩
  ·rw [iu hd,e1,List.append_nil]
  rw [e2];exact Rat.ext (by simp) (by simp [hd])
 obtain ⟨m',E,hE,e3,e4⟩:=pZ (q.den:Int);have hp:0 < q.den:=q.den_pos
 have hm':m'=false:=by
  cases m'
  ·rfl
  unfold sgI at e4;rw [if_pos rfl] at e4;omega
 subst hm'
 have e5:aj E=q.den:=by
  unfold sgI at e4;rw [if_neg (by decide)] at e4;omega
 refine ⟨m,D,47 :: E,hD,?_,.inr ⟨E,hE,rfl,by omega,?_⟩⟩
 ·rw [iw hd,e1,e3]
  cases m <;> rfl
 rw [e2,e5,Rat.divInt_ofNat];exact (Rat.mkRat_self q).symm
theorem uj {e:List UInt8}(he:∀ c t,e=c :: t→c=32∨c=59):cU e=0∧lP e=false∧∀ c t,e=c :: t→aJ c=false:=by
 cases e with
 | nil=>exact ⟨rfl,rfl,fun c t h=>by cases h⟩
 | cons c t =>
  rcases he c t rfl with rfl | rfl
  ·refine ⟨?_,rfl,fun c t h=>by injection h with h _;subst h;decide⟩
   rw [cU,show ((32:UInt8) == 46 || (32:UInt8) == 47)=false from by decide];rfl
  refine ⟨?_,rfl,fun c t h=>by injection h with h _;subst h;decide⟩;rw [cU,show ((59:UInt8) == 46 || (59:UInt8) == 47)=false from by decide];rfl
theorem qh {m:Bool}{D t e:List UInt8}(hD:isD D) (ht:t=[]∨∃ E,isD E∧t=47 :: E) (he:∀ c t,e=c :: t→c=32∨c=59):bt (sg m (D ++ t) ++ e)=(sg m (D ++ t)).length:=by
 obtain ⟨t0,_,td⟩:=uj he;have hDp:0 < D.length:=List.length_pos_iff.2 hD.1
 have hte:∀ c r,t ++ e=c :: r→aJ c=false:=by
  rcases ht with rfl | ⟨E,_,rfl⟩
  ·exact td
  intro c r h;injection h with h _;subst h;decide
 have htl:cU (t ++ e)=t.length:=by
  rcases ht with rfl | ⟨E,hE,rfl⟩
  ·exact t0
  ·have hE1:bR (E ++ e)=E.length:=by
    unfold bR;rw [jB e hE.2 td]
   have hEp:0 < E.length:=List.length_pos_iff.2 hE.1;rw [List.cons_append,cU,hE1,show ((47:UInt8) == 46 || (47:UInt8) == 47)=true from by decide,Bool.true_and,if_pos (by simpa using hEp),List.length_cons];omega
 have hdig:bR (D ++ (t ++ e))=D.length:=by
  unfold bR;rw [jB (t ++ e) hD.2 hte]
 have key:∀ s:List UInt8,bS s=(if m then 1 else 0)→s.drop (bS s)=D ++ (t ++ e)→bt s=(if m then 1 else 0)+D.length+t.length:=by
  intro s h1 h2;unfold bt;rw [h2,hdig,if_neg (by omega),← List.drop_drop,h2,List.drop_left,htl,h1]
 have:=key (sg m (D ++ t) ++ e) ?_ ?_
 ·rw [this]
  unfold sg;cases m <;> simp <;> omega
 ·cases m
  ·obtain ⟨c,r,rfl,hc⟩:=fh hD
   have h45:c≠45:=by rintro rfl;exact absurd hc (by decide)
   show bS (c :: (r ++ t ++ e))=0;unfold bS;split
   ·rename_i h1;injection h1 with h2;exact absurd h2 h45
   rfl
  rfl
 cases m
 ·obtain ⟨c,r,rfl,hc⟩:=fh hD
  have h45:c≠45:=by rintro rfl;exact absurd hc (by decide)
  have:bS (sg false (c :: r ++ t) ++ e)=0:=by
   show bS (c :: (r ++ t ++ e))=0;unfold bS;split
   ·rename_i h1;injection h1 with h2;exact absurd h2 h45
   rfl
  rw [this];show c :: r ++ t ++ e=_;rw [List.append_assoc]
 show D ++ t ++ e=_;rw [List.append_assoc]
theorem qi {q:Rat}(hl:(aE q).length≤60):valX (aE q)=0∧valQ (aE q)=q:=by
 obtain ⟨m,D,t,hD,hs,hq⟩:=nU q;have h:=pR (aE q)
 have hn:bt (aE q)=(aE q).length:=by
  have:=qh (m:=m) (D:=D) (t:=t) (e:=[]) hD (by rcases hq with ⟨h,_⟩ | ⟨E,hE,h,_⟩;exact .inl h;exact .inr ⟨E,hE,h⟩) (fun c t h=>by cases h);rw [List.append_nil] at this;rw [hs];exact this
 have hpos:(aE q).length≠0:=by
  obtain ⟨c,r,e,_⟩:=fh hD;rw [hs,e];cases m <;> simp [sg]
 generalize valX (aE q)=x at h ⊢;generalize valQ (aE q)=y at h ⊢;have no47:∀ {F:List UInt8},isD F→(47:UInt8) ∉ F:=fun h=>eG h (by decide)
 have no46:∀ {F:List UInt8},isD F→(46:UInt8) ∉ F:=fun h=>eG h (by decide)
 cases h with
 | large h1 _ _=>omega
 | bad _ hb _ _ =>
  rcases hb with hb | hb
  ·exact absurd hb hpos
  exact absurd hn hb
 | whole m' D' _ _ hD' hs' hx hy =>
  have e0:=hs.symm.trans hs';rw [show D'=D' ++ [] by simp] at e0;obtain ⟨rfl,e⟩:=jf hD hD' e0;rcases hq with ⟨rfl,hq⟩ | ⟨E,hE,rfl,h0,hq⟩
  ·rw [List.append_nil,List.append_nil] at e
   subst e;exact ⟨hx,hy.trans hq.symm⟩
  exfalso;rw [List.append_nil] at e;exact no47 hD' (e ▸ List.mem_append_right _ (List.mem_cons_self))
 | quo0 m' D' E' _ _ hD' hE' hs' h0' _ _ =>
  exfalso;have e0:=hs.symm.trans hs';obtain ⟨rfl,e⟩:=jf hD hD' e0;rcases hq with ⟨rfl,hq⟩ | ⟨E,hE,rfl,h0,hq⟩
  ·rw [List.append_nil] at e
   exact no47 hD (e ▸ List.mem_append_right _ (List.mem_cons_self))
  obtain ⟨_,e2⟩:=mX (no47 hD) (no47 hD') e;subst e2;exact h0 h0'
 | quo m' D' E' _ _ hD' hE' hs' h0' hx hy =>
  have e0:=hs.symm.trans hs';obtain ⟨rfl,e⟩:=jf hD hD' e0;rcases hq with ⟨rfl,hq⟩ | ⟨E,hE,rfl,h0,hq⟩
  ·exfalso
   rw [List.append_nil] at e;exact no47 hD (e ▸ List.mem_append_right _ (List.mem_cons_self))
  obtain ⟨e1,e2⟩:=mX (no47 hD) (no47 hD') e;subst e1 e2;exact ⟨hx,hy.trans hq.symm⟩
 | dot m' D' E' _ _ hD' hE' hs' hx hy =>
  exfalso;have e0:=hs.symm.trans hs';obtain ⟨rfl,e⟩:=jf hD hD' e0;have h46:(46:UInt8)∈D ++ t:=e ▸ List.mem_append_right _ (List.mem_cons_self);rcases List.mem_append.1 h46 with h | h
  ·exact no46 hD h
  rcases hq with ⟨rfl,hq⟩ | ⟨E,hE,rfl,h0,hq⟩
  ·cases h
  rcases List.mem_cons.1 h with h | h
  ·exact absurd h (by decide)
  exact no46 hE h
/-! Tokens of a text. -/
def Spl (s:List UInt8) (K:List (Nat × List UInt8)):Prop:=∀ line col,Bn.shape (tk s line col)=some K
theorem Spl.nil:Spl [] []:=fun _ _=>rfl
theorem Spl.line {s:List UInt8}{K:List (Nat × List UInt8)}(h:Spl s K):Spl (10 :: s) K:=fun line col=>by rw [iV];exact h _ _
theorem Spl.blank {s:List UInt8}{K:List (Nat × List UInt8)}(h:Spl s K):Spl (32 :: s) K:=fun line col=>by rw [gH (by decide)];exact h _ _
theorem Spl.tok {x s:List UInt8}{k:Nat}{K:List (Nat × List UInt8)}(h0:x≠[]) (hf:aX (x ++ s)=.ok k x.length) (h:Spl s K):Spl (x ++ s) ((k,x) :: K):=fun line col=>by
 obtain ⟨c,r,rfl⟩:=List.exists_cons_of_ne_nil h0;rw [List.cons_append] at hf;rw [List.cons_append,oJ hf,oL,← List.cons_append,List.drop_left,List.take_left,h];rfl
theorem Spl.sign {c:UInt8}{s:List UInt8}{K:List (Nat × List UInt8)}(hc:ch c=true) (h:Spl s K):Spl (c :: s) ((2,[c]) :: K) :=
 Spl.tok (x:=[c]) (by simp) (by show aX (c :: s)=_;unfold aX;simp only [hc,if_true];rfl) h
theorem nV {c:UInt8}(h:bQ c=true):ch c=false:=by
 cases hs:ch c
 ·rfl
 unfold ch at hs;simp only [Bool.or_eq_true,beq_iff_eq] at hs;rcases hs with ((e | e) | e) | e <;> subst e <;> exact absurd h (by decide)
theorem Spl.word {x s:List UInt8}{K:List (Nat × List UInt8)}(hx:aQ x=true) (hs:∀ c t,s=c :: t→aP c=false) (h:Spl s K):Spl (x ++ s) ((0,x) :: K):=by
 have ha:=tN hx;unfold aQ at hx;simp only [Bool.and_eq_true,decide_eq_true_eq] at hx;obtain ⟨⟨h1,h2⟩,h3⟩:=hx;refine Spl.tok ha.1 ?_ h
 cases x with
 | nil=>exact absurd rfl ha.1
 | cons c t =>
  have hl:bQ c=true:=by
   rw [bh] at h1;split at h1
   ·assumption
   omega
  have ht:t.all aP=true:=List.all_eq_true.2 fun d hd=>ha.2 d (by simp [hd])
  have hw:bh (c :: (t ++ s))=(c :: t).length:=by
   rw [bh,if_pos hl,jB s ht hs,List.length_cons];omega
  show aX (c :: (t ++ s))=_;unfold aX;simp only [nV hl,hw,Bool.false_eq_true,if_false];rw [if_pos (by simp),if_neg (by omega)]
theorem xB {c:UInt8}(h:aJ c=true∨c=45):ch c=false∧bQ c=false:=by
 rcases h with h | rfl
 ·unfold aJ at h
  simp only [Bool.and_eq_true,decide_eq_true_eq] at h;constructor
  ·cases hs:ch c
   ·rfl
   unfold ch at hs;simp only [Bool.or_eq_true,beq_iff_eq] at hs;rcases hs with ((e | e) | e) | e <;> subst e <;> exact absurd h (by decide)
  unfold bQ;simp only [Bool.or_eq_false_iff,Bool.and_eq_false_iff,decide_eq_false_iff_not];omega
 decide
theorem Spl.num {q:Rat}{s:List UInt8}{K:List (Nat × List UInt8)}(hl:(aE q).length≤60) (hs:∀ c t,s=c :: t→c=32∨c=59) (h:Spl s K):Spl (aE q ++ s) ((1,aE q) :: K):=by
 obtain ⟨m,D,t,hD,e,hq⟩:=nU q
 have hn:bt (aE q ++ s)=(aE q).length:=by
  rw [e];exact qh hD (by rcases hq with ⟨h,_⟩ | ⟨E,hE,h,_⟩;exact .inl h;exact .inr ⟨E,hE,h⟩) hs
 have hc:∃ c r,aE q=c :: r∧(aJ c=true∨c=45):=by
  obtain ⟨c,r,e2,h2⟩:=fh hD;rw [e,e2];cases m
  ·exact ⟨c,r ++ t,rfl,.inl h2⟩
  exact ⟨45,_,rfl,.inr rfl⟩
 obtain ⟨c,r,e3,h3⟩:=hc;obtain ⟨h4,h5⟩:=xB h3;refine Spl.tok (by rw [e3];simp) ?_ h;rw [e3] at hn hl ⊢;rw [List.cons_append] at hn ⊢;have hw:bh (c :: (r ++ s))=0:=by rw [bh,h5];rfl
 unfold aX;simp only [h4,hw,hn,Bool.false_eq_true,if_false];rw [if_neg (by omega),if_neg (by simp),if_neg (by omega),← List.cons_append,List.drop_left,(uj hs).2.1];rfl
noncomputable def uk (l:List Tkn):ai × PS :=
  let b:=((⟨l,L0,0⟩:PS).expect 0 jS).body
  (b.1,if b.2.x=0∧b.2.toks≠[] then b.2.fail 2 else b.2)
def B0:ai:=⟨[],[]⟩
inductive mi (s:List UInt8) (x:Int) (b:ai):Prop
  | split (l:List Tkn) (hs:aY s x l) (hx:x≠0) (hb:b=B0)
  | read (l:List Tkn) (hs:aY s 0 l) (hr:(uk l).2.x=x) (hx:x≠0) (hb:b=B0)
  | ok (l:List Tkn) (hs:aY s 0 l) (hr:(uk l).2.x=0) (hx:x=0) (hb:b=(uk l).1)
theorem mi.uniq {s:List UInt8}{x y:Int}{b d:ai}(h:mi s x b) (h':mi s y d):x=y∧b=d:=by
 cases h with
 | split l hs hx hL =>
  cases h' with
  | split l' hs' hx' hL'=>exact ⟨(hs.uniq hs').1,by rw [hL,hL']⟩
  | read l' hs' _ _ _=>exact absurd (hs.uniq hs').1 hx
  | ok l' hs' _ _ _=>exact absurd (hs.uniq hs').1 hx
 | read l hs hr hx hL =>
  cases h' with
  | split l' hs' hx' hL'=>exact absurd (hs.uniq hs').1.symm hx'
  | read l' hs' hr' hx' hL' =>
   obtain ⟨_,rfl⟩:=hs.uniq hs';exact ⟨hr.symm.trans hr',by rw [hL,hL']⟩
  | ok l' hs' hr' _ _ =>
   obtain ⟨_,rfl⟩:=hs.uniq hs';exact absurd (hr.symm.trans hr') hx
 | ok l hs hr hx hL =>
  cases h' with
  | split l' hs' hx' hL'=>exact absurd (hs.uniq hs').1.symm hx'
  | read l' hs' hr' hx' hL' =>
   obtain ⟨_,rfl⟩:=hs.uniq hs';exact absurd (hr'.symm.trans hr) hx'
  | ok l' hs' hr' hx' hL' =>
   obtain ⟨_,rfl⟩:=hs.uniq hs';exact ⟨by rw [hx,hx'],by rw [hL,hL']⟩
end Go.Proofs.YtfilnhompchciaaGreatDoor
