/- Part ON4: lemmas and walks that the claim rests on. No claim is made here. -/
import Derived.Deep.AppendLies
import Derived.Deep.RegionHeld3
import Derived.Deep.DrawnRows
import Derived.Deep.DeepCutAuto
import Derived.Shelf.LaysM
import Derived.Shelf.LaysC
import Derived.Shelf.Strconv.AtoiAll
import Derived.Test.YtfilnhompchciaaGreatDoorProg
import Derived.Test.YtfilnhompchciaaGreatDoorON3
set_option linter.unusedVariables false
set_option maxHeartbeats 8000000
set_option maxRecDepth 100000
/- Reading linkages, plain: how many tokens are left, what does not turn. -/
namespace Go.Proofs.YtfilnhompchciaaGreatDoor
open Go Go.RowKit Bn
attribute [local go_sem ↓] Go.wp_at_zero Go.wp_at_succ
def Stp (d:Nat) (s s':PS):Prop:=s'.toks.length≤s.toks.length∧(s.x≠0→s'=s)∧(s'.x=0→s.x=0∧s'.toks.length+d≤s.toks.length)∧s'.L=s.L
theorem Stp.refl (s:PS):Stp 0 s s:=⟨Qr,fun _=>rfl,fun h=>⟨h,Qr⟩,rfl⟩
theorem Stp.trans {d e:Nat}{a b c:PS}(h:Stp d a b) (k:Stp e b c):Stp (d+e) a c :=
 ⟨Nat.le_trans k.1 h.1,fun hx=>by have:=h.2.1 hx;subst this;exact k.2.1 hx,fun hx=>by
  obtain ⟨h1,h2⟩:=k.2.2.1 hx;obtain ⟨h3,h4⟩:=h.2.2.1 h1
  exact ⟨h3,by omega⟩,k.2.2.2.trans h.2.2.2⟩
theorem Stp.mono {d e:Nat}{a b:PS}(h:Stp d a b) (he:e≤d):Stp e a b:=⟨h.1,h.2.1,fun hx=>⟨(h.2.2.1 hx).1,by have:=(h.2.2.1 hx).2;omega⟩,h.2.2.2⟩
theorem Stp.sameL {d:Nat}{s s':PS}(h:Stp d s s'):s'.L=s.L:=h.2.2.2
theorem da (s:PS) (e:Int) (he:e≠0) (d:Nat):Stp d s (s.fail e):=by
 unfold PS.fail;split
 ·rename_i hx
  exact ⟨Qr,fun h=>absurd hx h,fun h=>absurd h he,rfl⟩
 rename_i hx;exact ⟨Qr,fun _=>rfl,fun h=>absurd h hx,rfl⟩
theorem next_cases (s:PS) (k:Nat):(∃ t r,s.x=0∧s.toks=t :: r∧t.kind=k∧s.next k=(some t.text,s))∨(∃ s',s.next k=(none,s')∧∀ d,Stp d s s'):=by
 unfold PS.next;split
 ·rename_i hx
  exact .inr ⟨s,rfl,fun d=>⟨Qr,fun _=>rfl,fun h=>absurd h hx,rfl⟩⟩
 rename_i hx;have hx:s.x=0:=by simpa using hx
 split
 ·exact .inr ⟨_,rfl,fun d=>⟨Qr,fun h=>absurd hx h,fun h=>absurd (show (18:Int)=0 from h) (by decide),rfl⟩⟩
 rename_i t r e;split
 ·rename_i hk
  exact .inl ⟨t,r,hx,e,hk,rfl⟩
 exact .inr ⟨_,rfl,fun d=>⟨Qr,fun h=>absurd hx h,fun h=>absurd (show (2:Int)=0 from h) (by decide),rfl⟩⟩
theorem gJ {s:PS}{t:Tkn}{r:List Tkn}(hx:s.x=0) (e:s.toks=t :: r):Stp 1 s s.drop1:=by
 refine ⟨?_,fun h=>absurd hx h,fun _=>⟨hx,?_⟩,rfl⟩
 ·show (s.toks.drop 1).length≤_
  simp
 show (s.toks.drop 1).length+1≤_;rw [e];simp
theorem ap (s:PS):Stp 1 s s.word.2:=by
 unfold PS.word;rcases next_cases s 0 with ⟨t,r,hx,e,_,h⟩ | ⟨s',h,hs⟩
 ·rw [h];exact gJ hx e
 rw [h];exact hs 1
theorem aD (s:PS) (k:Nat) (t:List UInt8):Stp 1 s (s.expect k t):=by
 unfold PS.expect;rcases next_cases s k with ⟨t0,r,hx,e,_,h⟩ | ⟨s',h,hs⟩
 ·rw [h]
  show Stp 1 s (if t0.text=t then s.drop1 else s.fail 2);split
  ·exact gJ hx e
  exact da s 2 (by decide) 1
 rw [h];exact hs 1
theorem iM (s:PS):Stp 1 s s.number.2:=by
 unfold PS.number;rcases next_cases s 1 with ⟨t0,r,hx,e,_,h⟩ | ⟨s',h,hs⟩
 ·rw [h]
  show Stp 1 s (if valX t0.text≠0 then _ else _:Rat × PS).2;split
  ·rename_i hv
   exact da s _ hv 1
  exact gJ hx e
 rw [h];exact hs 1
theorem fW (s:PS):Stp 4 s s.mark.2:=(((ap s).trans (iM _)).trans (iM _)).trans (aD _ _ _)
theorem dX {s:PS}(h:∀ t∈s.toks,NmL t.text):NmL s.word.1:=by
 unfold PS.word;rcases next_cases s 0 with ⟨t,r,hx,e,_,h1⟩ | ⟨s',h1,_⟩
 ·rw [h1];exact h t (by rw [e];simp)
 rw [h1];show ([]:List UInt8).length < _;decide
theorem kJ {f:Nat}{s:PS}{l:List aA}(h:s.x≠0):PS.marks f s l=(l,s):=by
 cases f
 ·rfl
 exact if_pos h
theorem gK {f:Nat}{s:PS}{l:List aA}(hf:0 < f) (h:s.x=0) (hs:s.signHead=true):PS.marks f s l=(l,s.expect 2 [125]):=by
 obtain ⟨f,rfl⟩:∃ g,f=g+1:=⟨f - 1,by omega⟩;show (if s.x≠0 then _ else if s.signHead then _ else _)=_;rw [if_neg (by simp [h]),if_pos hs]
theorem dY {f:Nat}{s:PS}{l:List aA}(hf:0 < f) (h:s.x=0) (hs:s.signHead=false):PS.marks f s l=PS.marks (f - 1) s.mark.2 (l ++ [s.mark.1]):=by
 obtain ⟨f,rfl⟩:∃ g,f=g+1:=⟨f - 1,by omega⟩;show (if s.x≠0 then _ else if s.signHead then _ else _)=_;rw [if_neg (by simp [h]),if_neg (by simp [hs])];rfl
theorem jU:∀ (f:Nat) (s:PS) (l:List aA),Stp 0 s (PS.marks f s l).2
 | 0,s,_=>Stp.refl s
 | f+1,s,l=>by
  by_cases h:s.x=0
  ·cases hs:s.signHead
   ·rw [dY (by omega) h hs]
    exact ((fW s).trans (jU f _ _)).mono (by omega)
   rw [gK (by omega) h hs];exact (aD _ _ _).mono (by omega)
  rw [kJ h];exact Stp.refl s
theorem lY (s:PS):Stp 2 s s.body.2:=(((ap s).trans (aD _ _ _)).trans (jU _ _ _)).mono (by omega)
theorem eR (s:PS) (only:Int):Stp 1 s (s.named only).2:=by
 unfold PS.named;simp only;split
 ·rename_i hx
  exact ap s
 split
 ·split
  ·exact ((ap s).trans (da _ 7 (by decide) 0)).mono (by omega)
  exact ap s
 exact ((ap s).trans (da _ 5 (by decide) 0)).mono (by omega)
theorem co (s:PS) (only:Int):Stp 3 s (s.full only).2.2:=by
 have h:=((eR s only).trans (aD _ 2 [46])).trans (ap _);unfold PS.full;simp only;split
 ·exact h
 split
 ·exact h
 exact (h.trans (da _ 5 (by decide) 0)).mono (by omega)
theorem eS {s:PS}(h:s.word.1≠[]):s.word.2.toks.length+1=s.toks.length∧s.x=0:=by
 unfold PS.word at h ⊢;rcases next_cases s 0 with ⟨t,r,hx,e,_,h1⟩ | ⟨s',h1,_⟩
 ·rw [h1]
  refine ⟨?_,hx⟩;show (s.toks.drop 1).length+1=_;rw [e];simp
 rw [h1] at h;exact absurd rfl h
theorem jV:∀ (f:Nat) (s:PS) (l:List aA),(PS.marks f s l).1.length≤l.length+s.toks.length+(if s.x=0 then 1 else 0)
 | 0,s,l=>by
  show l.length≤_;omega
 | f+1,s,l=>by
  by_cases h:s.x=0
  ·cases hs:s.signHead
   ·rw [dY (by omega) h hs,if_pos h]
    have h1:=jV f s.mark.2 (l ++ [s.mark.1]);have h2:=fW s;rw [List.length_append,List.length_singleton] at h1;show (PS.marks f s.mark.2 _).1.length≤_;by_cases hx:s.mark.2.x=0
    ·have:=(h2.2.2.1 hx).2
     rw [if_pos hx] at h1;omega
    have:=h2.1;rw [if_neg hx] at h1;omega
   rw [gK (by omega) h hs];show l.length≤_;omega
  rw [kJ h];show l.length≤_;omega
theorem rJ (s:PS):s.body.1.pts.length≤s.toks.length+1:=by
 have h:=jV (s.toks.length+1) (s.word.2.expect 2 [123]) [];have h2:=((ap s).trans (aD s.word.2 2 [123])).1;show (PS.marks (s.toks.length+1) (s.word.2.expect 2 [123]) []).1.length≤_;simp only [List.length_nil,Nat.zero_add] at h;split at h <;> omega
theorem rK {l:List aq}{nm:List UInt8}{i:Nat}(h:lX l nm=some i):i < l.length:=by
 unfold lX at h;exact (List.findIdx?_eq_some_iff_findIdx_eq.1 h).1
theorem rL (s:PS) (only:Int) (h:(s.named only).2.x=0):∃ i:Nat,(s.named only).1=(i:Int)∧i < s.L.bodies.length:=by
 have hL:=(ap s).2.2.2;unfold PS.named at h ⊢;simp only at h ⊢;split at h
 ·rename_i hx;exact absurd h hx
 rename_i hx;rw [if_neg hx];split at h
 ·rename_i i hi
  exact ⟨i,rfl,by rw [← hL];exact rK hi⟩
 rename_i hn;have:(s.word.2.fail 5).x≠0:=by unfold PS.fail;rw [if_pos (by simpa using hx)];show (5:Int)≠0;decide
 exact absurd h this
theorem jW (s:PS) (b:Bool):(s.joint b).toks.length≤s.toks.length∧((s.joint b).x=0→s.x=0):=by
 have h0:=ap s;have h1:=co s.word.2 (-1);unfold PS.joint;cases b
 ·simp only [Bool.false_eq_true,if_false]
  generalize s.word.2.full (-1)=fa at h1 ⊢;have h2:=co fa.2.2 (-1);generalize fa.2.2.full (-1)=fb at h2 ⊢;have h:=((h0.trans h1).trans h2).trans (aD fb.2.2 2 [59]);exact ⟨h.1,fun hx=>(h.2.2.1 hx).1⟩
 simp only [if_true];generalize s.word.2.full (-1)=fa at h1 ⊢;have h2:=co fa.2.2 (-1);generalize fa.2.2.full (-1)=fb at h2 ⊢;have h4:=co fb.2.2 fb.1;generalize fb.2.2.full fb.1=ft at h4 ⊢;have h:=(((h0.trans h1).trans h2).trans h4).trans (aD ft.2.2 2 [59]);exact ⟨h.1,fun hx=>(h.2.2.1 hx).1⟩
theorem mW (s:PS):s.driver.toks.length≤s.toks.length∧(s.driver.x=0→s.x=0):=by
 have h:=((ap s).trans (eR _ (-1))).trans (aD _ 2 [59]);unfold PS.driver;exact ⟨h.1,fun hx=>(h.2.2.1 hx).1⟩
theorem rM (s:PS):s.item.toks.length≤s.toks.length∧(s.item.x=0→s.item.toks.length+1≤s.toks.length):=by
 have hw:=ap s
 have key:∀ s':PS,s'.toks.length≤s.word.2.toks.length→(s'.x=0→s.word.2.x=0)→s'.toks.length≤s.toks.length∧(s'.x=0→s'.toks.length+1≤s.toks.length):=by
  intro s' h1 h2;refine ⟨Nat.le_trans h1 hw.1,fun hx=>?_⟩;have:=(hw.2.2.1 (h2 hx)).2;omega
 unfold PS.item;split
 ·have h:=lY s.word.2
  exact key _ h.1 (fun hx=>(h.2.2.1 hx).1)
 split
 ·have h:=jW s.word.2 false
  exact key _ h.1 h.2
 split
 ·have h:=jW s.word.2 true
  exact key _ h.1 h.2
 split
 ·have h:=mW s.word.2
  exact key _ h.1 h.2
 have h:=da s.word.2 2 (by decide) 0;exact key _ h.1 (fun hx=>(h.2.2.1 hx).1)
theorem pi {f:Nat}{s:PS}(h:¬ (s.x=0∧s.toks≠[])):PS.items f s=s:=by
 cases f
 ·rfl
 exact if_neg h
theorem mX {f:Nat}{s:PS}(hf:0 < f) (h:s.x=0∧s.toks≠[]):PS.items f s=PS.items (f - 1) s.item:=by
 obtain ⟨f,rfl⟩:∃ g,f=g+1:=⟨f - 1,by omega⟩;exact if_pos h
def OwJ (J:Value→Bool) (w:World) (base:Nat) (e:TypeId) (size:Nat) (v:Value) (n:Nat) (xs:List Value):Prop :=
  xs.length=n * size ∧
  ((v=.slice none 0 0∧n=0) ∨
   ∃ g cap cur,v=.slice (some ⟨g,0,none⟩) n cap∧base≤g∧w.heap[g]?=some (.cells cur e (0,0))∧n≤cap∧cap≤maxLen∧cur.size=cap * size∧cur.toList.take (n * size)=xs∧cur.toList.all J=true)
theorem OwJ.nil (J:Value→Bool) (w:World) (base:Nat) (e:TypeId) (size:Nat):OwJ J w base e size (.slice none 0 0) 0 []:=⟨by simp,.inl ⟨rfl,rfl⟩⟩
section
variable {J:Value→Bool}{w w':World}{base:Nat}{e:TypeId}{size:Nat}{v:Value}{n:Nat}{xs:List Value}
theorem OwJ.belw (h:OwJ J w base e size v n xs) (hb:Below w.heap.size w w'):OwJ J w' base e size v n xs:=by
 refine ⟨h.1,?_⟩;rcases h.2 with h1 | ⟨g,cap,cur,h1,h2,h3,h4⟩
 ·exact .inl h1
 exact .inr ⟨g,cap,cur,h1,h2,(hb.block g (lt_of_block h3)).trans h3,h4⟩
theorem OwJ.own (h:OwJ J w base e size v n xs):w.ownsRow base e size v n xs:=by
 refine ⟨h.1,?_⟩;rcases h.2 with h1 | ⟨g,cap,cur,h1,h2,h3,h4,h5,h6,h7,_⟩
 ·exact .inl h1
 exact .inr ⟨g,cap,cur,h1,h2,h3,h4,h5,h6,h7⟩
theorem OwJ.at_ (h:OwJ J w base e size v n xs) {g:Nat}(hg:v.ownBlock=some g):base≤g∧∃ cur,w.heap[g]?=some (.cells cur e (0,0))∧cur.toList.all J=true:=by
 rcases h.2 with ⟨rfl,_⟩ | ⟨g',cap,cur,rfl,h2,h3,_,_,_,_,h8⟩
 ·cases hg
 injection hg with hg;subst hg;exact ⟨h2,cur,h3,h8⟩
end
section
variable {P:Program}(w:World)
theorem rN {J:Value→Bool}{z:Array Value}(hz:z.toList.all J=true) (h0:0 < z.size) (n:Nat):(Builtin.zeroCells z n).toList.all J=true:=by
 rw [List.all_eq_true] at hz ⊢;intro x hx;unfold Builtin.zeroCells at hx;rw [Array.mem_toList_iff,Array.mem_map] at hx;obtain ⟨i,_,rfl⟩:=hx;have hlt:=Nat.mod_lt i h0;rw [getElem!_pos z _ hlt];exact hz _ (by simp)
theorem fX (J:Value→Bool) (base:Nat) (t ty e:TypeId) (i:TypeInfo) (z:Value) (size bytes:Nat) (ht:P.underlying t=some (.slice e)) (hi:P.info? e=some i) (hz:i.zero=some z)
 (hsize:i.size=size) (hby:i.bytes=bytes) (hzs:z.cells.size=size) (hsz:0 < size) (hJz:z.cells.toList.all J=true)
 (v:Value) (n:Nat) (xs:List Value) (hown:OwJ J w base e size v n xs)
 (a:Addr) (m c:Nat) (news:List Value) (hl:news.length=m * size) (hnews:∀ j u,news[j]?=some u→w.cell? (a.add j)=some u) (h1:∀ u∈news,u.oneCell'=true) (hJn:news.all J=true)
 (hm:0 < m) (h63:n+m≤maxLen) (hbytes:(n+m) * bytes≤140737488355328) (hbase:base≤w.heap.size) :
 ∃ g cap w',(Builtin.append_ #[t,t] ty #[v,.slice (some a) m c]).run P w=.ok (.slice (some ⟨g,0,none⟩) (n+m) cap) w'∧OwJ J w' base e size (.slice (some ⟨g,0,none⟩) (n+m) cap) (n+m) (xs ++ news) ∧
  w.grownBy w' v.ownBlock∧(v.ownBlock=some g∨g=w.heap.size):=by
 subst hsize
 subst hby
 have hsmall:n+m≤9223372036854775807:=by simp only [maxLen] at h63;omega
 have hlen:(xs ++ news).length=(n+m) * i.size:=by rw [List.length_append,hown.1,hl,Nat.add_mul]
 have fresh:∀ (old:Nat),xs.all J=true →
  OwJ J (w.drew.alloc (.cells (xs.toArray ++ news.toArray ++ Builtin.zeroCells z.cells (grownCap w (n+m) old e - (n+m))) e)) base e i.size (.slice (some ⟨w.heap.size,0,none⟩) (n+m) (grownCap w (n+m) old e)) (n+m) (xs ++ news):=by
  intro old hx;have hge:=grownCap_ge w (n+m) old e;refine ⟨hlen,.inr ⟨w.heap.size,_,_,rfl,hbase,heap_alloc_new w.drew _,hge,grownCap_le_maxLen w (n+m) old e h63,?_,?_,?_⟩⟩
  ·simp only [Array.size_append,List.size_toArray,size_zeroCells,hzs,hown.1,hl,← Nat.add_mul]
   congr 1;omega
  ·simp only [Array.toList_append,List.append_assoc]
   rw [← List.append_assoc,← hlen];exact List.take_left
  simp only [Array.toList_append,List.all_append,hx,hJn,Bool.true_and];exact rN hJz (by omega) _
 have gb:∀ (o:Obj) (row:Option Nat),w.grownBy (w.drew.alloc o) row:=fun o row=>⟨rfl,rfl,rfl,by simp,fun k hk _=>Below.heap_alloc w.drew o k hk⟩
 rcases hown.2 with ⟨rfl,rfl⟩ | ⟨g,cap,cur,rfl,hbg,hg,hnc,hcm,hcs,htake,hJ⟩
 ·have hx:xs=[]:=List.eq_nil_of_length_eq_zero (by simpa using hown.1)
  subst hx;have hr:=run_append_nil (P:=P) w t ty e i z ht hi hz a m c news hl hnews (by omega) (by omega) (by have hb:=hbytes;simp only [Nat.zero_add] at hb;omega);have hf:=fresh 0 rfl;simp only [Nat.zero_add,List.nil_append,Array.empty_append] at hf ⊢;exact ⟨_,_,_,hr,hf,gb _ _,.inr rfl⟩
 by_cases hroom:n+m≤cap
 ·have hfit:n * i.size+news.length≤cur.size:=by rw [hl,hcs,← Nat.add_mul];exact Nat.mul_le_mul_right _ hroom
  have hr:=run_append_room (P:=P) w t ty e i ht hi g n cap cur hg a m c news hl hnews h1 hroom hfit;refine ⟨g,cap,_,hr,⟨hlen,.inr ⟨g,cap,_,rfl,hbg,setRow_heap w g cur _ e _ hg,hroom,hcm,?_,?_,?_⟩⟩,⟨rfl,rfl,rfl,by simp,fun k _ hk=>setRow_other w g k _ (fun e=>hk (by simp [Value.ownBlock,e]))⟩,.inl rfl⟩
  ·simp only [List.size_toArray,List.length_append,List.length_take,List.length_drop,Array.length_toList]
   omega
  ·rw [htake,← hlen]
   exact List.take_left
  rw [List.all_eq_true] at hJ hJn ⊢;intro x hx;rcases List.mem_append.1 hx with hx | hx
  ·rcases List.mem_append.1 hx with hx | hx
   ·exact hJ x (List.mem_of_mem_take hx)
   exact hJn x hx
  exact hJ x (List.mem_of_mem_drop hx)
 have holds:∀ j u,xs[j]?=some u→w.cell? ((⟨g,0,none⟩:Addr).add j)=some u:=hown.own.cells (g:=g) rfl;have hr:=run_append_grow (P:=P) w t ty e i z ht hi hz ⟨g,0,none⟩ n cap xs hown.1 holds a m c news hl hnews (by omega) (by omega) (growslice_fits (by omega) hbytes);exact ⟨_,_,_,hr,fresh cap (by rw [List.all_eq_true] at hJ ⊢;intro x hx;rw [← htake] at hx;exact hJ x (List.mem_of_mem_take hx)),gb _ _,.inr rfl⟩
theorem cQ {ops:Array Oper}{rest:List Oper}{o:Oper}{a:Act}{Q:Exit→Act→World→Prop}(hgd:o.guard=none) (J:Value→Bool) (s x:Operand) (t:TypeId)
 (ho:o.op=.call { callee:=.builtin .append,args:=#[s,x],argTypes:=#[t,t] })
 (base:Nat) (e:TypeId) (i:TypeInfo) (z:Value) (size bytes:Nat) (ht:P.underlying t=some (.slice e)) (hi:P.info? e=some i) (hz:i.zero=some z)
 (hsize:i.size=size) (hby:i.bytes=bytes) (hzs:z.cells.size=size) (hsz:0 < size) (hJz:z.cells.toList.all J=true)
 (v:Value) (n:Nat) (xs:List Value) (hs:a.eval s=v) (hown:OwJ J w base e size v n xs)
 (ad:Addr) (m c:Nat) (news:List Value) (hx:a.eval x=.slice (some ad) m c) (hl:news.length=m * size) (hnews:∀ j u,news[j]?=some u→w.cell? (ad.add j)=some u) (h1:∀ u∈news,u.oneCell'=true) (hJn:news.all J=true)
 (hm:0 < m) (h63:n+m≤maxLen) (hbytes:(n+m) * bytes≤140737488355328) (hbase:base≤w.heap.size)
 (h:∀ g cap w',OwJ J w' base e size (.slice (some ⟨g,0,none⟩) (n+m) cap) (n+m) (xs ++ news)→w.grownBy w' v.ownBlock→(v.ownBlock=some g∨g=w.heap.size)→wpList P ops Q rest (a.put o.dst (.slice (some ⟨g,0,none⟩) (n+m) cap)) w'):wpList P ops Q (o :: rest) a w :=
 wpList_plain hgd fun _ hK=>by
  obtain ⟨g,cap,w',hr,h2,h3,h4⟩:=fX (P:=P) w J base t o.type e i z size bytes ht hi hz hsize hby hzs hsz hJz v n xs hown ad m c news hl hnews h1 hJn hm h63 hbytes hbase;unfold Oper.wp execOp;simp only [ho,resolve,invoke,builtin,Sem.run_bind,Sem.run_pure,Result.andThen_ok,List.map_toArray,List.map_cons,List.map_nil,hs,hx,hr];exact hK _ _ (h g cap w' h2 h3 h4)
theorem dj {o:Oper}{a:Act}{K:Act→World→Prop}{Q:Exit→Act→World→Prop}(J:Value→Bool) (s x:Operand) (t:TypeId)
 (ho:o.op=.call { callee:=.builtin .append,args:=#[s,x],argTypes:=#[t,t] })
 (base:Nat) (e:TypeId) (i:TypeInfo) (z:Value) (size bytes:Nat) (ht:P.underlying t=some (.slice e)) (hi:P.info? e=some i) (hz:i.zero=some z)
 (hsize:i.size=size) (hby:i.bytes=bytes) (hzs:z.cells.size=size) (hsz:0 < size) (hJz:z.cells.toList.all J=true)
 (v:Value) (n:Nat) (xs:List Value) (hs:a.eval s=v) (hown:OwJ J w base e size v n xs)
 (ad:Addr) (m c:Nat) (news:List Value) (hx:a.eval x=.slice (some ad) m c) (hl:news.length=m * size) (hnews:∀ j u,news[j]?=some u→w.cell? (ad.add j)=some u) (h1:∀ u∈news,u.oneCell'=true) (hJn:news.all J=true)
 (hm:0 < m) (h63:n+m≤maxLen) (hbytes:(n+m) * bytes≤140737488355328) (hbase:base≤w.heap.size)
 (h:∀ g cap w',OwJ J w' base e size (.slice (some ⟨g,0,none⟩) (n+m) cap) (n+m) (xs ++ news)→w.grownBy w' v.ownBlock→(v.ownBlock=some g∨g=w.heap.size)→K (a.put o.dst (.slice (some ⟨g,0,none⟩) (n+m) cap)) w'):o.wp P a w K Q:=by
 obtain ⟨g,cap,w',hr,h2,h3,h4⟩:=fX (P:=P) w J base t o.type e i z size bytes ht hi hz hsize hby hzs hsz hJz v n xs hown ad m c news hl hnews h1 hJn hm h63 hbytes hbase;unfold Oper.wp execOp;simp only [ho,resolve,invoke,builtin,Sem.run_bind,Sem.run_pure,Result.andThen_ok,List.map_toArray,List.map_cons,List.map_nil,hs,hx,hr];exact h g cap w' h2 h3 h4
end
/-! What touches blocks of certain types only. -/
def isU (v:Value):Bool:=match v with | .int .u32 _=>true | _=>false
def noW (v:Value):Bool:=!isU v
def Tch (T:TypeId→Bool) (w w':World):Prop:=w.heap.size≤w'.heap.size∧∀ (g:Nat) cur t fr,w.heap[g]?=some (.cells cur t fr)→(T t=false∨cur.toList.all noW=false)→w'.heap[g]?=some (.cells cur t fr)
section
variable {T:TypeId→Bool}{w w' w2:World}
theorem Tch.refl (w:World):Tch T w w:=⟨Qr,fun _ _ _ _ h _=>h⟩
theorem Tch.trans (h:Tch T w w') (k:Tch T w' w2):Tch T w w2:=⟨Nat.le_trans h.1 k.1,fun g cur t fr x y=>k.2 g cur t fr (h.2 g cur t fr x y) y⟩
theorem Tch.below (h:Below w.heap.size w w'):Tch T w w':=⟨h.size,fun g _ _ _ x _=>(h.block g (lt_of_block x)).trans x⟩
theorem Tch.more (h:Tch T w w') (k:Below w'.heap.size w' w2):Tch T w w2:=h.trans (Tch.below k)
theorem Tch.mono {T':TypeId→Bool}(h:Tch T w w') (hT:∀ t,T t=true→T' t=true):Tch T' w w':=⟨h.1,fun g cur t fr x y=>h.2 g cur t fr x (y.imp (fun h=>by cases e:T t;rfl;rw [hT t e] at h;cases h) id)⟩
theorem Tch.of_ne {g0:Nat}{cur:Array Value}{t:TypeId}{fr:Nat × Nat}(hs:w.heap.size≤w'.heap.size) (hg:w.heap[g0]?=some (.cells cur t fr)) (hT:T t=true) (hc:cur.toList.all noW=true) (h:∀ g,g < w.heap.size→g≠g0→w'.heap[g]?=w.heap[g]?):Tch T w w':=by
 refine ⟨hs,fun g c t' fr' x y=>?_⟩;by_cases e:g=g0
 ·subst e
  rw [hg] at x;injection x with x;injection x with x1 x2;subst x1 x2;rw [hT,hc] at y;rcases y with y | y <;> cases y
 rw [h g (lt_of_block x) e];exact x
theorem Tch.set {g0:Nat}{cur:Array Value}{t:TypeId}(hg:Blk w g0 t cur) (hT:T t=true) (hc:cur.toList.all noW=true) (i:Nat) (u:Value):Tch T w (w.setCell ⟨g0,i,none⟩ u) :=
 Tch.of_ne (by simp [World.setCell]) hg hT hc fun g _ hne=>Below.heap_setCell w ⟨g0,i,none⟩ u g hne
theorem Tch.grown {J:Value→Bool}{base:Nat}{e:TypeId}{size:Nat}{v:Value}{n:Nat}{xs:List Value}(hJ:∀ u,J u=true→noW u=true) (hT:T e=true) (h:OwJ J w base e size v n xs) (hg:w.grownBy w' v.ownBlock):Tch T w w':=by
 cases hv:v.ownBlock with
 | none=>exact ⟨hg.size,fun g _ _ _ x _=>(hg.block g (lt_of_block x) (by rw [hv];simp)).trans x⟩
 | some g0 =>
  obtain ⟨_,cur,h3,h4⟩:=h.at_ hv;refine Tch.of_ne hg.size h3 hT ?_ fun g hlt hne=>hg.block g hlt (by rw [hv];simpa using hne)
  rw [List.all_eq_true] at h4 ⊢;exact fun u hu=>hJ u (h4 u hu)
theorem Wd.tch {A:Option Addr}{n c:Nat}{l:List Nat}(x:Wd w A n c l) (h:Tch T w w'):Wd w' A n c l:=by
 refine ⟨x.1,x.2.1,x.2.2.1,fun hn=>?_⟩;obtain ⟨g,o,cur,fr,e,⟨t,hr,hb⟩,hc⟩:=x.2.2.2 hn;refine ⟨g,o,cur,fr,e,⟨t,hr,h.2 g cur t fr hb (.inr ?_)⟩,hc⟩;have h0:=hc 0 hn;rw [List.all_eq_false];exact ⟨_,by rw [Array.mem_toList_iff];exact Array.mem_of_getElem? h0,by simp [noW,isU]⟩
theorem QD.tch {b:Bool}{A D:Option Addr}{n c m e k:Nat}{r:RD}(x:QD w b A n c D m e r k) (h:Tch T w w'):QD w' b A n c D m e r k:=⟨x.1,x.2.1.tch h,x.2.2.1.tch h,x.2.2.2⟩
end
def SlT {α:Type}(T0:TypeId) (P:World→Nat→Nat→α→Prop) (s:Nat) (w:World) (A:Option Addr) (n c:Nat) (l:List α):Prop :=
  l.length=n∧n≤c∧(0 < n→∃ g o cur fr,A=some ⟨g,o,none⟩∧w.heap[g]?=some (.cells cur T0 fr)∧∀ i a,l[i]?=some a→P w g (o+i * s) a)
theorem SlT.sl {α:Type}{T0:TypeId}{P P':World→Nat→Nat→α→Prop}{s:Nat}{w:World}{A:Option Addr}{n c:Nat}{l:List α}(h:SlT T0 P s w A n c l) (hP:∀ g o a,P w g o a→P' w g o a):SlS P' s w A n c l:=by
 refine ⟨h.1,h.2.1,fun hn=>?_⟩;obtain ⟨g,o,cur,fr,e,hb,h3⟩:=h.2.2 hn;exact ⟨g,o,e,lt_of_block hb,fun i a ha=>hP _ _ _ (h3 i a ha)⟩
theorem SlT.nil {α:Type}(T0:TypeId) (P:World→Nat→Nat→α→Prop) (s:Nat) (w:World):SlT T0 P s w none 0 0 ([]:List α):=⟨rfl,Qr,fun h=>absurd h (by omega)⟩
section
variable {T:TypeId→Bool}{w w':World}
theorem SlT.tch {α:Type}{T0:TypeId}{P:World→Nat→Nat→α→Prop}{s:Nat}{A:Option Addr}{n c:Nat}{l:List α}(x:SlT T0 P s w A n c l) (h:Tch T w w') (hT:T T0=false) (hP:∀ g o a,w'.heap[g]?=w.heap[g]?→P w g o a→P w' g o a):SlT T0 P s w' A n c l:=by
 refine ⟨x.1,x.2.1,fun hn=>?_⟩;obtain ⟨g,o,cur,fr,e,hb,h3⟩:=x.2.2 hn;have hb':=h.2 g cur T0 fr hb (.inl hT);exact ⟨g,o,cur,fr,e,hb',fun i a ha=>hP _ _ _ (hb'.trans hb.symm) (h3 i a ha)⟩
theorem eT {g o:Nat}(hs:w'.heap[g]?=w.heap[g]?):w'.cell? ⟨g,o,none⟩=w.cell? ⟨g,o,none⟩:=by unfold World.cell?;rw [hs]
theorem cz.tch {g o k:Nat}{r:RD}(hs:w'.heap[g]?=w.heap[g]?) (h:Tch T w w') (x:cz w g o r k):cz w' g o r k:=by
 obtain ⟨b,A,n,c,D,m,e,h1,h2,h3,h4⟩:=x;exact ⟨b,A,n,c,D,m,e,(eT hs).trans h1,(eT hs).trans h2,(eT hs).trans h3,h4.tch h⟩
theorem de.tch {g o k:Nat}{m:aA}(hs:w'.heap[g]?=w.heap[g]?) (h:Tch T w w') (x:de k w g o m):de k w' g o m :=
 ⟨(eT hs).trans x.1,x.2.1.tch hs h,x.2.2.1.tch hs h,x.2.2.2⟩
abbrev jk (k:Nat) (w:World) (A:Option Addr) (n c:Nat) (l:List aA):Prop:=SlT 67 (de k) 7 w A n c l
theorem jk.tch {k:Nat}{A:Option Addr}{n c:Nat}{l:List aA}(x:jk k w A n c l) (h:Tch T w w') (hT:T 67=false):jk k w' A n c l:=SlT.tch x h hT fun _ _ _ hs p=>p.tch hs h
end
/-! A thing's cells. -/
def MkC (k:Nat) (w:World) (cs:List Value) (m:aA):Prop:=∃ b A n c D m1 e b' A' n' c' D' m' e',cs=[af m.name,.bool b,.slice A n c,.slice D m1 e,.bool b',.slice A' n' c',.slice D' m' e']∧QD w b A n c D m1 e m.x k∧QD w b' A' n' c' D' m' e' m.y k∧NmL m.name
def BdC (k:Nat) (w:World) (cs:List Value) (b:aq):Prop:=∃ A n c,cs=[af b.name,.slice A n c]∧jk k w A n c b.pts∧NmL b.name
def JtC (_:World) (cs:List Value) (j:aQ):Prop:=cs=[af j.name,.int .i64 j.kind,.int .i64 j.a,.int .i64 j.point,.int .i64 j.b,.int .i64 j.on,.int .i64 j.to_]∧NmL j.name
def DrC (_:World) (cs:List Value) (d:aU):Prop:=cs=[af d.name,.int .i64 d.body]∧NmL d.name
section
variable {T:TypeId→Bool}{w w':World}{k:Nat}{cs:List Value}
theorem MkC.tch {m:aA}(x:MkC k w cs m) (h:Tch T w w'):MkC k w' cs m:=by
 obtain ⟨b,A,n,c,D,m1,e,b',A',n',c',D',m',e',h0,h1,h2,h3⟩:=x;exact ⟨b,A,n,c,D,m1,e,b',A',n',c',D',m',e',h0,h1.tch h,h2.tch h,h3⟩
theorem BdC.tch {b:aq}(x:BdC k w cs b) (h:Tch T w w') (hT:T 67=false):BdC k w' cs b:=by
 obtain ⟨A,n,c,h0,h1,h2⟩:=x;exact ⟨A,n,c,h0,h1.tch h hT,h2⟩
theorem MkC.at_ {m:aA}{g o:Nat}(x:MkC k w cs m) (hc:∀ j u,cs[j]?=some u→w.cell? ⟨g,o+j,none⟩=some u):de k w g o m:=by
 obtain ⟨b,A,n,c,D,m1,e,b',A',n',c',D',m',e',rfl,h1,h2,h3⟩:=x;exact ⟨hc 0 _ rfl,⟨b,A,n,c,D,m1,e,hc 1 _ rfl,hc 2 _ rfl,hc 3 _ rfl,h1⟩,⟨b',A',n',c',D',m',e',hc 4 _ rfl,hc 5 _ rfl,hc 6 _ rfl,h2⟩,h3⟩
theorem BdC.at_ {b:aq}{g o:Nat}(x:BdC k w cs b) (hc:∀ j u,cs[j]?=some u→w.cell? ⟨g,o+j,none⟩=some u):du k w g o b:=by
 obtain ⟨A,n,c,rfl,h1,h2⟩:=x;exact ⟨A,n,c,hc 0 _ rfl,hc 1 _ rfl,h1.sl fun _ _ _ p=>p,h2⟩
theorem JtC.at_ {j:aQ}{g o:Nat}(x:JtC w cs j) (hc:∀ i u,cs[i]?=some u→w.cell? ⟨g,o+i,none⟩=some u):gQ w g o j:=by
 obtain ⟨rfl,h2⟩:=x;exact ⟨hc 0 _ rfl,hc 1 _ rfl,hc 2 _ rfl,hc 3 _ rfl,hc 4 _ rfl,hc 5 _ rfl,hc 6 _ rfl,h2⟩
theorem DrC.at_ {d:aU}{g o:Nat}(x:DrC w cs d) (hc:∀ i u,cs[i]?=some u→w.cell? ⟨g,o+i,none⟩=some u):gR w g o d:=by
 obtain ⟨rfl,h2⟩:=x;exact ⟨hc 0 _ rfl,hc 1 _ rfl,h2⟩
end
def eZ {α:Type}(Pc:World→List Value→α→Prop) (s:Nat) (w:World) (l:List α) (xs:List Value):Prop :=
  ∃ css:List (List Value),xs=css.flatten∧css.length=l.length∧(∀ cs∈css,cs.length=s)∧∀ (i:Nat) a cs,l[i]?=some a→css[i]?=some cs→Pc w cs a
theorem nL {s:Nat}:∀ {css:List (List Value)}{i:Nat}{cs:List Value},(∀ x∈css,x.length=s)→css[i]?=some cs→∀ j,j < s→css.flatten[i * s+j]?=cs[j]?
 | [],i,cs,_,h,_,_=>by simp at h
 | x :: css,0,cs,hl,h,j,hj=>by
  simp only [List.getElem?_cons_zero,Option.some.injEq] at h;subst h;have:=hl x (by simp);rw [List.flatten_cons,Nat.zero_mul,Nat.zero_add,List.getElem?_append_left (by omega)]
 | x :: css,i+1,cs,hl,h,j,hj=>by
  have hx:=hl x (by simp);rw [List.flatten_cons,List.getElem?_append_right (by rw [hx,Nat.add_mul];omega),hx,show (i+1) * s+j - s=i * s+j by rw [Nat.add_mul];omega];exact nL (fun y hy=>hl y (by simp [hy])) (by simpa using h) j hj
section
variable {α:Type}{Pc:World→List Value→α→Prop}{s:Nat}{w w':World}{l:List α}{xs:List Value}
theorem eZ.nil:eZ Pc s w ([]:List α) []:=by
 refine ⟨[],rfl,rfl,?_,?_⟩
 ·intro cs h;cases h
 intro i a cs h;simp at h
theorem eZ.snoc {a:α}{cs:List Value}(h:eZ Pc s w l xs) (ha:Pc w cs a) (hs:cs.length=s):eZ Pc s w (l ++ [a]) (xs ++ cs):=by
 obtain ⟨css,e,hl,hall,hp⟩:=h;refine ⟨css ++ [cs],by simp [e],by simp [hl],fun x hx=>?_,fun i b ds hb hd=>?_⟩
 ·rcases List.mem_append.1 hx with hx | hx
  ·exact hall x hx
  simp at hx;subst hx;exact hs
 rcases Nat.lt_or_ge i l.length with hi | hi
 ·rw [List.getElem?_append_left hi] at hb
  rw [List.getElem?_append_left (by omega)] at hd;exact hp i b ds hb hd
 rw [List.getElem?_append_right hi] at hb;rw [List.getElem?_append_right (by omega),hl] at hd;rcases Nat.eq_zero_or_pos (i - l.length) with h0 | h0
 ·rw [h0] at hb hd
  simp at hb hd;subst hb hd;exact ha
 rw [List.getElem?_eq_none (by simp;omega)] at hb;cases hb
theorem eZ.map_ {w':World}(h:eZ Pc s w l xs) (hP:∀ cs a,Pc w cs a→Pc w' cs a):eZ Pc s w' l xs:=by
 obtain ⟨css,e,hl,hall,hp⟩:=h;exact ⟨css,e,hl,hall,fun i a cs h1 h2=>hP _ _ (hp i a cs h1 h2)⟩
end
def aO {α:Type}(T0:TypeId) (Pc:World→List Value→α→Prop) (s:Nat) (w:World) (base:Nat) (v:Value) (n:Nat) (l:List α):Prop:=l.length=n∧∃ xs,OwJ noW w base T0 s v n xs∧eZ Pc s w l xs
section
variable {α:Type}{T0:TypeId}{Pc:World→List Value→α→Prop}{s:Nat}{w w':World}{base:Nat}{v:Value}{n:Nat}{l:List α}
theorem aO.nil:aO T0 Pc s w base (.slice none 0 0) 0 ([]:List α):=⟨rfl,[],OwJ.nil _ _ _ _ _,eZ.nil⟩
theorem aO.form (h:aO T0 Pc s w base v n l):∃ A c,v=.slice A n c∧n≤c:=by
 obtain ⟨_,xs,h1,_⟩:=h;rcases h1.2 with ⟨rfl,rfl⟩ | ⟨g,cap,cur,rfl,_,_,h4,_⟩
 ·exact ⟨none,0,rfl,Qr⟩
 exact ⟨_,cap,rfl,h4⟩
theorem aO.slT {P:World→Nat→Nat→α→Prop}{A:Option Addr}{c:Nat}(h:aO T0 Pc s w base (.slice A n c) n l) (hP:∀ g o cs a,Pc w cs a→(∀ j u,cs[j]?=some u→w.cell? ⟨g,o+j,none⟩=some u)→P w g o a):SlT T0 P s w A n c l:=by
 obtain ⟨hl,xs,h1,css,e,hcl,hall,hp⟩:=h;rcases h1.2 with ⟨h2,rfl⟩ | ⟨g,cap,cur,h2,_,h3,h4,_,h6,h7,_⟩
 ·injection h2 with a1 _ a3
  subst a1 a3;exact ⟨hl,Qr,fun h=>absurd h (by omega)⟩
 injection h2 with a1 _ a3;subst a1 a3;refine ⟨hl,h4,fun _=>⟨g,0,cur,_,rfl,h3,fun i a ha=>?_⟩⟩;have hi:i < n:=by rw [← hl];exact (List.getElem?_eq_some_iff.1 ha).1
 have hcs:css[i]?=some css[i]:=List.getElem?_eq_getElem (by omega);refine hP _ _ _ _ (hp i a _ ha hcs) fun j u hu=>?_
 have hj:j < s:=by rw [← hall css[i] (List.getElem_mem _)];exact (List.getElem?_eq_some_iff.1 hu).1
 have h9:=nL hall hcs j hj;rw [hu,← e,← h7,List.getElem?_take] at h9;split at h9
 ·unfold World.cell?
  rw [h3];simpa using h9
 cases h9
theorem aO.same (h:aO T0 Pc s w base v n l) (hb:∀ g cur,base≤g→w.heap[g]?=some (.cells cur T0 (0,0))→w'.heap[g]?=some (.cells cur T0 (0,0))) (hP:∀ cs a,Pc w cs a→Pc w' cs a):aO T0 Pc s w' base v n l:=by
 obtain ⟨hl,xs,h1,h2⟩:=h;refine ⟨hl,xs,⟨h1.1,?_⟩,h2.map_ hP⟩;rcases h1.2 with h3 | ⟨g,cap,cur,h3,h4,h5,h6⟩
 ·exact .inl h3
 exact .inr ⟨g,cap,cur,h3,h4,hb g cur h4 h5,h6⟩
theorem aO.tch {T:TypeId→Bool}(h:aO T0 Pc s w base v n l) (ht:Tch T w w') (hT:T T0=false) (hP:∀ cs a,Pc w cs a→Pc w' cs a):aO T0 Pc s w' base v n l:=h.same (fun g cur _ hg=>ht.2 g cur T0 _ hg (.inl hT)) hP
end
theorem ti (w:World) (s:List UInt8):Calls Tryz.prog 227 #[af s,.string ⟨#[48]⟩] w (aE w (af (s.dropWhile (· == 48)))):=by
 refine (Tryz.strings_TrimLeft_one ⟨s.toArray⟩ 48 (by decide) w).mono fun e w' ⟨he,hw⟩=>⟨?_,hw ▸ aa _⟩
 rw [he];congr 2
theorem uB (w:World) (s:List UInt8) (m:Bool) (b:List UInt8) (hm:bS s=m) (hb:bF s=b):Calls Tryz.prog 88 #[af s,.string ⟨#[45]⟩] w (aE w (.tuple #[af b,.bool m])):=by
 refine (Tryz.strings_CutPrefix ⟨s.toArray⟩ ⟨#[45]⟩ w).mono fun e w' ⟨he,hw⟩=>⟨?_,hw ▸ aa _⟩
 rw [he];have e1:Lib.hasPrefix s [45]=m:=(er s).trans hm;have e2:Lib.trimPrefix s [45]=b:=(fB s).trans hb;show Ending.returned (.tuple #[.string ⟨(Lib.trimPrefix s [45]).toArray⟩,.bool (Lib.hasPrefix s [45])])=_;rw [e1,e2]
theorem vJ (w:World) (n:Nat) (hn:n≤1000) (Z:List UInt8) (hZ:List.replicate n 48=Z):Calls Tryz.prog 65 #[.string ⟨#[48]⟩,.int .i64 (n:Nat)] w (aE w (af Z)):=by
 refine (Tryz.strings_Repeat ⟨#[48]⟩ n w (by omega) (by show 1 * n≤_;omega)).mono fun e w' ⟨he,hb⟩=>⟨?_,hb⟩
 subst hZ;rw [he]
 have e9:∀ k,Lib.repeatL [48] k=List.replicate k 48:=fun k=>by
  induction k with
  | zero=>rfl
  | succ k ih=>rw [Lib.repeatL,ih,List.replicate_succ];rfl
 exact congrArg (fun x:List UInt8=>Ending.returned (af x)) (e9 n)
theorem nM (w:World) (T:List UInt8) (z:Int) (ho:okZ T=true) (hz:dQ T=z) (hl:T.length≤130):Calls Tryz.prog 188 #[af T] w (fC w .nilIface z 130):=by
 subst hz;exact (mE w T (by omega) ho).mono fun e w' ⟨b,A,n,c,h1,h2,h3⟩=>⟨b,A,n,c,h1,h2.mono hl,h3⟩
theorem nN (w:World) (s t:List UInt8) (ht:cd s=t):Calls Tryz.prog 189 #[af s] w (aE w (af t)):=by
 obtain ⟨u,hu⟩:∃ u,s.dropWhile (· == 48)=u:=⟨_,rfl⟩;unfold cd at ht;rw [hu] at ht;have HT:=ti w s;rw [hu] at HT;have HT:=Qh HT;by_cases h0:u=[]
 ·subst h0
  obtain rfl:[48]=t:=ht;clear hu;go_in;go_wp2_with fail;(with_reducible refine HT.out.mono ?_);rintro e w1 ⟨rfl,hb1⟩;go_wp2;go_ret;exact ⟨rfl,hb1⟩
 obtain rfl:u=t:=by rw [if_neg h0] at ht;exact ht
 obtain ⟨y,ys,hyy⟩:=List.exists_cons_of_ne_nil h0;have hBe:((⟨u.toArray⟩:ByteArray) == ⟨#[]⟩)=false:=by rw [hyy];rfl
 have hBl:(u == [])=false:=by rw [hyy];rfl
 have hBn:(u=[])=False:=eq_false h0;clear hu hyy h0;go_in;go_wp2_with fail;(with_reducible refine HT.out.mono ?_);rintro e w1 ⟨rfl,hb1⟩;go_wp2;go_ret;exact ⟨rfl,hb1⟩
theorem jl (w:World) (s:List UInt8) (h:60 < s.length):Calls Tryz.prog 150 #[af s] w (fy w (.iface 49 (.int .i64 4)) 0 1):=by
 have hszs:=ai s;have hlen:((60:Int) < (s.length:Int))=True:=eq_true (by omega);go_in;go_wp2_with fail;refine bodyPost_ret (v:=.tuple #[.agg #[.bool false,.slice none 0 0,.slice none 0 0],.iface 49 (.int .i64 4)]) (by simp [results,Tryz.results150,go_sem, *] <;> trivial) rfl ?_;exact ⟨_,_,_,_,_,_,_,rfl,QV.zero _ _,((aa w).alloc (by first | omega | (simp <;> omega)) (.cells #[.bool false,.slice none 0 0,.slice none 0 0] 65))⟩
theorem lZ (w:World) (s:List UInt8) (h:s.length≤60) (hb:s.length=0∨bp s≠s.length):Calls Tryz.prog 150 #[af s] w (fy w (.iface 49 (.int .i64 2)) 0 1):=by
 have hszs:=ai s;have hlen:((60:Int) < (s.length:Int))=False:=eq_false (by omega);obtain ⟨n,hn⟩:∃ n,bp s=n:=⟨_,rfl⟩;have hnl:n≤s.length:=by rw [← hn];exact kt s
 rw [hn] at hb;by_cases h0:n=0
 ·subst h0
  clear hb;go_in;go_wp2_with fail;(with_reducible refine (bO _ (s) (by omega) 0 hn).mono ?_);rintro e w1 ⟨rfl,hb1⟩;have q1:=hb1.q1;have x1a:Blk w1 w.heap.size 65 #[.bool false,.slice none 0 0,.slice none 0 0]:=(am _ _ _ (by simp)).below hb1 (by simp);have bw1:=(aa w).trans (q1.mono (aa w).size);have lw1:=hb1.l1;clear q1;obtain ⟨cx1aa,cx1ab,cx1ac⟩:=x1a.c3;obtain ⟨fx1aa,fx1ab,fx1ac⟩:=x1a.f3;obtain ⟨lx1aa,lx1ab,lx1ac,lx1ad⟩:=eY x1a.lt;go_wp2_with fail;refine bodyPost_ret (v:=.tuple #[.agg #[.bool false,.slice none 0 0,.slice none 0 0],.iface 49 (.int .i64 2)]) (by simp [results,Tryz.results150,go_sem, *] <;> trivial) rfl ?_;exact ⟨_,_,_,_,_,_,_,rfl,QV.zero _ _,(((bw1.sc w.heap.size 0 (by omega) (.bool false)).sc w.heap.size 1 (by omega) (.slice none 0 0)).sc w.heap.size 2 (by omega) (.slice none 0 0))⟩
 have e0:((n:Int) == 0)=false:=by simp;omega
 have e00:((n:Int)=0)=False:=eq_false (by omega);have e1:((n:Int) == (s.length:Int))=false:=by simp;omega
 clear hb h0;go_in;go_wp2_with fail;(with_reducible refine (bO _ (s) (by omega) n hn).mono ?_);rintro e w1 ⟨rfl,hb1⟩;have q1:=hb1.q1;have x1a:Blk w1 w.heap.size 65 #[.bool false,.slice none 0 0,.slice none 0 0]:=(am _ _ _ (by simp)).below hb1 (by simp);have bw1:=(aa w).trans (q1.mono (aa w).size);have lw1:=hb1.l1;clear q1;obtain ⟨cx1aa,cx1ab,cx1ac⟩:=x1a.c3;obtain ⟨fx1aa,fx1ab,fx1ac⟩:=x1a.f3;obtain ⟨lx1aa,lx1ab,lx1ac,lx1ad⟩:=eY x1a.lt;go_wp2_with fail;refine bodyPost_ret (v:=.tuple #[.agg #[.bool false,.slice none 0 0,.slice none 0 0],.iface 49 (.int .i64 2)]) (by simp [results,Tryz.results150,go_sem, *] <;> trivial) rfl ?_;exact ⟨_,_,_,_,_,_,_,rfl,QV.zero _ _,(((bw1.sc w.heap.size 0 (by omega) (.bool false)).sc w.heap.size 1 (by omega) (.slice none 0 0)).sc w.heap.size 2 (by omega) (.slice none 0 0))⟩
theorem rO:ba 8=.iface 49 (.int .i64 8):=if_neg (by decide)
inductive jX (z d x:Int) (q:Rat):Prop
  | zero (hd:d=0) (hx:x=8) (hq:q=0)
  | ok (hd:d≠0) (hx:x=0) (hq:Rat.divInt z d=q) (hs:Sz q 130)
def iO (T:List UInt8) (z:Int):Prop:=okZ T=true∧dQ T=z∧T.length≤130
theorem eU (w:World) (s:List UInt8) (m:Bool) (B NT DT TN TD:List UInt8) (zn zd x:Int) (q:Rat) (hmx:Mx w) (h:s.length≤60) (hp:0 < s.length) (hn:bp s=s.length) (hh:bS s=m∧bF s=B) (hB:B.length≤60) (a1 b1 a2 b2 N1 D1:List UInt8) (f1 f2:Bool) (hc1:Lib.cut B [47]=(a1,b1,f1)) (hc2:Lib.cut B [46]=(a2,b2,f2)) (hl2:a2.length+b2.length≤60) (hs1:(if f1 then (a1,b1) else (B,[49]))=(N1,D1)) (hs2:(if f2 then (a2 ++ b2,49 :: List.replicate b2.length 48) else (N1,D1))=(NT,DT)) (h1:cd NT=TN) (h2:iO TN zn) (h3:cd DT=TD) (h4:iO TD zd) (hq:jX (if m then -zn else zn) zd x q) :
 Calls Tryz.prog 150 #[af s] w (fy w (ba x) q 130):=by
 have hszs:=ai s;have hlen:((60:Int) < (s.length:Int))=False:=eq_false (by omega);have hn0:((s.length:Int) == 0)=false:=beq_eq_false_iff_ne.2 (by omega);have hn00:((s.length:Int)=0)=False:=eq_false (by omega);have hsl:s.length < 4611686018427387904:=by omega
 have HH:=Qh hh;have HC1:=Qh hc1;have HC2:=Qh hc2;have HS1:=Qh hs1;have HS2:=Qh hs2;have H1:=Qh h1;have H2:=Qh h2;have H3:=Qh h3;have H4:=Qh h4;have HQ:=Qh hq;have HM:=Qh hmx;have HN:=Qh hn;clear hh hc1 hc2 hs1 hs2 h1 h2 h3 h4 hq hmx hn;go_in;go_wp2_with fail;(refine (bO _ s hsl s.length HN.out).mono ?_);rintro e w1 ⟨rfl,hb1⟩;have q1:Below w.heap.size w w1:=((aa w).alloc Qr _).trans (hb1.mono (by simp));have x1:Blk w1 w.heap.size 65 #[.bool false,.slice none 0 0,.slice none 0 0]:=(am _ _ _ (by simp)).below hb1 (by simp);clear hb1;go_wp2_with fail;(refine (uB _ s m B HH.out.1 HH.out.2).mono ?_);rintro e w2 ⟨rfl,hb2⟩;replace x1:=x1.b hb2;replace q1:=q1.trans (hb2.mono q1.size);clear hb2;go_wp2_with fail;(refine (dh _ B 47 a1 b1 f1 (HM.out.belw q1) (by omega) HC1.out).mono ?_);rintro e w3 ⟨rfl,hb3⟩;replace x1:=x1.b hb3;replace q1:=q1.trans (hb3.mono q1.size);clear hb3;go_upto_if 47 with fail;go_cut [7,8] (fun s7 s8 wx=>s7=af D1∧s8=af N1∧w3=wx)
 case first =>
  cases f1
  ·have e:=HS1.out
   simp only [Bool.false_eq_true,if_false,Prod.mk.injEq] at e;obtain ⟨rfl,rfl⟩:=e;go_wp2_with fail;go_meet;exact ⟨rfl,rfl,rfl⟩
  have e:=HS1.out;simp only [if_true,Prod.mk.injEq] at e;obtain ⟨rfl,rfl⟩:=e;go_wp2_with fail;go_meet;exact ⟨rfl,rfl,rfl⟩
 case rest =>
  obtain ⟨rfl,rfl,rfl⟩:=hcut;clear HS1 HC1;go_wp2_with fail;(refine (dh _ B 46 a2 b2 f2 (HM.out.belw q1) (by omega) HC2.out).mono ?_);rintro e w4 ⟨rfl,hb4⟩;replace x1:=x1.b hb4;replace q1:=q1.trans (hb4.mono q1.size);clear hb4;go_upto_if 56 with fail;go_cut [7,8] (fun s7 s8 wx=>s7=af DT∧s8=af NT∧Blk wx w.heap.size 65 #[.bool false,.slice none 0 0,.slice none 0 0]∧Below w.heap.size w wx)
  case first =>
   cases f2
   ·have e:=HS2.out
    simp only [Bool.false_eq_true,if_false,Prod.mk.injEq] at e;obtain ⟨rfl,rfl⟩:=e;go_wp2_with fail;go_meet;exact ⟨rfl,rfl,x1,q1⟩
   have e:=HS2.out;simp only [if_true,Prod.mk.injEq] at e;obtain ⟨rfl,rfl⟩:=e;obtain ⟨Z,hZ⟩:∃ Z:List UInt8,List.replicate b2.length 48=Z:=⟨_,rfl⟩;have hZl:Z.length=b2.length:=by rw [← hZ];simp
   have HZ:=Qh hZ;have ha1:=bB a2 b2;have ha2:=bB [49] Z;have hk1:(9223372036854775807 < a2.length+b2.length)=False:=eq_false (by omega);have hk2:(9223372036854775807 < 1+Z.length)=False:=eq_false (by omega);clear hZ hZl;go_wp2_with fail;(refine (vJ _ b2.length (by omega) Z HZ.out).mono ?_);rintro e w5 ⟨rfl,hb5⟩;go_wp2_with fail;go_meet;exact ⟨by rw [HZ.out],rfl,x1.below hb5 x1.lt,q1.trans (hb5.mono q1.size)⟩
  case rest =>
   clear x1 q1 HS2 HC2;obtain ⟨rfl,rfl,x1,q1⟩:=hcut;rename World=>w6;go_wp2_with fail;(refine (nN _ NT TN H1.out).mono ?_);rintro e w7 ⟨rfl,hb7⟩;replace x1:=x1.b hb7;replace q1:=q1.trans (hb7.mono q1.size);clear hb7;go_wp2_with fail;(refine (nM _ TN zn H2.out.1 H2.out.2.1 H2.out.2.2).mono ?_);rintro e w8 ⟨b3,A3,n3,c3,rfl,h3,hb8⟩;replace x1:=x1.b hb8;replace q1:=q1.trans (hb8.mono q1.size);clear hb8;go_upto_region 16 with fail;refine km ?_;intro w9 hw9;have q9:Below w8.heap.size w8 w9:=by rw [hw9];exact (aa w8).alloc Qr _
   have x9:Blk w9 w8.heap.size 194 #[.bool b3,.slice A3 n3 c3]:=by rw [hw9];exact Blk.new w8 _ _
   have l9:=x1.lt;replace x1:=x1.b q9;replace h3:=h3.belw q9;replace q1:=q1.trans (q9.mono q1.size);obtain ⟨g,hg⟩:∃ g,w8.heap.size=g:=⟨_,rfl⟩;rw [hg] at x9 l9 ⊢;clear hw9 q9 hg;go_wp2_with fail;(refine (nN _ DT TD H3.out).mono ?_);rintro e w10 ⟨rfl,hb10⟩;replace x1:=x1.b hb10;replace x9:=x9.b hb10;replace h3:=h3.belw hb10;replace q1:=q1.trans (hb10.mono q1.size);clear hb10;go_wp2_with fail;(refine (nM _ TD zd H4.out.1 H4.out.2.1 H4.out.2.2).mono ?_);rintro e w11 ⟨b4,A4,n4,c4,rfl,h4,hb11⟩;replace x1:=x1.b hb11;replace x9:=x9.b hb11;replace h3:=h3.belw hb11;replace q1:=q1.trans (hb11.mono q1.size);clear hb11;go_upto_region 19 with fail;refine km ?_;intro w12 hw12;have q12:Below w11.heap.size w11 w12:=by rw [hw12];exact (aa w11).alloc Qr _
   have x12:Blk w12 w11.heap.size 194 #[.bool b4,.slice A4 n4 c4]:=by rw [hw12];exact Blk.new w11 _ _
   have l12:=x9.lt;replace x1:=x1.b q12;replace x9:=x9.b q12;replace h3:=h3.belw q12;replace h4:=h4.belw q12;replace q1:=q1.trans (q12.mono q1.size);obtain ⟨g2,hg2⟩:∃ g,w11.heap.size=g:=⟨_,rfl⟩;rw [hg2] at x12 l12 ⊢;clear hw12 q12 hg2;go_upto_if 84 with fail;obtain ⟨zs,hzs⟩:∃ z,(if m then -zn else zn)=z:=⟨_,rfl⟩;rw [hzs] at HQ;have HZS:=Qh hzs;clear hzs;go_cut [] (fun wx=>∃ b5 A5 n5 c5,Blk wx w.heap.size 65 #[.bool false,.slice none 0 0,.slice none 0 0]∧Blk wx g 194 #[.bool b5,.slice A5 n5 c5]∧Blk wx g2 194 #[.bool b4,.slice A4 n4 c4]∧IZ wx b5 A5 n5 c5 zs 130∧IZ wx b4 A4 n4 c4 zd 130∧Below w.heap.size w wx)
   case first =>
    cases m
    ·obtain rfl:zn=zs:=HZS.out
     go_wp2_with fail;go_meet;exact ⟨_,_,_,_,x1,x9,x12,h3.iz,h4.iz,q1⟩
    obtain rfl:-zn=zs:=HZS.out;have y:=x9.v2;go_wp2_with fail;(refine (nr _ b3 A3 n3 c3 zn 130 h3.iz (by decide)).mono ?_);rintro e w13 ⟨b5,A5,n5,c5,rfl,h5,hb13⟩;replace x1:=x1.b hb13;replace x9:=x9.b hb13;replace x12:=x12.b hb13;replace h4:=h4.belw hb13;replace q1:=q1.trans (hb13.mono q1.size);clear hb13 y;have y:=x9.v2;go_wp2_with fail;go_meet;have kp:=x9.k2 (by decide) (.bool b5) (.slice A5 n5 c5);exact ⟨_,_,_,_,(x1.far (p:=⟨g,0,none⟩) (by show w.heap.size≠g;omega) _).far (p:=⟨g,1,none⟩) (by show w.heap.size≠g;omega) _,(x9.set_ 0 _).set_ 1 _,(x12.far (p:=⟨g,0,none⟩) (by show g2≠g;omega) _).far (p:=⟨g,1,none⟩) (by show g2≠g;omega) _,h5.iz.keep kp,h4.iz.keep kp,(q1.setCell (p:=⟨g,0,none⟩) (by show w.heap.size≤g;omega) _).setCell (p:=⟨g,1,none⟩) (by show w.heap.size≤g;omega) _⟩
   case rest =>
    clear x1 x9 x12 h3 h4 q1;obtain ⟨b5,A5,n5,c5,x1,x9,x12,h5,h4,q1⟩:=hcut;rename World=>w14;have y:=And.intro x9.v2 x12.v2;go_wp2_with fail;rcases HQ.out with ⟨hd,rfl,rfl⟩ | ⟨hd,rfl,hq,hs⟩
    ·(refine (qY _ b5 A5 n5 c5 zs 130 h5 b4 A4 n4 c4 zd 130 h4 hd (by decide)).mono ?_);rintro e w15 ⟨b6,A6,n6,c6,D6,m6,e6,rfl,h6,hb15⟩
     replace x1:=x1.b hb15;replace q1:=q1.trans (hb15.mono q1.size);clear hb15 y;have y:=x1.v3;go_wp2_with fail;refine bodyPost_ret (v:=.tuple #[.agg #[.bool b6,.slice A6 n6 c6,.slice D6 m6 e6],ba 8]) (by simp [results,Tryz.results150,go_sem,rO, *] <;> trivial) rfl ?_;exact ⟨_,_,_,_,_,_,_,rfl,(h6.keep (x1.k3 (by decide) _ _ _)).mono (by decide),((q1.setCell (p:=⟨w.heap.size,0,none⟩) Qr _).setCell (p:=⟨w.heap.size,1,none⟩) Qr _).setCell (p:=⟨w.heap.size,2,none⟩) Qr _⟩
    (refine (un _ b5 A5 n5 c5 zs 130 h5 b4 A4 n4 c4 zd 130 h4 q 130 hd hq hs (by decide)).mono ?_);rintro e w15 ⟨b6,A6,n6,c6,D6,m6,e6,rfl,h6,hb15⟩;replace x1:=x1.b hb15;replace q1:=q1.trans (hb15.mono q1.size);clear hb15 y;have y:=x1.v3;go_wp2_with fail;refine bodyPost_ret (v:=.tuple #[.agg #[.bool b6,.slice A6 n6 c6,.slice D6 m6 e6],ba 0]) (by simp [results,Tryz.results150,go_sem,bH, *] <;> trivial) rfl ?_;exact ⟨_,_,_,_,_,_,_,rfl,h6.keep (x1.k3 (by decide) _ _ _),((q1.setCell (p:=⟨w.heap.size,0,none⟩) Qr _).setCell (p:=⟨w.heap.size,1,none⟩) Qr _).setCell (p:=⟨w.heap.size,2,none⟩) Qr _⟩
theorem iO.dg {D:List UInt8}(h:D.all aF=true) (hl:D.length≤120):iO (cd D) ((ah D:Nat):Int):=by
 obtain ⟨h1,h2,h3⟩:=rH h;exact ⟨h1,h2,by omega⟩
theorem jX.val {m:Bool}{zn zd:Nat}(hn:zn < 4294967296 ^ 60) (hd:zd < 4294967296 ^ 60) (h0:zd≠0):jX (if m then -(zn:Int) else zn) zd 0 (Rat.divInt (sgI m zn) zd):=by
 have e:(if m then -(zn:Int) else (zn:Int))=sgI m zn:=by cases m <;> rfl
 rw [e];exact .ok (by omega) rfl rfl (nX (by rw [td];exact Nat.lt_trans hn (Nat.pow_lt_pow_right (by decide) (by decide))) (by rw [Int.natAbs_natCast];exact Nat.lt_trans hd (Nat.pow_lt_pow_right (by decide) (by decide))) (by decide))
theorem mY {D E:List UInt8}(hD:isD D) (hE:isD E) {c d:UInt8}(hc:aF c=false) (hd:c≠d):c ∉ D ++ d :: E:=by
 intro hm;rcases List.mem_append.1 hm with e | e
 ·exact fp hD hc e
 rcases List.mem_cons.1 e with e | e
 ·exact absurd e hd
 exact fp hE hc e
theorem pj (w:World) (s:List UInt8) (x:Int) (q:Rat) (hmx:Mx w) (h:kH s x q) (hx:¬ 60 < s.length) (hb:¬ (s.length=0∨bp s≠s.length)):Calls Tryz.prog 150 #[af s] w (fy w (ba x) q 130):=by
 have d1:(10:Nat) ^ 60 < 4294967296 ^ 60:=by decide
 rcases h with ⟨h,_,_⟩ | ⟨_,h,_,_⟩ | ⟨m,D,h,hn,hD,hs,rfl,rfl⟩ | ⟨m,D,E,h,hn,hD,hE,hs,h0,rfl,rfl⟩ | ⟨m,D,E,h,hn,hD,hE,hs,h0,rfl,rfl⟩ | ⟨m,D,E,h,hn,hD,hE,hs,rfl,rfl⟩
 ·exact absurd h hx
 ·exact absurd h hb
 ·have hh:=fS (m:=m) (r:=[]) hD
  rw [List.append_nil,← hs] at hh;have hl:D.length≤s.length:=by rw [hs];cases m <;> simp [sg]
  have hv:=jX.val (m:=m) (fU hD.2 (by omega)) (show 1 < 4294967296 ^ 60 by decide) (by decide);rw [show ((1:Nat):Int)=1 from rfl,vt] at hv;exact eU w s m D D [49] _ _ _ 1 0 _ hmx h (by omega) hn hh (by omega) D [] D [] D [49] false false (dT (fp hD (by decide))) (dT (fp hD (by decide))) (by simp;omega) rfl rfl rfl (iO.dg hD.2 (by omega)) rfl ⟨by decide,by decide,by decide⟩ hv
 ·have hh:=fS (m:=m) (r:=47 :: E) hD
  rw [← hs] at hh;have hl:(D ++ 47 :: E).length≤s.length:=by rw [hs];cases m <;> simp [sg]
  have hl2:(D ++ 47 :: E).length=D.length+(E.length+1):=by simp
  exact eU w s m (D ++ 47 :: E) D E _ _ _ _ 8 0 hmx h (by omega) hn hh (by omega) D E (D ++ 47 :: E) [] D E true false (cZ (fp hD (by decide))) (dT (mY hD hE (by decide) (by decide))) (by show (D ++ 47 :: E).length+0≤60;omega) rfl rfl rfl (iO.dg hD.2 (by omega)) rfl (iO.dg hE.2 (by omega)) (.zero (by rw [h0];rfl) rfl rfl)
 ·have hh:=fS (m:=m) (r:=47 :: E) hD
  rw [← hs] at hh;have hl:(D ++ 47 :: E).length≤s.length:=by rw [hs];cases m <;> simp [sg]
  have hl2:(D ++ 47 :: E).length=D.length+(E.length+1):=by simp
  exact eU w s m (D ++ 47 :: E) D E _ _ _ _ 0 _ hmx h (by omega) hn hh (by omega) D E (D ++ 47 :: E) [] D E true false (cZ (fp hD (by decide))) (dT (mY hD hE (by decide) (by decide))) (by show (D ++ 47 :: E).length+0≤60;omega) rfl rfl rfl (iO.dg hD.2 (by omega)) rfl (iO.dg hE.2 (by omega)) (jX.val (fU hD.2 (by omega)) (fU hE.2 (by omega)) h0)
 have hh:=fS (m:=m) (r:=46 :: E) hD;rw [← hs] at hh;have hl:(D ++ 46 :: E).length≤s.length:=by rw [hs];cases m <;> simp [sg]
 have hl2:(D ++ 46 :: E).length=D.length+(E.length+1):=by simp
 have hN:(D ++ E).all aF=true:=by rw [List.all_append,hD.2,hE.2];rfl
 have hNl:(D ++ E).length=D.length+E.length:=List.length_append;obtain ⟨t1,t2,t3⟩:=lW E.length;have hT:=iO.dg t3 (by simp;omega);rw [t2] at hT;have hz:(10:Nat) ^ E.length < 4294967296 ^ 60:=Nat.lt_of_le_of_lt (Nat.pow_le_pow_right (by decide) (by omega)) d1;exact eU w s m (D ++ 46 :: E) (D ++ E) (49 :: List.replicate E.length 48) _ _ _ _ 0 _ hmx h (by omega) hn hh (by omega) (D ++ 46 :: E) [] D E (D ++ 46 :: E) [49] false true (dT (mY hD hE (by decide) (by decide))) (cZ (fp hD (by decide))) (by omega) rfl rfl rfl (iO.dg hN (by omega)) rfl hT (jX.val (fU hN (by omega)) hz (by have:=Nat.pow_pos (n:=E.length) (show 0 < 10 by decide);omega))
theorem uC {m:Bool}{B:List UInt8}(h:B≠[]):(sg m B).length≠0:=by
 have:=List.length_pos_iff.2 h;cases m <;> simp [sg];exact h
theorem pk (w:World) (s:List UInt8) (x:Int) (q:Rat) (hmx:Mx w) (h:kH s x q):Calls Tryz.prog 150 #[af s] w (fy w (ba x) q 130):=by
 have hm:∀ {v:Value}{e:Ending}{w':World},fy w v q 1 e w'→fy w v q 130 e w':=fun h=>by
  obtain ⟨b,A,n,c,A',n',c',h1,h2,h3⟩:=h;exact ⟨b,A,n,c,A',n',c',h1,h2.mono (by decide),h3⟩
 by_cases h1:60 < s.length
 ·rcases h with ⟨_,rfl,rfl⟩ | ⟨h,_⟩ | ⟨_,_,h,_⟩ | ⟨_,_,_,h,_⟩ | ⟨_,_,_,h,_⟩ | ⟨_,_,_,h,_⟩ <;> first | (rw [uz];exact (jl w s h1).mono fun _ _ r=>hm r) | omega
 by_cases h2:s.length=0∨bp s≠s.length
 ·rcases h with ⟨h,_⟩ | ⟨_,_,rfl,rfl⟩ | ⟨_,D,_,hn,hD,hs,_⟩ | ⟨_,D,_,_,hn,hD,_,hs,_⟩ | ⟨_,D,_,_,hn,hD,_,hs,_⟩ | ⟨_,D,_,_,hn,hD,_,hs,_⟩
  ·exact absurd h h1
  ·rw [uy];exact (lZ w s (by omega) h2).mono fun _ _ r=>hm r
  all_goals
   exfalso;rcases h2 with h2 | h2
   ·rw [hs] at h2
    exact uC (by first | exact hD.1 | simp) h2
   exact h2 hn
 exact pj w s x q hmx h h1 h2
theorem jY (w:World) (s:List UInt8) (x:Int) (l:List Tkn) (h:aW s x l):Calls Tryz.prog 36 #[af s] w (ra w (ba x) l) :=
 (sM w s).mono fun _ _ ⟨x',l',h',r⟩=>by
  obtain ⟨rfl,rfl⟩:=h.uniq h';exact r
/-! Only the block gr has turned. -/
section
variable {w w' w2:World}{gr:Nat}
theorem rg_refl (gr:Nat) (w:World):w.grownBy w (some gr):=⟨rfl,rfl,rfl,Qr,fun _ _ _=>rfl⟩
theorem au (h:w.grownBy w' (some gr)) (k:w'.grownBy w2 (some gr)):w.grownBy w2 (some gr) :=
 ⟨k.os.trans h.os,k.tape.trans h.tape,k.output.trans h.output,Nat.le_trans h.size k.size,fun i hi hne=>(k.block i (Nat.lt_of_lt_of_le hi h.size) hne).trans (h.block i hi hne)⟩
theorem db (h:w.grownBy w' (some gr)) (i:Nat) (u:Value):w.grownBy (w'.setCell ⟨gr,i,none⟩ u) (some gr) :=
 au h ⟨rfl,rfl,rfl,by simp [World.setCell],fun k _ hne=>Below.heap_setCell w' ⟨gr,i,none⟩ u k (fun e=>hne (by rw [e]))⟩
theorem dK (h:w.grownBy w' (some gr)) (k:Below w'.heap.size w' w2):w.grownBy w2 (some gr) :=
 au h ⟨k.os,k.tape,k.output,k.size,fun i hi _=>k.block i hi⟩
theorem aP (h:w.grownBy w' (some gr)) (o:Obj):w.grownBy (w'.alloc o) (some gr):=dK h ((Below.refl _ _).alloc Qr o)
theorem tj (h:w.grownBy w' (some gr)):w.grownBy w'.drew (some gr):=⟨h.os,h.tape,h.output,h.size,h.block⟩
theorem dc {B:Nat}(h:w.grownBy w' (some gr)) (hB:B≤w.heap.size) (hg:B≤gr):Below B w w':=(Below.refl B w).grown h hB (fun k e=>by injection e with e;omega)
theorem bh {g t:Nat}{cs:Array Value}(h:w.grownBy w' (some gr)) (x:Blk w g t cs) (hne:g≠gr):Blk w' g t cs:=(h.block g x.lt (fun e=>hne (by injection e))).trans x
theorem nO {g t:Nat}{cs:Array Value}(h:w.grownBy w' (some gr)) (x:w.heap[g]?=some (.cells cs t (0,0))) (hne:g≠gr):w'.heap[g]?=some (.cells cs t (0,0)):=(h.block g (lt_of_block x) (fun e=>hne (by injection e))).trans x
end
def TkA (B:Nat) (w:World) (A:Option Addr) (n c:Nat) (l:List Tkn):Prop:=l.length=n∧n≤c∧(0 < n→∃ g o,A=some ⟨g,o,none⟩∧g < B∧∀ i v,(bP l)[i]?=some v→w.cell? ⟨g,o+i,none⟩=some v)
def MxA (B:Nat) (w:World):Prop:=0 < B∧Mx w
section
variable {B:Nat}{w w':World}{A:Option Addr}{n c gr:Nat}{l:List Tkn}
theorem TkA.rg (h:TkA B w A n c l) (hB:B≤gr) (k:w.grownBy w' (some gr)):TkA B w' A n c l:=by
 refine ⟨h.1,h.2.1,fun hn=>?_⟩;obtain ⟨g,o,e,hg,hc⟩:=h.2.2 hn;exact ⟨g,o,e,hg,fun i v hv=>k.cell (hc i v hv) (fun e=>by injection e with e;simp only at e;omega)⟩
theorem TkA.belB (h:TkA B w A n c l) (k:Below B w w'):TkA B w' A n c l:=by
 refine ⟨h.1,h.2.1,fun hn=>?_⟩;obtain ⟨g,o,e,hg,hc⟩:=h.2.2 hn;exact ⟨g,o,e,hg,fun i v hv=>(k.cell (p:=⟨g,o+i,none⟩) hg).trans (hc i v hv)⟩
theorem TkA.of_tks (h:TkS w A n c l):TkA w.heap.size w A n c l:=by
 refine ⟨h.1,?_,fun hn=>?_⟩
 ·rcases h.2 with ⟨h1,_,h3⟩ | ⟨g,_,h1,_⟩
  ·omega
  exact h1
 rcases h.2 with ⟨h1,_,h3⟩ | ⟨g,e,h1,hc⟩
 ·omega
 have hl:0 < (bP l).length:=by rw [oS,h.1];omega
 have h0:(bP l)[0]?=some ((bP l)[0]'hl):=List.getElem?_eq_getElem hl;exact ⟨g,0,e,World.block_lt_of_cell? w ⟨g,0,none⟩ (hc 0 _ h0),fun i v hv=>by rw [Nat.zero_add];exact hc i v hv⟩
theorem TkA.head {t:Tkn}(h:TkA B w A n c (t :: l)):∃ g o,A=some ⟨g,o,none⟩∧g < B∧w.cell? ⟨g,o,none⟩=some (.int .i64 (t.kind:Nat))∧w.cell? ⟨g,o+1,none⟩=some (af t.text)∧w.cell? ⟨g,o+2,none⟩=some (.int .i64 (t.line:Nat))∧w.cell? ⟨g,o+3,none⟩=some (.int .i64 (t.col:Nat)):=by
 obtain ⟨g,o,e,hg,hc⟩:=h.2.2 (by rw [← h.1];simp);exact ⟨g,o,e,hg,hc 0 _ rfl,hc 1 _ rfl,hc 2 _ rfl,hc 3 _ rfl⟩
theorem TkA.tail {t:Tkn}{A':Option Addr}{n' c':Nat}(h:TkA B w A n c (t :: l)) (hA:A'=if c=1 then A else A.map (·.add 4)) (hn:n'=n - 1) (hc:c'=c - 1):TkA B w A' n' c' l:=by
 subst hn hc;have hl:l.length+1=n:=by rw [← h.1];simp
 refine ⟨by omega,by have:=h.2.1;omega,fun hn=>?_⟩;obtain ⟨g,o,e,hg,hc⟩:=h.2.2 (by omega);have hc1:¬ c=1:=by have:=h.2.1;omega
 rw [if_neg hc1,e] at hA;refine ⟨g,o+4,hA,hg,fun i v hv=>?_⟩
 have h1:(bP (t :: l))[i+4]?=some v:=by
  have:bP (t :: l)=lz t ++ bP l:=rfl;rw [this,List.getElem?_append_right (by simp [lz])];simpa [lz] using hv
 have:=hc _ _ h1;rwa [show o+(i+4)=o+4+i by omega] at this
theorem MxA.rg (h:MxA B w) (hB:B≤gr) (k:w.grownBy w' (some gr)):MxA B w':=by
 obtain ⟨h1,m,hm⟩:=h;exact ⟨h1,m,k.cell hm (fun e=>by injection e with e;simp only at e;omega)⟩
theorem MxA.belB (h:MxA B w) (k:Below B w w'):MxA B w':=by
 obtain ⟨h1,m,hm⟩:=h;exact ⟨h1,m,(k.cell (p:=⟨_,0,none⟩) h1).trans hm⟩
theorem MxA.out (h:MxA B w):Mx w:=h.2
theorem MxA.of_mx (h:Mx w):MxA w.heap.size w:=by
 obtain ⟨m,hm⟩:=h;exact ⟨World.block_lt_of_cell? w ⟨_,0,none⟩ hm,m,hm⟩
end
structure RdP (B:Nat) (w:World) (gr:Nat) (c1 c2 c3 c4:Value) (s:PS):Prop where
  blk:∃ A n c,Blk w gr 87 #[.slice A n c,c1,c2,c3,c4,ba s.x]∧TkA B w A n c s.toks
  mx:MxA B w
  hB:B≤gr
  len:s.toks.length≤65536
  txt:∀ t∈s.toks,NmL t.text
  hw:noW c1=true∧noW c2=true∧noW c3=true∧noW c4=true
def mZ (B:Nat) (w:World) (gr:Nat) (c1 c2 c3 c4:Value) (v:Value) (s:PS) (e:Ending) (w':World):Prop:=e=.returned v∧RdP B w' gr c1 c2 c3 c4 s∧w.grownBy w' (some gr)
section
variable {B:Nat}{w w':World}{gr:Nat}{c1 c2 c3 c4:Value}{s:PS}
theorem RdP.lt (h:RdP B w gr c1 c2 c3 c4 s):gr < w.heap.size:=by obtain ⟨A,n,c,hb,_⟩:=h.blk;exact hb.lt
theorem RdP.bel1 (h:RdP B w gr c1 c2 c3 c4 s) (k:Below (gr+1) w w'):RdP B w' gr c1 c2 c3 c4 s:=by
 obtain ⟨A,n,c,hb,ht⟩:=h.blk;have hB:=h.hB;have k':Below B w w':=k.mono (by omega);exact ⟨⟨A,n,c,hb.below k (by omega),ht.belB k'⟩,h.mx.belB k',h.hB,h.len,h.txt,h.hw⟩
theorem RdP.belw (h:RdP B w gr c1 c2 c3 c4 s) (k:Below w.heap.size w w'):RdP B w' gr c1 c2 c3 c4 s:=by
 obtain ⟨A,n,c,hb,ht⟩:=h.blk;have hlt:=hb.lt;have hB:=h.hB;have k':Below B w w':=k.mono (by omega);exact ⟨⟨A,n,c,hb.below k hlt,ht.belB k'⟩,h.mx.belB k',h.hB,h.len,h.txt,h.hw⟩
theorem RdP.alloc (h:RdP B w gr c1 c2 c3 c4 s) (o:Obj):RdP B (w.alloc o) gr c1 c2 c3 c4 s:=h.belw ((Below.refl _ _).alloc Qr o)
theorem RdP.far (h:RdP B w gr c1 c2 c3 c4 s) {p:Addr}(hp:gr < p.block) (u:Value):RdP B (w.setCell p u) gr c1 c2 c3 c4 s:=by
 obtain ⟨A,n,c,hb,ht⟩:=h.blk;have hB:=h.hB;have k':Below B w (w.setCell p u):=(Below.refl B w).setCell (by omega) u;exact ⟨⟨A,n,c,hb.far (by omega) u,ht.belB k'⟩,h.mx.belB k',h.hB,h.len,h.txt,h.hw⟩
theorem cq {w2:World}(h:w.grownBy w' (some gr)) (k:Below w.heap.size w' w2):w.grownBy w2 (some gr) :=
 ⟨k.os.trans h.os,k.tape.trans h.tape,k.output.trans h.output,Nat.le_trans h.size k.size,fun i hi hne=>(k.block i hi).trans (h.block i hi hne)⟩
theorem aO.rg {α:Type}{T0:TypeId}{Pc:World→List Value→α→Prop}{sz base n:Nat}{v:Value}{l:List α}(h:aO T0 Pc sz w base v n l) (hgr:gr < base) (k:w.grownBy w' (some gr)) (hP:∀ cs a,Pc w cs a→Pc w' cs a):aO T0 Pc sz w' base v n l :=
 h.same (fun g _ hg hc=>nO k hc (by omega)) hP
theorem tl (x:Int):noW (ba x)=true:=by unfold ba;split <;> rfl
theorem RdP.tch {T:TypeId→Bool}(h:RdP B w gr c1 c2 c3 c4 s) (k:w.grownBy w' (some gr)) (hT:T 87=true):Tch T w w':=by
 obtain ⟨A,n,c,hb,_⟩:=h.blk;obtain ⟨h1,h2,h3,h4⟩:=h.hw;refine Tch.of_ne k.size hb hT ?_ fun g hlt hne=>k.block g hlt (fun e=>hne (by injection e))
 simp only [List.all_cons,List.all_nil,h1,h2,h3,h4,tl,Bool.and_true];rfl
end
def TA:TypeId→Bool:=fun _=>true
theorem eF {w:World}{g t:Nat}{cs:Array Value}(z:Blk w g t cs) (hz:cs.toList.all noW=true) (i j k:Nat) (u0 u1 u2:Value):Tch TA w (((w.setCell ⟨g,i,none⟩ u0).setCell ⟨g,j,none⟩ u1).setCell ⟨g,k,none⟩ u2) :=
 Tch.of_ne (by simp [World.setCell]) z rfl hz fun g' _ hne=>by
  rw [Below.heap_setCell _ _ _ _ hne,Below.heap_setCell _ _ _ _ hne,Below.heap_setCell _ _ _ _ hne]
theorem bC {B g:Nat}(w:World) (hB:B≤g) (i j k:Nat) (u0 u1 u2:Value):Below B w (((w.setCell ⟨g,i,none⟩ u0).setCell ⟨g,j,none⟩ u1).setCell ⟨g,k,none⟩ u2) :=
 (((Below.refl B w).setCell (p:=⟨g,i,none⟩) hB u0).setCell (p:=⟨g,j,none⟩) hB u1).setCell (p:=⟨g,k,none⟩) hB u2
theorem dd {w w':World}{gr:Nat}(h:w.grownBy w' (some gr)) {p:Addr}(hp:w.heap.size≤p.block) (u:Value):w.grownBy (w'.setCell p u) (some gr) :=
 ⟨h.os,h.tape,h.output,by simp [World.setCell,h.size],fun k hk hne=>(Below.heap_setCell w' p u k (by omega)).trans (h.block k hk hne)⟩
def mOf (gr:Nat) (w:World):Nat:=(match w.cell? ⟨gr,0,none⟩ with | some (.slice _ n _)=>2 * n | _=>0)+(match w.cell? ⟨gr,5,none⟩ with | some .nilIface=>1 | _=>0)
theorem RdP.meas {B:Nat}{w:World}{gr:Nat}{c1 c2 c3 c4:Value}{s:PS}(h:RdP B w gr c1 c2 c3 c4 s):mOf gr w=2 * s.toks.length+if s.x=0 then 1 else 0:=by
 obtain ⟨A,n,c,hb,ht⟩:=h.blk;unfold mOf;rw [hb.cell 0,hb.cell 5];show 2 * n+(match some (ba s.x) with | some .nilIface=>1 | _=>0)=_;rw [ht.1];by_cases hx:s.x=0
 ·rw [if_pos hx,hx,bH]
 rw [if_neg hx,eVp hx]
theorem tm:(Tryz.prog.info? 67).map (fun i=>(i.zero,i.size,i.bytes))=some (some (.agg #[.string ⟨#[]⟩,.bool false,.slice none 0 0,.slice none 0 0,.bool false,.slice none 0 0,.slice none 0 0]),7,128):=by kernel_rfl
theorem fY:(Tryz.prog.info? 62).map (fun i=>(i.zero,i.size,i.bytes))=some (some (.agg #[.string ⟨#[]⟩,.slice none 0 0]),2,40):=by kernel_rfl
theorem f9:(Tryz.prog.info? 79).map (fun i=>(i.zero,i.size,i.bytes))=some (some (.agg #[.string ⟨#[]⟩,.int .i64 0,.int .i64 0,.int .i64 0,.int .i64 0,.int .i64 0,.int .i64 0]),7,64):=by kernel_rfl
theorem gc:(Tryz.prog.info? 81).map (fun i=>(i.zero,i.size,i.bytes))=some (some (.agg #[.string ⟨#[]⟩,.int .i64 0]),2,24):=by kernel_rfl
section
variable {w:World}{g t:Nat}{a0 a1 a2 a3 a4 a5:Value}
theorem Blk.s60 (h:Blk w g t #[a0,a1,a2,a3,a4,a5]) (u:Value):Blk (w.setCell ⟨g,0,none⟩ u) g t #[u,a1,a2,a3,a4,a5]:=h.set_ 0 u
theorem Blk.s61 (h:Blk w g t #[a0,a1,a2,a3,a4,a5]) (u:Value):Blk (w.setCell ⟨g,1,none⟩ u) g t #[a0,u,a2,a3,a4,a5]:=h.set_ 1 u
theorem Blk.s62 (h:Blk w g t #[a0,a1,a2,a3,a4,a5]) (u:Value):Blk (w.setCell ⟨g,2,none⟩ u) g t #[a0,a1,u,a3,a4,a5]:=h.set_ 2 u
theorem Blk.s63 (h:Blk w g t #[a0,a1,a2,a3,a4,a5]) (u:Value):Blk (w.setCell ⟨g,3,none⟩ u) g t #[a0,a1,a2,u,a4,a5]:=h.set_ 3 u
theorem Blk.s64 (h:Blk w g t #[a0,a1,a2,a3,a4,a5]) (u:Value):Blk (w.setCell ⟨g,4,none⟩ u) g t #[a0,a1,a2,a3,u,a5]:=h.set_ 4 u
theorem Blk.s65 (h:Blk w g t #[a0,a1,a2,a3,a4,a5]) (u:Value):Blk (w.setCell ⟨g,5,none⟩ u) g t #[a0,a1,a2,a3,a4,u]:=h.set_ 5 u
end
theorem gL {s s':PS}{k:Nat}{t:List UInt8}(h:s.next k=(some t,s')):s'=s∧s.x=0∧∃ t0 r,s.toks=t0 :: r∧t0.kind=k∧t0.text=t:=by
 unfold PS.next at h;split at h
 ·cases h
 rename_i hx;split at h
 ·cases h
 rename_i t0 r e;split at h
 ·rename_i hk
  injection h with h1 h2;injection h1 with h1;exact ⟨h2.symm,by simpa using hx,t0,r,e,hk,h1⟩
 cases h
theorem dk (w:World) (gr:Nat) (c0 c1 c2 c3 c4:Value) (x e:Int) (hb:Blk w gr 87 #[c0,c1,c2,c3,c4,ba x]) (he:e≠0):Calls Tryz.prog 71 #[.pointer (some ⟨gr,0,none⟩),.iface 49 (.int .i64 e)] w (fun en w'=>en=.returned (.tuple #[])∧Blk w' gr 87 #[c0,c1,c2,c3,c4,ba (if x=0 then e else x)]∧w.grownBy w' (some gr)):=by
 have hlt:=hb.lt;have f5:=hb.frozen 5;have ee:=eVp he;by_cases hx:x=0
 ·subst hx
  have HB:=Qh hb;obtain ⟨_,_,_,_,_,a5⟩:=hb.c6;rw [bH] at a5;rw [if_pos rfl,ee];clear hb ee;go_in;go_wp2_with fail;go_end0;exact ⟨rfl,HB.out.s65 _,db (rg_refl _ _) _ _⟩
 rw [if_neg hx];have HB:=Qh hb;obtain ⟨_,_,_,_,_,a5⟩:=hb.c6;rw [eVp hx] at a5;clear hb ee;go_in;go_wp2_with fail;go_end0;exact ⟨rfl,HB.out,rg_refl _ _⟩
theorem kK (B:Nat) (w:World) (gr:Nat) (c1 c2 c3 c4:Value) (s:PS) (h:RdP B w gr c1 c2 c3 c4 s) (k:Nat) (z:Int) (hz:z=(k:Int)):Calls Tryz.prog 70 #[.pointer (some ⟨gr,0,none⟩),.int .i64 z] w (mZ B w gr c1 c2 c3 c4 (.tuple #[af ((s.next k).1.getD []),.bool (s.next k).1.isSome]) (s.next k).2):=by
 subst hz;have HP:=Qh h;obtain ⟨toks,L,x⟩:=s;obtain ⟨A,n,c,hb,ht⟩:=h.blk;have hmx:=h.mx;have hB:=h.hB;have hlen:=h.len;have hw:=h.hw;have htx:=h.txt;simp only at hb ht hlen htx;have HB:=Qh hb;have HT:=Qh ht;have HM:=Qh hmx;have hn:=ht.1;obtain ⟨a0,_,_,_,_,a5⟩:=hb.c6;clear hb ht hmx h;by_cases hx:x=0
 ·subst hx
  rw [bH] at a5
  cases toks with
  | nil =>
   have e:PS.next ⟨[],L,0⟩ k=(none,⟨[],L,18⟩):=rfl;rw [e];subst hn;go_in;go_wp2_with fail;(with_reducible refine (dk _ gr (.slice A 0 c) c1 c2 c3 c4 0 18 HB.out (by decide)).mono ?_);rintro e w1 ⟨rfl,hb1,hg1⟩;rw [if_pos rfl] at hb1;have HB1:=Qh hb1;clear hb1;go_wp2_with fail;refine bodyPost_ret (v:=.tuple #[af [],.bool false]) (by simp [results,Tryz.results70,go_sem, *] <;> trivial) rfl ?_;exact ⟨rfl,⟨⟨A,0,c,HB1.out,HT.out.rg hB hg1⟩,HM.out.rg hB hg1,hB,hlen,htx,hw⟩,hg1⟩
  | cons t r =>
   have hn1:0 < n:=by rw [← hn];simp
   obtain ⟨g,o,e,hg,d0,d1,d2,d3⟩:=HT.out.head;subst e;have hi0:(0:Int) < (n:Int):=by omega
   by_cases hk:t.kind=k
   ·have e:PS.next ⟨t :: r,L,0⟩ k=(some t.text,⟨t :: r,L,0⟩):=by unfold PS.next;rw [if_neg (by simp)];simp [hk]
    rw [e];have hk1:((t.kind:Int) == (k:Int))=true:=by simp [hk]
    have hk2:((n:Int) == 0)=false:=beq_eq_false_iff_ne.2 (by omega);clear hn hk;go_in;go_wp2_with fail;refine bodyPost_ret (v:=.tuple #[af t.text,.bool true]) (by simp [results,Tryz.results70,go_sem, *] <;> trivial) rfl ?_;exact ⟨rfl,HP.out.alloc _,aP (rg_refl _ _) _⟩
   have e:PS.next ⟨t :: r,L,0⟩ k=(none,⟨t :: r,L,2⟩):=by unfold PS.next;rw [if_neg (by simp)];simp [hk]
   rw [e];have hk1:((t.kind:Int) == (k:Int))=false:=beq_eq_false_iff_ne.2 (by omega);have hk2:((n:Int) == 0)=false:=beq_eq_false_iff_ne.2 (by omega);clear hn hk;go_in;go_wp2_with fail;(with_reducible refine (dk _ gr (.slice (some ⟨g,o,none⟩) n c) c1 c2 c3 c4 0 2 (HB.out.alloc _) (by decide)).mono ?_);rintro e w1 ⟨rfl,hb1,hg1⟩;rw [if_pos rfl] at hb1;have HB1:=Qh hb1;have hg2:=au (aP (rg_refl gr w) _) hg1;clear hb1 hg1;go_wp2_with fail;refine bodyPost_ret (v:=.tuple #[af [],.bool false]) (by simp [results,Tryz.results70,go_sem, *] <;> trivial) rfl ?_;exact ⟨rfl,⟨⟨_,n,c,HB1.out,HT.out.rg hB hg2⟩,HM.out.rg hB hg2,hB,hlen,htx,hw⟩,hg2⟩
 have e:PS.next ⟨toks,L,x⟩ k=(none,⟨toks,L,x⟩):=if_pos hx;rw [e];rw [eVp hx] at a5;go_in;go_wp2_with fail;refine bodyPost_ret (v:=.tuple #[af [],.bool false]) (by simp [results,Tryz.results70,go_sem, *] <;> trivial) rfl ?_;exact ⟨rfl,HP.out,rg_refl _ _⟩
theorem RdP.drop {B:Nat}{w:World}{gr n c n' c':Nat}{A A':Option Addr}{c1 c2 c3 c4:Value}{s:PS}{t0:Tkn}{r:List Tkn}(h:RdP B w gr c1 c2 c3 c4 s) (e:s.toks=t0 :: r)
 (hb:Blk w gr 87 #[.slice A n c,c1,c2,c3,c4,ba s.x]) (ht:TkA B w A n c s.toks) (hA:A'=if c=1 then A else A.map (·.add 4)) (hn:n'=n - 1) (hc:c'=c - 1):RdP B (w.setCell ⟨gr,0,none⟩ (.slice A' n' c')) gr c1 c2 c3 c4 s.drop1:=by
 have hr:=db (rg_refl gr w) 0 (.slice A' n' c');have e1:s.drop1.toks=r:=by unfold PS.drop1;rw [e];rfl
 rw [e] at ht;exact ⟨⟨A',n',c',hb.s60 _,by rw [e1];exact (ht.tail hA hn hc).rg h.hB hr⟩,h.mx.rg h.hB hr,h.hB,by rw [e1];have:=h.len;rw [e] at this;simp at this;omega,fun t ht=>h.txt t (by rw [e];rw [e1] at ht;exact List.mem_cons_of_mem _ ht),h.hw⟩
theorem bK (B:Nat) (w:World) (gr:Nat) (c1 c2 c3 c4:Value) (s:PS) (h:RdP B w gr c1 c2 c3 c4 s):Calls Tryz.prog 38 #[.pointer (some ⟨gr,0,none⟩)] w (mZ B w gr c1 c2 c3 c4 (af s.word.1) s.word.2):=by
 have HP:=Qh h;obtain ⟨W,hW⟩:∃ W,s.word=W:=⟨_,rfl⟩;rw [hW];have HW:=Qh hW;clear h hW;go_in;go_wp2_with fail;(with_reducible refine (kK B _ gr c1 c2 c3 c4 s HP.out 0 0 rfl).mono ?_);rintro e w1 ⟨rfl,h1,hg1⟩;have hW:=HW.out;unfold PS.word at hW;generalize hq:s.next 0=q at h1 hW;obtain ⟨o,s'⟩:=q
 cases o with
 | none =>
  simp only [Option.getD_none,Option.isSome_none] at h1 hW ⊢;subst hW;have H1:=Qh h1;clear hq h1 HW;go_wp2;go_ret;exact ⟨rfl,H1.out,hg1⟩
 | some t =>
  simp only [Option.getD_some,Option.isSome_some] at h1 hW ⊢;subst hW;obtain ⟨e,hx,t0,r,et,_,_⟩:=gL hq;obtain ⟨A,n,c,hb,ht⟩:=h1.blk;have hn:(1:Int)≤(n:Int):=by have:=ht.1;rw [e,et] at this;simp at this;omega
  have f0:=hb.frozen 0;obtain ⟨a0,_,_,_,_,_⟩:=hb.c6;have H1:=Qh h1;have HB:=Qh hb;have HT:=Qh ht;have HE:=Qh (show s'.toks=t0 :: r by rw [e,et]);clear h1 hb ht hq e et hx HW;go_wp2_with fail
  all_goals
   go_ret;exact ⟨rfl,H1.out.drop HE.out HB.out HT.out (by simp [Addr.add, *]) rfl (by omega),db hg1 _ _⟩
theorem jZ (B:Nat) (w:World) (gr:Nat) (c1 c2 c3 c4:Value) (s:PS) (h:RdP B w gr c1 c2 c3 c4 s) (k:Nat) (z:Int) (hz:z=(k:Int)) (text:List UInt8):Calls Tryz.prog 37 #[.pointer (some ⟨gr,0,none⟩),.int .i64 z,af text] w (mZ B w gr c1 c2 c3 c4 (.tuple #[]) (s.expect k text)):=by
 have HP:=Qh h;have HZ:=Qh hz;obtain ⟨W,hW⟩:∃ W,s.expect k text=W:=⟨_,rfl⟩;rw [hW];have HW:=Qh hW;clear h hz hW;go_in;go_wp2_with fail;(with_reducible refine (kK B _ gr c1 c2 c3 c4 s HP.out k z HZ.out).mono ?_);rintro e w1 ⟨rfl,h1,hg1⟩;have hW:=HW.out;unfold PS.expect at hW;generalize hq:s.next k=q at h1 hW;obtain ⟨o,s'⟩:=q
 cases o with
 | none =>
  simp only [Option.getD_none,Option.isSome_none] at h1 hW ⊢;subst hW;have H1:=Qh h1;clear hq h1 HW;go_wp2_with fail;go_end0;exact ⟨rfl,H1.out,hg1⟩
 | some t =>
  simp only [Option.getD_some,Option.isSome_some] at h1 hW ⊢;obtain ⟨e,hx,t0,r,et,_,_⟩:=gL hq;have ht1:=aI t;have ht2:=aI text;obtain ⟨A,n,c,hb,ht⟩:=h1.blk;have hn:(1:Int)≤(n:Int):=by have:=ht.1;rw [e,et] at this;simp at this;omega
  have f0:=hb.frozen 0;obtain ⟨a0,_,_,_,_,a5⟩:=hb.c6;have H1:=Qh h1;have HB:=Qh hb;have HT:=Qh ht;have HE:=Qh (show s'.toks=t0 :: r by rw [e,et]);have HX:=Qh (show s'.x=0 by rw [e];exact hx);clear h1 hb ht hq e et hx a5 HW;by_cases heq:t=text
  ·rw [if_pos heq] at hW
   subst hW;subst heq;have hee:(t == t)=true:=by simp
   go_wp2_with fail
   all_goals
    go_end0;exact ⟨rfl,H1.out.drop HE.out HB.out HT.out (by simp [Addr.add, *]) rfl (by omega),db hg1 _ _⟩
  rw [if_neg heq] at hW;have e2:s'.fail 2={ s' with x:=2 }:=if_pos HX.out;rw [e2] at hW;subst hW;have hee:(t == text)=false:=beq_eq_false_iff_ne.2 heq;clear heq;go_wp2_with fail;(with_reducible refine (dk _ gr (.slice A n c) c1 c2 c3 c4 s'.x 2 HB.out (by decide)).mono ?_);rintro e w2 ⟨rfl,hb2,hg2⟩;rw [if_pos HX.out] at hb2;have HB2:=Qh hb2;clear hb2;go_wp2_with fail;go_end0;exact ⟨rfl,⟨⟨A,n,c,HB2.out,HT.out.rg H1.out.hB hg2⟩,H1.out.mx.rg H1.out.hB hg2,H1.out.hB,H1.out.len,H1.out.txt,H1.out.hw⟩,au hg1 hg2⟩
theorem cT (B:Nat) (w:World) (gr:Nat) (c1 c2 c3 c4:Value) (s:PS) (h:RdP B w gr c1 c2 c3 c4 s) (text:List UInt8):Calls Tryz.prog 39 #[.pointer (some ⟨gr,0,none⟩),af text] w (mZ B w gr c1 c2 c3 c4 (.tuple #[]) (s.expect 2 text)):=by
 have HP:=Qh h;clear h;go_in;go_wp2_with fail;(with_reducible refine (jZ B _ gr c1 c2 c3 c4 s HP.out 2 2 rfl text).mono ?_);rintro e w1 ⟨rfl,h1,hg1⟩;have H1:=Qh h1;clear h1;go_wp2_with fail;go_end0;exact ⟨rfl,H1.out,hg1⟩
theorem nP (B:Nat) (w:World) (gr:Nat) (c1 c2 c3 c4:Value) (s:PS) (h:RdP B w gr c1 c2 c3 c4 s) (v:Bool) (hv:decide (s.x=0∧s.toks≠[])=v):Calls Tryz.prog 40 #[.pointer (some ⟨gr,0,none⟩)] w (mZ B w gr c1 c2 c3 c4 (.bool v) s):=by
 have HP:=Qh h;subst hv;obtain ⟨A,n,c,hb,ht⟩:=h.blk;have hn:=ht.1;obtain ⟨a0,_,_,_,_,a5⟩:=hb.c6;clear hb ht h;by_cases hx:s.x=0
 ·rw [hx,bH] at a5
  by_cases ht:s.toks=[]
  ·have e:decide (s.x=0∧s.toks≠[])=false:=by simp [ht]
   rw [e];have hn0:n=0:=by rw [← hn,ht];rfl
   subst hn0;clear hn;go_in;go_wp2;go_ret;exact ⟨rfl,HP.out,rg_refl _ _⟩
  have e:decide (s.x=0∧s.toks≠[])=true:=by simp [ht,hx]
  rw [e];have hp:0 < s.toks.length:=List.length_pos_iff.2 ht;have hn0:(0 < n)=True:=eq_true (by omega);clear hn;go_in;go_wp2;go_ret;exact ⟨rfl,HP.out,rg_refl _ _⟩
 have e:decide (s.x=0∧s.toks≠[])=false:=by simp [hx]
 rw [e];rw [eVp hx] at a5;go_in;go_wp2;go_ret;exact ⟨rfl,HP.out,rg_refl _ _⟩
def wi (B:Nat) (w:World) (gr:Nat) (c1 c2 c3 c4:Value) (q:Rat) (s:PS) (e:Ending) (w':World):Prop :=
  ∃ b A n c D m e',e=.returned (.agg #[.bool b,.slice A n c,.slice D m e'])∧QV w' b A n c D m e' q 130∧RdP B w' gr c1 c2 c3 c4 s∧w.grownBy w' (some gr)
theorem nQ (w:World) (k:Nat):QV w false none 0 0 none 0 0 0 k:=by
 unfold QV;rw [j9];exact ⟨rfl,Wd.nil_ w,Wd.nil_ w,Nat.zero_le _,Nat.zero_le _⟩
theorem QD.alloc_ {w:World}{b:Bool}{A D:Option Addr}{n c m e k:Nat}{r:RD}(h:QD w b A n c D m e r k) (o:Obj):QD (w.alloc o) b A n c D m e r k:=h.belw ((Below.refl _ _).alloc Qr o)
theorem iP {B:Nat}{w:World}{gr z n c n' c':Nat}{A A':Option Addr}{c1 c2 c3 c4:Value}{s:PS}{t0:Tkn}{r:List Tkn}(h:RdP B w gr c1 c2 c3 c4 s) (e:s.toks=t0 :: r)
 (hb:Blk w gr 87 #[.slice A n c,c1,c2,c3,c4,ba s.x]) (ht:TkA B w A n c s.toks) (hA:A'=if c=1 then A else A.map (·.add 4)) (hn:n'=n - 1) (hc:c'=c - 1)
 (hz:gr < z) (Z:Blk w z 65 #[.bool false,.slice none 0 0,.slice none 0 0]) {b:Bool}{A2 D2:Option Addr}{n2 d2 m2 e2 k:Nat}{q:RD}(hq:QD w b A2 n2 d2 D2 m2 e2 q k) (u0 u1 u2:Value) (o:Obj) :
 QD (((((w.setCell ⟨gr,0,none⟩ (.slice A' n' c')).setCell ⟨z,0,none⟩ u0).setCell ⟨z,1,none⟩ u1).setCell ⟨z,2,none⟩ u2).alloc o) b A2 n2 d2 D2 m2 e2 q k ∧
 RdP B (((((w.setCell ⟨gr,0,none⟩ (.slice A' n' c')).setCell ⟨z,0,none⟩ u0).setCell ⟨z,1,none⟩ u1).setCell ⟨z,2,none⟩ u2).alloc o) gr c1 c2 c3 c4 s.drop1:=by
 have h1:=h.drop e hb ht hA hn hc;have t1:Tch TA w (w.setCell ⟨gr,0,none⟩ (.slice A' n' c')):=h.tch (db (rg_refl gr w) 0 _) rfl;have Z1:Blk (w.setCell ⟨gr,0,none⟩ (.slice A' n' c')) z 65 #[.bool false,.slice none 0 0,.slice none 0 0]:=Z.far (by show z≠gr;omega) _;exact ⟨((hq.tch t1).tch (eF Z1 rfl 0 1 2 u0 u1 u2)).alloc_ o,(h1.bel1 (bC _ hz 0 1 2 u0 u1 u2)).alloc o⟩
theorem eV (B:Nat) (w:World) (gr:Nat) (c1 c2 c3 c4:Value) (s:PS) (h:RdP B w gr c1 c2 c3 c4 s):Calls Tryz.prog 111 #[.pointer (some ⟨gr,0,none⟩)] w (wi B w gr c1 c2 c3 c4 s.number.1 s.number.2):=by
 have HP:=Qh h;have hlt:=h.lt;obtain ⟨W,hW⟩:∃ W,s.number=W:=⟨_,rfl⟩;rw [hW];have HW:=Qh hW;clear h hW;go_in;go_wp2_with fail;(with_reducible refine (kK B _ gr c1 c2 c3 c4 s (HP.out.alloc _) 1 1 rfl).mono ?_);rintro e w1 ⟨rfl,h1,hg1⟩;have z1:Blk w1 w.heap.size 65 #[.bool false,.slice none 0 0,.slice none 0 0]:=bh hg1 (Blk.new _ _ _) (by omega);have G1:w.grownBy w1 (some gr):=au (aP (rg_refl gr w) _) hg1;clear hg1;have hlz:=z1.lt;have hW:=HW.out;unfold PS.number at hW;generalize hq:s.next 1=q at h1 hW;obtain ⟨o,s'⟩:=q
 cases o with
 | none =>
  simp only [Option.getD_none,Option.isSome_none] at h1 hW ⊢;subst hW;obtain ⟨cz0,cz1,cz2⟩:=z1.c3;obtain ⟨fz0,fz1,fz2⟩:=z1.f3;have H1:=Qh h1;have Z1:=Qh z1;clear hq h1 z1 HW;go_wp2_with fail;refine bodyPost_ret (v:=.agg #[.bool false,.slice none 0 0,.slice none 0 0]) (by simp [results,Tryz.results111,go_sem, *] <;> trivial) rfl ?_;exact ⟨_,_,_,_,_,_,_,rfl,nQ _ _,((H1.out.far hlt _).far hlt _).far hlt _,dd (dd (dd G1 Qr _) Qr _) Qr _⟩
 | some t =>
  simp only [Option.getD_some,Option.isSome_some] at h1 hW ⊢;obtain ⟨e,hx,t0,r,et,_,_⟩:=gL hq;have HV:=Qh (tf t);generalize valX t=x at HV hW;generalize valQ t=qv at HV hW;have HE:=Qh (show s'.toks=t0 :: r by rw [e,et]);have HX:=Qh (show s'.x=0 by rw [e];exact hx);have H1:=Qh h1;have Z1:=Qh z1;have HW2:=Qh hW;clear h1 hq e et hx z1 hW HW;go_wp2_with fail;(with_reducible refine (pk _ t x qv H1.out.mx.out HV.out).mono ?_);rintro e w2 ⟨b2,A2,n2,d2,D2,m2,e2,rfl,h2,hb2⟩;have G2:=dK G1 hb2;have z2:=Z1.out.below hb2 hlz;have r2:=H1.out.belw hb2;have hlw:=hb2.size;clear hb2 G1;have hgl:=r2.lt;have hlz2:=z2.lt;have R2:=Qh r2;have Z2:=Qh z2;have HQ2:=Qh h2;obtain ⟨A,n,c,hb,ht⟩:=r2.blk;have hB:=r2.hB;have HB:=Qh hb;have HT:=Qh ht;clear Z1 H1 r2 z2 h2 ht;by_cases hx0:x=0
  ·have hW:=HW2.out
   rw [if_neg (by simp [hx0])] at hW;subst hW hx0;rw [bH];have hn:(1:Int)≤(n:Int):=by have:=HT.out.1;rw [HE.out] at this;simp at this;omega
   have f0:=hb.frozen 0;obtain ⟨a0,_,_,_,_,_⟩:=hb.c6;obtain ⟨cz0,cz1,cz2⟩:=Z2.out.c3;obtain ⟨fz0,fz1,fz2⟩:=Z2.out.f3;clear hb HW2;have hne1:¬ gr=w2.heap.size:=by omega
   have hne2:¬ w.heap.size=w2.heap.size:=by omega
   have hne3:¬ gr=w.heap.size:=by omega
   go_wp2_with fail
   all_goals
    refine bodyPost_ret (v:=.agg #[.bool b2,.slice A2 n2 d2,.slice D2 m2 e2]) (by simp [results,Tryz.results111,go_sem, *] <;> trivial) rfl ?_;exact ⟨_,_,_,_,_,_,_,rfl,(iP R2.out HE.out HB.out HT.out (by simp [Addr.add, *]) rfl (by omega) hlt Z2.out HQ2.out _ _ _ _).1,(iP R2.out HE.out HB.out HT.out (by simp [Addr.add, *]) rfl (by omega) hlt Z2.out HQ2.out _ _ _ _).2,aP (dd (dd (dd (db G2 _ _) Qr _) Qr _) Qr _) _⟩
  have hW:=HW2.out;rw [if_pos hx0] at hW;subst hW;rw [eVp hx0];clear hb HW2;go_wp2_with fail;(with_reducible refine (dk _ gr (.slice A n c) c1 c2 c3 c4 s'.x x (HB.out.alloc _) hx0).mono ?_);rintro e w3 ⟨rfl,hb3,hg3⟩;rw [if_pos HX.out] at hb3;have g3:=au (aP (rg_refl gr w2) _) hg3;have z3:=bh g3 Z2.out (by omega);obtain ⟨cz0,cz1,cz2⟩:=z3.c3;obtain ⟨fz0,fz1,fz2⟩:=z3.f3;have HB3:=Qh hb3;have hl3:=z3.lt;clear hb3 hg3 z3;go_wp2_with fail;refine bodyPost_ret (v:=.agg #[.bool false,.slice none 0 0,.slice none 0 0]) (by simp [results,Tryz.results111,go_sem, *] <;> trivial) rfl ?_;have e2:s'.fail x={ s' with x:=x }:=if_pos HX.out;rw [e2];have R3:RdP B w3 gr c1 c2 c3 c4 { s' with x:=x }:=⟨⟨A,n,c,HB3.out,HT.out.rg hB g3⟩,R2.out.mx.rg hB g3,hB,R2.out.len,R2.out.txt,R2.out.hw⟩;exact ⟨_,_,_,_,_,_,_,rfl,nQ _ _,((R3.far hlt _).far hlt _).far hlt _,dd (dd (dd (au G2 g3) Qr _) Qr _) Qr _⟩
def vK (B:Nat) (w:World) (gr:Nat) (c1 c2 c3 c4:Value) (b:aq) (s:PS) (e:Ending) (w':World):Prop :=
  ∃ A n c,e=.returned (.agg #[af b.name,.slice A n c])∧jk 130 w' A n c b.pts∧NmL b.name∧RdP B w' gr c1 c2 c3 c4 s∧w.grownBy w' (some gr)
section
variable {w:World}{g t:Nat}{a0 a1 a2 a3 a4 a5 a6:Value}
theorem Blk.x7 (h:Blk w g t #[a0,a1,a2,a3,a4,a5,a6]) (u0 u1 u2:Value):Blk (((w.setCell ⟨g,1,none⟩ u0).setCell ⟨g,2,none⟩ u1).setCell ⟨g,3,none⟩ u2) g t #[a0,u0,u1,u2,a4,a5,a6]:=((h.set_ 1 u0).set_ 2 u1).set_ 3 u2
theorem Blk.y7 (h:Blk w g t #[a0,a1,a2,a3,a4,a5,a6]) (u0 u1 u2:Value):Blk (((w.setCell ⟨g,4,none⟩ u0).setCell ⟨g,5,none⟩ u1).setCell ⟨g,6,none⟩ u2) g t #[a0,a1,a2,a3,u0,u1,u2]:=((h.set_ 4 u0).set_ 5 u1).set_ 6 u2
theorem Blk.f7 (h:Blk w g t #[a0,a1,a2,a3,a4,a5,a6]):w.frozen? ⟨g,0,none⟩=false∧w.frozen? ⟨g,1,none⟩=false∧w.frozen? ⟨g,2,none⟩=false∧w.frozen? ⟨g,3,none⟩=false∧w.frozen? ⟨g,4,none⟩=false∧w.frozen? ⟨g,5,none⟩=false∧w.frozen? ⟨g,6,none⟩=false:=⟨h.frozen 0,h.frozen 1,h.frozen 2,h.frozen 3,h.frozen 4,h.frozen 5,h.frozen 6⟩
theorem Blk.s21 (h:Blk w g t #[a0,a1]) (u:Value):Blk (w.setCell ⟨g,1,none⟩ u) g t #[a0,u]:=h.set_ 1 u
end
theorem jk.of_row {w:World}{base n c:Nat}{A:Option Addr}{l:List aA}(h:aO 67 (MkC 130) 7 w base (.slice A n c) n l):jk 130 w A n c l:=h.slT fun _ _ _ _ h1 h2=>h1.at_ h2
theorem OwJ.far {J:Value→Bool}{w:World}{base n size:Nat}{e:TypeId}{v:Value}{xs:List Value}(h:OwJ J w base e size v n xs) {p:Addr}(hp:some p.block≠v.ownBlock) (u:Value):OwJ J (w.setCell p u) base e size v n xs:=by
 refine ⟨h.1,?_⟩;rcases h.2 with h1 | ⟨g,cap,cur,rfl,h2,h3,h4⟩
 ·exact .inl h1
 exact .inr ⟨g,cap,cur,rfl,h2,(Below.heap_setCell w p u g (fun e=>hp (by simp [Value.ownBlock,e]))).trans h3,h4⟩
theorem rP {J:Value→Bool}{w:World}{base n size g t:Nat}{e:TypeId}{v:Value}{xs:List Value}{cs:Array Value}(h:OwJ J w base e size v n xs) (hb:Blk w g t cs) (ht:t≠e):some g≠v.ownBlock:=by
 intro e1;obtain ⟨_,cur,h2,_⟩:=h.at_ e1.symm;unfold Blk at hb;rw [h2] at hb;injection hb with hb;injection hb with _ hb;exact ht hb.symm
theorem TkA.first {B:Nat}{w:World}{A:Option Addr}{n c:Nat}{s:PS}(ht:TkA B w A n c s.toks):(n=0∧s.signHead=false)∨(0 < n∧∃ g o,∃ k:Nat,A=some ⟨g,o,none⟩∧w.cell? ⟨g,o,none⟩=some (.int .i64 (k:Nat))∧s.signHead=decide (k=2)):=by
 obtain ⟨toks,L,x⟩:=s
 cases toks with
 | nil=>exact .inl ⟨ht.1.symm,rfl⟩
 | cons t r =>
  obtain ⟨g,o,e,_,d0,_⟩:=ht.head;refine .inr ⟨by rw [← ht.1];simp,g,o,t.kind,e,d0,?_⟩;show (t.kind == 2)=_;rfl
structure BdR (B:Nat) (w:World) (gr gb:Nat) (c1 c2 c3 c4:Value) (nm:List UInt8) (wr:World) (s:PS) (l:List aA) (pv:Value):Prop where
  rd:RdP B wr gr c1 c2 c3 c4 s
  rg:w.grownBy wr (some gr)
  out:Blk wr w.heap.size 62 #[af [],.slice none 0 0]
  b:Blk wr gb 62 #[af nm,pv]
  row:aO 67 (MkC 130) 7 wr gb pv l.length l
  lt:gr < w.heap.size∧w.heap.size < gb
section
variable {B:Nat}{w:World}{gr gb:Nat}{c1 c2 c3 c4:Value}{nm:List UInt8}{wr w3:World}{s s3:PS}{l:List aA}{pv:Value}
theorem BdR.call (h:BdR B w gr gb c1 c2 c3 c4 nm wr s l pv) (h3:RdP B w3 gr c1 c2 c3 c4 s3) (g3:wr.grownBy w3 (some gr)):BdR B w gr gb c1 c2 c3 c4 nm w3 s3 l pv :=
 ⟨h3,au h.rg g3,bh g3 h.out (by have:=h.lt;omega),bh g3 h.b (by have:=h.lt;omega),h.row.rg (by have:=h.lt;omega) g3 (fun _ _ x=>x.tch (h.rd.tch g3 (T:=TA) rfl)),h.lt⟩
theorem BdR.fin {A:Option Addr}{n c:Nat}(h:BdR B w gr gb c1 c2 c3 c4 nm wr s l (.slice A n c)) (u v:Value):RdP B ((wr.setCell ⟨w.heap.size,0,none⟩ u).setCell ⟨w.heap.size,1,none⟩ v) gr c1 c2 c3 c4 s∧w.grownBy ((wr.setCell ⟨w.heap.size,0,none⟩ u).setCell ⟨w.heap.size,1,none⟩ v) (some gr)∧jk 130 ((wr.setCell ⟨w.heap.size,0,none⟩ u).setCell ⟨w.heap.size,1,none⟩ v) A n c l:=by
 obtain ⟨h1,h2⟩:=h.lt;refine ⟨(h.rd.far h1 _).far h1 _,dd (dd h.rg Qr _) Qr _,?_⟩
 have hn:l.length=n:=by
  obtain ⟨A',c',e,_⟩:=h.row.form;injection e with _ e _;exact e.symm
 have hr:=h.row;rw [hn] at hr
 have ht:Tch TA wr ((wr.setCell ⟨w.heap.size,0,none⟩ u).setCell ⟨w.heap.size,1,none⟩ v) :=
  Tch.of_ne (by simp [World.setCell]) h.out rfl rfl fun g' _ hne=>by rw [Below.heap_setCell _ _ _ _ hne,Below.heap_setCell _ _ _ _ hne]
 exact jk.of_row (hr.same (fun g cur hg hc=>by rw [Below.heap_setCell _ _ _ _ (by show g≠w.heap.size;omega),Below.heap_setCell _ _ _ _ (by show g≠w.heap.size;omega)];exact hc) (fun _ _ x=>x.tch ht))
theorem BdR.b5 {xs:List Value}{w5:World}(h:BdR B w gr gb c1 c2 c3 c4 nm wr s l pv) (hown:OwJ noW wr gb 67 7 pv l.length xs) (o:Obj) (hgrow:(wr.alloc o).grownBy w5 pv.ownBlock):Blk w5 gb 62 #[af nm,pv] :=
 (h.b.alloc o).grown hgrow (rP hown h.b (by decide))
theorem BdR.push {xs:List Value}{w5:World}{v':Value}{cs:List Value}{m:aA}{o:Obj}(h:BdR B w gr gb c1 c2 c3 c4 nm wr s l pv) (hown:OwJ noW wr gb 67 7 pv l.length xs) (hrow:eZ (MkC 130) 7 wr l xs)
 (hm:MkC 130 wr cs m) (hcs:cs.length=7) (hown5:OwJ noW w5 gb 67 7 v' (l.length+1) (xs ++ cs)) (hgrow:(wr.alloc o).grownBy w5 pv.ownBlock):BdR B w gr gb c1 c2 c3 c4 nm (w5.setCell ⟨gb,1,none⟩ v') s (l ++ [m]) v':=by
 obtain ⟨h1,h2⟩:=h.lt;have b5:=h.b5 hown o hgrow;have hs:=h.b.lt;have hb5:Below gb wr w5:=((Below.refl gb wr).alloc (by omega) o).grown hgrow (by simp;omega) (fun k hk=>(hown.at_ hk).1);have hb6:Below gb wr (w5.setCell ⟨gb,1,none⟩ v'):=hb5.setCell (p:=⟨gb,1,none⟩) Qr v';have hownA:OwJ noW (wr.alloc o) gb 67 7 pv l.length xs:=hown.belw ((Below.refl _ _).alloc Qr o);obtain ⟨A,c,hpv,_⟩:=h.row.form;have ht:Tch TA wr (w5.setCell ⟨gb,1,none⟩ v'):=((Tch.below ((Below.refl _ _).alloc Qr o)).trans (Tch.grown (T:=TA) (fun _ hu=>hu) rfl hownA hgrow)).trans (Tch.set b5 rfl (by rw [hpv];rfl) 1 v');have hl:(l ++ [m]).length=l.length+1:=by simp
 refine ⟨h.rd.bel1 (hb6.mono (by omega)),cq h.rg (hb6.mono (by omega)),h.out.below hb6 h2,b5.s21 v',?_,h.lt⟩;rw [hl];exact ⟨hl,xs ++ cs,hown5.far (rP hown5 b5 (by decide)) v',(hrow.map_ fun _ _ x=>x.tch ht).snoc (hm.tch ht) hcs⟩
end
theorem tp (B:Nat) (w:World) (gr:Nat) (c1 c2 c3 c4:Value) (s:PS) (h:RdP B w gr c1 c2 c3 c4 s):Calls Tryz.prog 72 #[.pointer (some ⟨gr,0,none⟩)] w (vK B w gr c1 c2 c3 c4 s.body.1 s.body.2):=by
 obtain ⟨i0,hi0,hz0,hz1,hz2⟩:=info_parts tm;have HI:=Qh (And.intro hi0 (And.intro hz0 (And.intro hz1 hz2)));clear hi0 hz0 hz1 hz2;unfold PS.body;obtain ⟨R,hR⟩:∃ R,PS.marks (s.toks.length+1) (s.word.2.expect 2 [123]) []=R:=⟨_,rfl⟩;simp only [hR];have HR:=Qh hR;have HP:=Qh h;have hlt:=h.lt;have HN:=Qh (dX h.txt);clear h hR;go_in;go_wp2_with fail;(with_reducible refine (bK B _ gr c1 c2 c3 c4 s (HP.out.alloc _)).mono ?_);rintro e w1 ⟨rfl,h1,hg1⟩;have z1:Blk w1 w.heap.size 62 #[af [],.slice none 0 0]:=bh hg1 (Blk.new _ _ _) (by omega);have G1:w.grownBy w1 (some gr):=au (aP (rg_refl gr w) _) hg1;have hlz:=z1.lt;have hl1:=h1.lt;have H1:=Qh h1;clear hg1 h1;go_wp2_with fail;(with_reducible refine (cT B _ gr c1 c2 c3 c4 s.word.2 (H1.out.alloc _) [123]).mono ?_);rintro e w2 ⟨rfl,h2,hg2⟩;have z2:Blk w2 w.heap.size 62 #[af [],.slice none 0 0]:=bh hg2 (z1.alloc _) (by omega);have b2:Blk w2 w1.heap.size 62 #[af s.word.1,.slice none 0 0]:=bh hg2 (Blk.new _ _ _) (by omega);have G2:w.grownBy w2 (some gr):=au (aP G1 _) hg2;clear z1 G1 H1 hg2;generalize w1.heap.size=gb at hlz hl1 b2 ⊢;have HB2:=Qh b2;have HZ2:=Qh z2;have H2:=Qh h2;clear b2 z2 h2;go_wp2_with fail;go_loopw [] (fun wr=>∃ f s' l pv,BdR B w gr gb c1 c2 c3 c4 s.word.1 wr s' l pv∧(s'.x=0→s'.toks.length < f∧l.length+s'.toks.length≤65536)∧Hid (PS.marks f s' l=R)) (fun wr=>mOf gr wr)
 case atStart =>
  have hst:=(ap s).trans (aD s.word.2 2 [123]);have h6:=HP.out.len;exact ⟨_,_,[],_,⟨H2.out,G2,HZ2.out,HB2.out,aO.nil,hlt,hlz⟩,fun _=>⟨by have:=hst.1;omega,by have:=hst.1;simp;omega⟩,HR⟩
 case round =>
  clear HR H2 HZ2 HB2 G2;obtain ⟨f,s',l,pv,hbr,hfl,HR⟩:=hrel;obtain ⟨A,n,c,hb,ht⟩:=hbr.rd.blk;obtain ⟨a0,_,_,_,_,a5⟩:=hb.c6;obtain ⟨Ap,cp,rfl,hcp⟩:=hbr.row.form;have HBR:=Qh hbr;clear hb hbr;by_cases hx:s'.x=0
  ·rw [hx,bH] at a5
   obtain ⟨hf1,hf2⟩:=hfl hx;have hff:0 < f:=by omega
   rcases ht.first with ⟨hn0,hs⟩ | ⟨hn0,g,o,k,e,d0,hs⟩
   rotate_left
   ·subst e
    rw [show decide (k=2)=_ from rfl] at hs;have hi0:(0:Int) < (n:Int):=by omega
    have hi1:(0 < n)=True:=eq_true hn0;clear ht;by_cases hk:k=2
    ·have hk1:((k:Int) == 2)=true:=by simp [hk]
     have hRl:=gK (l:=l) hff hx (by rw [hs];simp [hk]);rw [HR.out] at hRl;subst hRl;clear hs hfl;go_wp2_with fail;(with_reducible refine (cT B _ gr c1 c2 c3 c4 s' HBR.out.rd [125]).mono ?_);rintro e w3 ⟨rfl,h3,hg3⟩;have HB3:=Qh (HBR.out.call h3 hg3);obtain ⟨cz0,cz1⟩:=HB3.out.out.c2;obtain ⟨fz0,fz1⟩:=HB3.out.out.f2;obtain ⟨cb0,cb1⟩:=HB3.out.b.c2;have hne:¬ gb=w.heap.size:=by omega
     clear h3 hg3;go_wp2_with fail;refine bodyPost_ret (v:=.agg #[af s.word.1,.slice Ap l.length cp]) (by simp [results,Tryz.results72,go_sem, *] <;> trivial) rfl ?_;exact ⟨_,_,_,rfl,(HB3.out.fin _ _).2.2,HN.out,(HB3.out.fin _ _).1,(HB3.out.fin _ _).2.1⟩
    have hk1:((k:Int) == 2)=false:=beq_eq_false_iff_ne.2 (by omega);have hs2:s'.signHead=false:=by rw [hs];simp [hk]
    clear hs;have HS2:=Qh hs2;clear hs2;go_wp2_with fail;(with_reducible refine (bK B _ gr c1 c2 c3 c4 s' HBR.out.rd).mono ?_);rintro e w3 ⟨rfl,h3,hg3⟩;have hnm:=Qh (dX HBR.out.rd.txt);have hl3:=h3.lt;have hw3:=hg3.size;have H3:=Qh h3;clear h3 a0 a5;go_wp2_with fail;(with_reducible refine (eV B _ gr c1 c2 c3 c4 s'.word.2 (H3.out.alloc _)).mono ?_);rintro e w4 ⟨b4,A4,n4,d4,D4,m4,e4,rfl,q4,h4,hg4⟩;have p4:Blk w4 w3.heap.size 67 #[af s'.word.1,.bool false,.slice none 0 0,.slice none 0 0,.bool false,.slice none 0 0,.slice none 0 0]:=bh hg4 (Blk.new _ _ _) (by omega);have g4:wr.grownBy w4 (some gr):=au (aP hg3 _) hg4;have hlp4:=p4.lt;obtain ⟨_,fp1,fp2,fp3,_⟩:=p4.f7;obtain ⟨_,cq1,cq2,cq3,_⟩:=p4.c7;have P4:=Qh p4;have H4:=Qh h4;have Q4:=Qh q4;clear p4 h4 q4 hg4 hg3 H3;go_wp2_with fail;(with_reducible refine (eV B _ gr c1 c2 c3 c4 s'.word.2.number.2 (H4.out.bel1 (bC w4 hl3 1 2 3 (.bool b4) (.slice A4 n4 d4) (.slice D4 m4 e4)))).mono ?_);rintro e w5 ⟨b5,A5,n5,d5,D5,m5,e5,rfl,q5,h5,hg5⟩;have p5:=bh hg5 (P4.out.x7 (.bool b4) (.slice A4 n4 d4) (.slice D4 m4 e4)) (by omega);have g5:wr.grownBy w5 (some gr):=au (cq g4 (bC w4 hw3 1 2 3 (.bool b4) (.slice A4 n4 d4) (.slice D4 m4 e4))) hg5;have q45:=(Q4.out.tch (eF P4.out rfl 1 2 3 (.bool b4) (.slice A4 n4 d4) (.slice D4 m4 e4))).tch ((H4.out.bel1 (bC w4 hl3 1 2 3 (.bool b4) (.slice A4 n4 d4) (.slice D4 m4 e4))).tch hg5 (T:=TA) rfl);have hlp5:=p5.lt;obtain ⟨_,_,_,_,fr4,fr5,fr6⟩:=p5.f7;obtain ⟨_,_,_,_,cr4,cr5,cr6⟩:=p5.c7;have P5:=Qh p5;have H5:=Qh h5;have Q45:=Qh q45;have Q5:=Qh q5;clear p5 h5 q5 q45 hg5 g4 P4 H4 Q4 fp1 fp2 fp3 cq1 cq2 cq3;go_wp2_with fail;(with_reducible refine (cT B _ gr c1 c2 c3 c4 s'.word.2.number.2.number.2 (H5.out.bel1 (bC w5 hl3 4 5 6 (.bool b5) (.slice A5 n5 d5) (.slice D5 m5 e5))) [59]).mono ?_);rintro e w6 ⟨rfl,h6,hg6⟩;have p6:=bh hg6 (P5.out.y7 (.bool b5) (.slice A5 n5 d5) (.slice D5 m5 e5)) (by omega);have g6:wr.grownBy w6 (some gr):=au (cq g5 (bC w5 hw3 4 5 6 (.bool b5) (.slice A5 n5 d5) (.slice D5 m5 e5))) hg6;have t6:=(eF P5.out rfl 4 5 6 (.bool b5) (.slice A5 n5 d5) (.slice D5 m5 e5)).trans ((H5.out.bel1 (bC w5 hl3 4 5 6 (.bool b5) (.slice A5 n5 d5) (.slice D5 m5 e5))).tch hg6 (T:=TA) rfl);have HM:=Qh (show MkC 130 w6 [af s'.word.1,.bool b4,.slice A4 n4 d4,.slice D4 m4 e4,.bool b5,.slice A5 n5 d5,.slice D5 m5 e5] s'.mark.1 from ⟨b4,A4,n4,d4,D4,m4,e4,b5,A5,n5,d5,D5,m5,e5,rfl,Q45.out.tch t6,Q5.out.tch t6,hnm.out⟩);have HB6:=Qh (show BdR B w gr gb c1 c2 c3 c4 s.word.1 w6 s'.mark.2 l (.slice Ap l.length cp) from HBR.out.call h6 g6);obtain ⟨_,xs,hown,hrow⟩:=HB6.out.row;have HO:=Qh hown;have HW:=Qh hrow;obtain ⟨cb0,cb1⟩:=HB6.out.b.c2;obtain ⟨cp0,cp1,cp2,cp3,cp4,cp5,cp6⟩:=p6.c7;have hlb:=HB6.out.b.lt;have hlp6:=p6.lt;clear h6 hg6 hown hrow p6 t6 g5 g6 P5 H5 Q45 Q5 fr4 fr5 fr6 cr4 cr5 cr6;go_wp2_with (at_builtin;refine cQ _ rfl noW _ _ _ rfl gb 67 i0 (.agg #[.string ⟨#[]⟩,.bool false,.slice none 0 0,.slice none 0 0,.bool false,.slice none 0 0,.slice none 0 0]) 7 128 Tryz.underlying60 HI.out.1 HI.out.2.1 HI.out.2.2.1 HI.out.2.2.2 rfl (by omega) rfl _ l.length xs rfl (HO.out.belw ((Below.refl _ _).alloc Qr _)) ⟨w6.heap.size,0,none⟩ 1 1 [_,_,_,_,_,_,_] rfl rfl (World.news_of_block (heap_alloc_new w6 _)) (by simp [Value.oneCell']) rfl (by omega) (by unfold maxLen;omega) (by omega) (by simp;omega) ?_;intro gx cap w7 hown7 hgrow hat;have fb7:=(HB6.out.b5 HO.out _ hgrow).frozen 1;obtain ⟨ce0,ce1⟩:=(HB6.out.b5 HO.out _ hgrow).c2);have hst:=fW s';have hR2:=dY (l:=l) hff hx HS2.out;rw [HR.out] at hR2;go_roundw
    case rel =>
     refine ⟨f - 1,s'.mark.2,l ++ [s'.mark.1],_,HB6.out.push HO.out HW.out HM.out rfl hown7 hgrow,fun hz=>?_,Qh hR2.symm⟩;have h9:=(hst.2.2.1 hz).2;rw [List.length_append,List.length_singleton];omega
    case measure =>
     rw [(HB6.out.push HO.out HW.out HM.out rfl hown7 hgrow).rd.meas,HBR.out.rd.meas,if_pos hx];have h8:=hst.1;by_cases hz:s'.mark.2.x=0
     ·have h9:=(hst.2.2.1 hz).2
      rw [if_pos hz];omega
     rw [if_neg hz];omega
   subst hn0;have hs2:s'.signHead=false:=hs;clear hs ht;have HS2:=Qh hs2;clear hs2;go_wp2_with fail;(with_reducible refine (bK B _ gr c1 c2 c3 c4 s' HBR.out.rd).mono ?_);rintro e w3 ⟨rfl,h3,hg3⟩;have hnm:=Qh (dX HBR.out.rd.txt);have hl3:=h3.lt;have hw3:=hg3.size;have H3:=Qh h3;clear h3 a0 a5;go_wp2_with fail;(with_reducible refine (eV B _ gr c1 c2 c3 c4 s'.word.2 (H3.out.alloc _)).mono ?_);rintro e w4 ⟨b4,A4,n4,d4,D4,m4,e4,rfl,q4,h4,hg4⟩;have p4:Blk w4 w3.heap.size 67 #[af s'.word.1,.bool false,.slice none 0 0,.slice none 0 0,.bool false,.slice none 0 0,.slice none 0 0]:=bh hg4 (Blk.new _ _ _) (by omega);have g4:wr.grownBy w4 (some gr):=au (aP hg3 _) hg4;have hlp4:=p4.lt;obtain ⟨_,fp1,fp2,fp3,_⟩:=p4.f7;obtain ⟨_,cq1,cq2,cq3,_⟩:=p4.c7;have P4:=Qh p4;have H4:=Qh h4;have Q4:=Qh q4;clear p4 h4 q4 hg4 hg3 H3;go_wp2_with fail;(with_reducible refine (eV B _ gr c1 c2 c3 c4 s'.word.2.number.2 (H4.out.bel1 (bC w4 hl3 1 2 3 (.bool b4) (.slice A4 n4 d4) (.slice D4 m4 e4)))).mono ?_);rintro e w5 ⟨b5,A5,n5,d5,D5,m5,e5,rfl,q5,h5,hg5⟩;have p5:=bh hg5 (P4.out.x7 (.bool b4) (.slice A4 n4 d4) (.slice D4 m4 e4)) (by omega);have g5:wr.grownBy w5 (some gr):=au (cq g4 (bC w4 hw3 1 2 3 (.bool b4) (.slice A4 n4 d4) (.slice D4 m4 e4))) hg5;have q45:=(Q4.out.tch (eF P4.out rfl 1 2 3 (.bool b4) (.slice A4 n4 d4) (.slice D4 m4 e4))).tch ((H4.out.bel1 (bC w4 hl3 1 2 3 (.bool b4) (.slice A4 n4 d4) (.slice D4 m4 e4))).tch hg5 (T:=TA) rfl);have hlp5:=p5.lt;obtain ⟨_,_,_,_,fr4,fr5,fr6⟩:=p5.f7;obtain ⟨_,_,_,_,cr4,cr5,cr6⟩:=p5.c7;have P5:=Qh p5;have H5:=Qh h5;have Q45:=Qh q45;have Q5:=Qh q5;clear p5 h5 q5 q45 hg5 g4 P4 H4 Q4 fp1 fp2 fp3 cq1 cq2 cq3;go_wp2_with fail;(with_reducible refine (cT B _ gr c1 c2 c3 c4 s'.word.2.number.2.number.2 (H5.out.bel1 (bC w5 hl3 4 5 6 (.bool b5) (.slice A5 n5 d5) (.slice D5 m5 e5))) [59]).mono ?_);rintro e w6 ⟨rfl,h6,hg6⟩;have p6:=bh hg6 (P5.out.y7 (.bool b5) (.slice A5 n5 d5) (.slice D5 m5 e5)) (by omega);have g6:wr.grownBy w6 (some gr):=au (cq g5 (bC w5 hw3 4 5 6 (.bool b5) (.slice A5 n5 d5) (.slice D5 m5 e5))) hg6;have t6:=(eF P5.out rfl 4 5 6 (.bool b5) (.slice A5 n5 d5) (.slice D5 m5 e5)).trans ((H5.out.bel1 (bC w5 hl3 4 5 6 (.bool b5) (.slice A5 n5 d5) (.slice D5 m5 e5))).tch hg6 (T:=TA) rfl);have HM:=Qh (show MkC 130 w6 [af s'.word.1,.bool b4,.slice A4 n4 d4,.slice D4 m4 e4,.bool b5,.slice A5 n5 d5,.slice D5 m5 e5] s'.mark.1 from ⟨b4,A4,n4,d4,D4,m4,e4,b5,A5,n5,d5,D5,m5,e5,rfl,Q45.out.tch t6,Q5.out.tch t6,hnm.out⟩);have HB6:=Qh (show BdR B w gr gb c1 c2 c3 c4 s.word.1 w6 s'.mark.2 l (.slice Ap l.length cp) from HBR.out.call h6 g6);obtain ⟨_,xs,hown,hrow⟩:=HB6.out.row;have HO:=Qh hown;have HW:=Qh hrow;obtain ⟨cb0,cb1⟩:=HB6.out.b.c2;obtain ⟨cp0,cp1,cp2,cp3,cp4,cp5,cp6⟩:=p6.c7;have hlb:=HB6.out.b.lt;have hlp6:=p6.lt;clear h6 hg6 hown hrow p6 t6 g5 g6 P5 H5 Q45 Q5 fr4 fr5 fr6 cr4 cr5 cr6;go_wp2_with (at_builtin;refine cQ _ rfl noW _ _ _ rfl gb 67 i0 (.agg #[.string ⟨#[]⟩,.bool false,.slice none 0 0,.slice none 0 0,.bool false,.slice none 0 0,.slice none 0 0]) 7 128 Tryz.underlying60 HI.out.1 HI.out.2.1 HI.out.2.2.1 HI.out.2.2.2 rfl (by omega) rfl _ l.length xs rfl (HO.out.belw ((Below.refl _ _).alloc Qr _)) ⟨w6.heap.size,0,none⟩ 1 1 [_,_,_,_,_,_,_] rfl rfl (World.news_of_block (heap_alloc_new w6 _)) (by simp [Value.oneCell']) rfl (by omega) (by unfold maxLen;omega) (by omega) (by simp;omega) ?_;intro gx cap w7 hown7 hgrow hat;have fb7:=(HB6.out.b5 HO.out _ hgrow).frozen 1;obtain ⟨ce0,ce1⟩:=(HB6.out.b5 HO.out _ hgrow).c2);have hst:=fW s';have hR2:=dY (l:=l) hff hx HS2.out;rw [HR.out] at hR2;go_roundw
   case rel =>
    refine ⟨f - 1,s'.mark.2,l ++ [s'.mark.1],_,HB6.out.push HO.out HW.out HM.out rfl hown7 hgrow,fun hz=>?_,Qh hR2.symm⟩;have h9:=(hst.2.2.1 hz).2;rw [List.length_append,List.length_singleton];omega
   case measure =>
    rw [(HB6.out.push HO.out HW.out HM.out rfl hown7 hgrow).rd.meas,HBR.out.rd.meas,if_pos hx];have h8:=hst.1;by_cases hz:s'.mark.2.x=0
    ·have h9:=(hst.2.2.1 hz).2
     rw [if_pos hz];omega
    rw [if_neg hz];omega
  rw [eVp hx] at a5;have hz:=HBR.out.out;have hbb:=HBR.out.b;obtain ⟨cz0,cz1⟩:=hz.c2;obtain ⟨fz0,fz1⟩:=hz.f2;obtain ⟨cb0,cb1⟩:=hbb.c2;have hne:¬ gb=w.heap.size:=by omega
  have hRl:=kJ (f:=f) (l:=l) hx;rw [HR.out] at hRl;subst hRl;clear hz hbb hfl ht;go_wp2_with fail;refine bodyPost_ret (v:=.agg #[af s.word.1,.slice Ap l.length cp]) (by simp [results,Tryz.results72,go_sem, *] <;> trivial) rfl ?_;exact ⟨_,_,_,rfl,(HBR.out.fin _ _).2.2,HN.out,(HBR.out.fin _ _).1,(HBR.out.fin _ _).2.1⟩
theorem nR {α:Type}{f:α→List UInt8}{l:List α}{nm:List UInt8}{i:Nat}{b:α}(h:∀ a∈l.take i,f a≠nm) (hb:l[i]?=some b) (e:f b=nm):l.findIdx? (fun x=>f x == nm)=some i:=by
 rw [List.findIdx?_eq_some_iff_getElem];obtain ⟨hi,hb⟩:=List.getElem?_eq_some_iff.1 hb;refine ⟨hi,by rw [hb];simp [e],fun j hj=>?_⟩
 have hm:l[j]'(by omega)∈l.take i:=by
  rw [List.mem_take_iff_getElem];exact ⟨j,by omega,rfl⟩
 simpa using h _ hm
theorem l5 {α:Type}{f:α→List UInt8}{l:List α}{nm:List UInt8}(h:∀ a∈l,f a≠nm):l.findIdx? (fun x=>f x == nm)=none:=by
 rw [List.findIdx?_eq_none_iff];intro x hx;simpa using h x hx
theorem j5 {α:Type}{p:α→Prop}{l:List α}{i:Nat}{b:α}(h:∀ a∈l.take i,p a) (hb:l[i]?=some b) (hp:p b):∀ a∈l.take (i+1),p a:=by
 intro a ha;rw [List.take_add_one,hb] at ha;simp at ha;rcases ha with ha | rfl
 ·exact h a ha
 exact hp
section
variable {w w':World}{gr base n c:Nat}{A:Option Addr}{cs:Array Value}
theorem aO.rgt {α:Type}{T0:TypeId}{Pc:World→List Value→α→Prop}{sz:Nat}{v:Value}{l:List α}(h:aO T0 Pc sz w base v n l) (hb:Blk w gr 87 cs) (hne:T0≠87) (k:w.grownBy w' (some gr)) (hP:∀ cs a,Pc w cs a→Pc w' cs a):aO T0 Pc sz w' base v n l :=
 h.same (fun g cur _ hc=>nO k hc (fun e=>by
  subst e;unfold Blk at hb;rw [hb] at hc;injection hc with hc;injection hc with _ hc
  exact hne hc.symm)) hP
theorem aO.bds {k:Nat}{l:List aq}(h:aO 62 (BdC k) 2 w base (.slice A n c) n l):SlS (du k) 2 w A n c l:=(h.slT (P:=du k) fun _ _ _ _ h1 h2=>h1.at_ h2).sl fun _ _ _ p=>p
theorem aO.jts {l:List aQ}(h:aO 79 JtC 7 w base (.slice A n c) n l):SlS gQ 7 w A n c l:=(h.slT (P:=gQ) fun _ _ _ _ h1 h2=>h1.at_ h2).sl fun _ _ _ p=>p
theorem aO.drs {l:List aU}(h:aO 81 DrC 2 w base (.slice A n c) n l):SlS gR 2 w A n c l:=(h.slT (P:=gR) fun _ _ _ _ h1 h2=>h1.at_ h2).sl fun _ _ _ p=>p
end
theorem RdP.bodies {B:Nat}{w w':World}{gr n c:Nat}{A:Option Addr}{c1 c2 c3 c4:Value}{s:PS}{l:List aq}(h:RdP B w gr c1 c2 c3 c4 s) (hr:aO 62 (BdC 130) 2 w B (.slice A n c) n l) (k:w.grownBy w' (some gr)):aO 62 (BdC 130) 2 w' B (.slice A n c) n l:=by
 obtain ⟨_,_,_,hb,_⟩:=h.blk;exact hr.rgt hb (by decide) k fun _ _ x=>x.tch (T:=fun t=>t == 87) (h.tch k rfl) (by decide)
theorem l6 (B:Nat) (w:World) (gr:Nat) (c1 c3 c4:Value) (A:Option Addr) (n c:Nat) (s:PS) (h:RdP B w gr c1 (.slice A n c) c3 c4 s) (hr:aO 62 (BdC 130) 2 w B (.slice A n c) n s.L.bodies) (hn:n≤100000) (only:Int):Calls Tryz.prog 74 #[.pointer (some ⟨gr,0,none⟩),.int .i64 only] w (mZ B w gr c1 (.slice A n c) c3 c4 (.int .i64 (s.named only).1) (s.named only).2):=by
 have HP:=Qh h;have HR:=Qh hr;obtain ⟨W,hW⟩:∃ W,s.named only=W:=⟨_,rfl⟩;rw [hW];have HW:=Qh hW;clear h hr hW;go_in;go_wp2_with fail;(with_reducible refine (bK B _ gr c1 (.slice A n c) c3 c4 s HP.out).mono ?_);rintro e w1 ⟨rfl,h1,hg1⟩;have HB:=Qh (HP.out.bodies HR.out hg1);have hLs:=(ap s).2.2.2;have hW:=HW.out;unfold PS.named at hW;simp only at hW;rw [hLs] at hW;generalize s.word.2=s' at h1 hW;generalize s.word.1=nm at hW ⊢;have H1:=Qh h1;obtain ⟨D,m,d,hb,_⟩:=h1.blk;obtain ⟨_,_,a2,_,_,a5⟩:=hb.c6;have hgl:=hb.lt;clear hb h1 HW HP HR hLs;by_cases hx:s'.x=0
 ·rw [if_neg (by simp [hx])] at hW
  rw [hx,bH] at a5;have HX:=Qh hx;have HW:=Qh hW;clear hx hW;go_wp2_with fail;clear a2 a5;go_loopw [21] (fun iv wr=>∃ i:Nat,iv=.int .i64 (i:Nat)∧i≤n∧Hid (∀ a∈s.L.bodies.take i,a.name≠nm)∧Below w1.heap.size w1 wr) (fun iv _=>n - (intOf iv).toNat)
  case atStart=>exact ⟨0,rfl,Nat.zero_le _,Qh (by simp),aa w1⟩
  case round =>
   obtain ⟨i,rfl,hi,HT,hb⟩:=hrel;rename World=>wr;rcases Nat.lt_or_ge i n with hlt | hge
   ·have hi1:((i:Int) < (n:Int))=True:=by simp;omega
    obtain ⟨g,o,b,e,hg,_,hbi,hB⟩:=(HB.out.bds.bd hb).at_ hlt;subst e;obtain ⟨A',n',c',d0,d1,hM,hnm⟩:=hB;clear hM hnm;have htl:=aI b.name;have htn:=aI nm;have HBI:=Qh hbi;clear hbi;by_cases heq:b.name=nm
    ·have hf:lX s.L.bodies nm=some i:=nR (f:=aq.name) HT.out HBI.out heq
     have hW:=HW.out;rw [hf] at hW;simp only at hW;rw [heq] at d0 htl;have hee:(nm == nm)=true:=by simp
     have r1:=H1.out.belw hb;have g1:=dK hg1 hb;have R1:=Qh r1;clear HBI heq hf r1;by_cases ho:0≤only
     ·have ho1:(0≤only)=True:=eq_true ho
      by_cases hio:(i:Int)=only
      ·rw [if_neg (by simp [hio])] at hW
       subst hW;have hio1:((i:Int) == only)=true:=by simp [hio]
       clear hio;go_wp2;go_ret;exact ⟨rfl,R1.out.alloc _,aP g1 _⟩
      rw [if_pos ⟨ho,hio⟩,show s'.fail 7={ s' with x:=7 } from if_pos HX.out] at hW;subst hW;have hio1:((i:Int) == only)=false:=beq_eq_false_iff_ne.2 hio;clear hio;obtain ⟨D2,m2,d2,hbr,htr⟩:=R1.out.blk;have HBr:=Qh (hbr.alloc (.cells #[af nm,.slice A' n' c'] 62));have HTr:=Qh htr;clear hbr htr;go_wp2_with fail;(with_reducible refine (dk _ gr (.slice D2 m2 d2) c1 (.slice (some ⟨g,o,none⟩) n c) c3 c4 s'.x 7 HBr.out (by decide)).mono ?_);rintro e w2 ⟨rfl,hb2,hg2⟩;have g2:=au (aP (rg_refl gr wr) _) hg2;rw [if_pos HX.out] at hb2;have R2:RdP B w2 gr c1 (.slice (some ⟨g,o,none⟩) n c) c3 c4 { s' with x:=7 }:=⟨⟨D2,m2,d2,hb2,HTr.out.rg R1.out.hB g2⟩,R1.out.mx.rg R1.out.hB g2,R1.out.hB,R1.out.len,R1.out.txt,R1.out.hw⟩;clear hb2;go_wp2;go_ret;exact ⟨rfl,R2,au g1 g2⟩
     have ho1:(0≤only)=False:=eq_false ho;rw [if_neg (by omega)] at hW;subst hW;go_wp2;go_ret;exact ⟨rfl,R1.out.alloc _,aP g1 _⟩
    have hee:(b.name == nm)=false:=beq_eq_false_iff_ne.2 heq;have HT2:=Qh (j5 (p:=fun a:aq=>a.name≠nm) HT.out HBI.out heq);clear heq HT HBI;go_wp2_with fail;go_roundw
    case rel=>exact ⟨i+1,by go_num,by omega,HT2,hb.alloc hb.size _⟩
    case measure=>simp [intOf];omega
   have hi1:((i:Int) < (n:Int))=False:=by simp;omega
   obtain rfl:i=n:=by omega
   have hl:s.L.bodies.length=i:=HB.out.1;have hf:lX s.L.bodies nm=none:=l5 (f:=aq.name) fun a ha=>HT.out a (by rw [List.take_of_length_le (by omega)];exact ha)
   have hW:=HW.out;rw [hf] at hW;simp only at hW;have e2:s'.fail 5={ s' with x:=5 }:=if_pos HX.out;rw [e2] at hW;subst hW;have r1:=H1.out.belw hb;have g1:=dK hg1 hb;have R1:=Qh r1;obtain ⟨D2,m2,d2,hbr,htr⟩:=r1.blk;have HBr:=Qh hbr;have HTr:=Qh htr;clear hbr htr r1 hf hl HT;go_wp2_with fail;(with_reducible refine (dk _ gr (.slice D2 m2 d2) c1 (.slice A i c) c3 c4 s'.x 5 HBr.out (by decide)).mono ?_);rintro e w2 ⟨rfl,hb2,g2⟩;rw [if_pos HX.out] at hb2;have R2:RdP B w2 gr c1 (.slice A i c) c3 c4 { s' with x:=5 }:=⟨⟨D2,m2,d2,hb2,HTr.out.rg R1.out.hB g2⟩,R1.out.mx.rg R1.out.hB g2,R1.out.hB,R1.out.len,R1.out.txt,R1.out.hw⟩;clear hb2;go_wp2;go_ret;exact ⟨rfl,R2,au g1 g2⟩
 rw [if_pos (by simpa using hx)] at hW;subst hW;rw [eVp hx] at a5;clear hx;go_wp2;go_ret;exact ⟨rfl,H1.out,hg1⟩
theorem RdP.body_at {k n c i:Nat}{w:World}{A:Option Addr}{l:List aq}(h:SlS (du k) 2 w A n c l) (hi:i < n):∃ g o b A' n' c',A=some ⟨g,o,none⟩∧l[i]?=some b∧w.cell? ⟨g,o+i * 2+1,none⟩=some (.slice A' n' c')∧SlS (de k) 7 w A' n' c' b.pts:=by
 obtain ⟨g,o,b,e,hg,_,hbi,A',n',c',d0,d1,hM,_⟩:=h.at_ hi;exact ⟨g,o,b,A',n',c',e,hbi,d1,hM⟩
theorem gf (B:Nat) (w:World) (gr:Nat) (c1 c3 c4:Value) (A:Option Addr) (n c:Nat) (s:PS) (h:RdP B w gr c1 (.slice A n c) c3 c4 s) (hr:aO 62 (BdC 130) 2 w B (.slice A n c) n s.L.bodies) (hn:n≤100000) (hpt:∀ b∈s.L.bodies,b.pts.length≤100000) (only:Int):Calls Tryz.prog 73 #[.pointer (some ⟨gr,0,none⟩),.int .i64 only] w (mZ B w gr c1 (.slice A n c) c3 c4 (.tuple #[.int .i64 (s.full only).1,.int .i64 (s.full only).2.1]) (s.full only).2.2):=by
 have HP:=Qh h;have HR:=Qh hr;have HPT:=Qh hpt;obtain ⟨W,hW⟩:∃ W,s.full only=W:=⟨_,rfl⟩;rw [hW];have HW:=Qh hW;clear h hr hW hpt;go_in;go_wp2_with fail;(with_reducible refine (l6 B _ gr c1 c3 c4 A n c s HP.out HR.out hn only).mono ?_);rintro e w1 ⟨rfl,h1,hg1⟩;have H1:=Qh h1;clear h1;go_wp2_with fail;(with_reducible refine (cT B _ gr c1 (.slice A n c) c3 c4 (s.named only).2 H1.out [46]).mono ?_);rintro e w2 ⟨rfl,h2,hg2⟩;have H2:=Qh h2;clear h2;go_wp2_with fail;(with_reducible refine (bK B _ gr c1 (.slice A n c) c3 c4 ((s.named only).2.expect 2 [46]) H2.out).mono ?_);rintro e w3 ⟨rfl,h3,hg3⟩;have G3:=au (au hg1 hg2) hg3;have HB:=Qh (HP.out.bodies HR.out G3);have hst:=(aD (s.named only).2 2 [46]).trans (ap ((s.named only).2.expect 2 [46]));have hLs:=((eR s only).trans hst).2.2.2;have hin:=rL s only;have hW:=HW.out;unfold PS.full at hW;simp only at hW;rw [hLs] at hW;have hxs:((s.named only).2.expect 2 [46]).word.2.x=0→(s.named only).2.x=0:=fun hx=>(hst.2.2.1 hx).1
 clear hst hLs HW H1 H2 hg1 hg2 hg3 HP HR;generalize ((s.named only).2.expect 2 [46]).word.2=s' at h3 hW hxs;generalize ((s.named only).2.expect 2 [46]).word.1=nm at hW ⊢;generalize (s.named only).1=b at hW hin ⊢;have H3:=Qh h3;obtain ⟨D,m,d,hb,_⟩:=h3.blk;obtain ⟨_,_,a2,_,_,a5⟩:=hb.c6;have hgl:=hb.lt;clear hb h3;by_cases hx:s'.x=0
 ·rw [if_neg (by simp [hx])] at hW
  rw [hx,bH] at a5;obtain ⟨ib,eb,hib⟩:=hin (hxs hx);subst eb;have HX:=Qh hx;have hl:s.L.bodies.length=n:=HB.out.1;obtain ⟨g,o,bd,A',n',c',e,hbi,d1,hM⟩:=RdP.body_at HB.out.bds (show ib < n by omega);subst e
  have hp:cK s.L (ib:Int)=bd.pts:=by
   unfold cK;rw [Int.toNat_natCast,hbi]
  rw [hp] at hW;have hi1:((ib:Int) < (n:Int))=True:=by simp;omega
  have hi2:(0:Int)≤(ib:Int):=by omega
  have hn':n'≤100000:=by rw [← hM.1];exact HPT.out bd (List.mem_of_getElem? hbi)
  have HW:=Qh hW;have HM:=Qh hM;clear hx hW hp hbi hM hxs hin hl;go_wp2_with fail;clear a2 a5 d1;go_loopw [32] (fun iv wr=>∃ i:Nat,iv=.int .i64 (i:Nat)∧i≤n'∧Hid (∀ a∈bd.pts.take i,a.name≠nm)∧Below w3.heap.size w3 wr) (fun iv _=>n' - (intOf iv).toNat)
  case atStart=>exact ⟨0,rfl,Nat.zero_le _,Qh (by simp),aa w3⟩
  case round =>
   obtain ⟨i,rfl,hi,HT,hb⟩:=hrel;rename World=>wr;rcases Nat.lt_or_ge i n' with hlt | hge
   ·have hj1:((i:Int) < (n':Int))=True:=by simp;omega
    obtain ⟨g2,o2,p,e,hg,_,hpi,hP⟩:=(HM.out.mk_ hb).at_ hlt;subst e;obtain ⟨d0,⟨bx,Ax,nx,cx,Dx,mx,ex,d1,d2,d3,_⟩,⟨by_,Ay,ny,cy,Dy,my,ey,d4,d5,d6,_⟩,_⟩:=hP;have htl:=aI p.name;have htn:=aI nm;have HPI:=Qh hpi;clear hpi;by_cases heq:p.name=nm
    ·have hf:rI bd.pts nm=some i:=nR (f:=aA.name) HT.out HPI.out heq
     have hW:=HW.out;rw [hf] at hW;simp only at hW;subst hW;rw [heq] at d0 htl;have hee:(nm == nm)=true:=by simp
     have g1:=dK G3 hb;have R1:=Qh (H3.out.belw hb);clear HPI heq hf;go_wp2_with fail;refine bodyPost_ret (v:=.tuple #[.int .i64 (ib:Nat),.int .i64 (i:Nat)]) (by simp [results,Tryz.results73,go_sem, *] <;> trivial) rfl ?_;exact ⟨rfl,R1.out.alloc _,aP g1 _⟩
    have hee:(p.name == nm)=false:=beq_eq_false_iff_ne.2 heq;have HT2:=Qh (j5 (p:=fun a:aA=>a.name≠nm) HT.out HPI.out heq);clear heq HT HPI;go_wp2_with fail;go_roundw
    case rel=>exact ⟨i+1,by go_num,by omega,HT2,hb.alloc hb.size _⟩
    case measure=>simp [intOf];omega
   have hj1:((i:Int) < (n':Int))=False:=by simp;omega
   obtain rfl:i=n':=by omega
   have hl:bd.pts.length=i:=HM.out.1;have hf:rI bd.pts nm=none:=l5 (f:=aA.name) fun a ha=>HT.out a (by rw [List.take_of_length_le (by omega)];exact ha)
   have hW:=HW.out;rw [hf] at hW;simp only at hW;have e2:s'.fail 5={ s' with x:=5 }:=if_pos HX.out;rw [e2] at hW;subst hW;have r1:=H3.out.belw hb;have g1:=dK G3 hb;have R1:=Qh r1;obtain ⟨D2,m2,d2,hbr,htr⟩:=r1.blk;have HBr:=Qh hbr;have HTr:=Qh htr;clear hbr htr r1 hf hl HT;go_wp2_with fail;(with_reducible refine (dk _ gr (.slice D2 m2 d2) c1 (.slice (some ⟨g,o,none⟩) n c) c3 c4 s'.x 5 HBr.out (by decide)).mono ?_);rintro e w5 ⟨rfl,hb2,g2⟩;rw [if_pos HX.out] at hb2;have R2:RdP B w5 gr c1 (.slice (some ⟨g,o,none⟩) n c) c3 c4 { s' with x:=5 }:=⟨⟨D2,m2,d2,hb2,HTr.out.rg R1.out.hB g2⟩,R1.out.mx.rg R1.out.hB g2,R1.out.hB,R1.out.len,R1.out.txt,R1.out.hw⟩;clear hb2;go_wp2_with fail;refine bodyPost_ret (v:=.tuple #[.int .i64 0,.int .i64 0]) (by simp [results,Tryz.results73,go_sem, *] <;> trivial) rfl ?_;exact ⟨rfl,R2,au g1 g2⟩
 rw [if_pos (by simpa using hx)] at hW;subst hW;rw [eVp hx] at a5;clear hx;go_wp2_with fail;refine bodyPost_ret (v:=.tuple #[.int .i64 0,.int .i64 0]) (by simp [results,Tryz.results73,go_sem, *] <;> trivial) rfl ?_;exact ⟨rfl,H3.out,G3⟩
def ww (ops:Array Oper) (fr:(Nat→Value)→Act) (R:Nat→Value→Prop) (T:Nat→(Nat→Value)→World→Prop) (st:Nat→Option Nat) (K:Nat) (L:Array Bool) (a:Act) (w:World):Prop :=
  ∃ x k,a=fr x∧k≤K∧T k x w∧(∀ i j,st i=some j→(L.getD i false=true ↔ j < k))∧(∀ i,L.getD i false=true→R i (x i)) ∧
  (∀ i o,ops[i]?=some o→L.getD i false=true→∀ e∈o.after,Region.binds .any e=true→L.getD e.on false=true)
section
variable (P:Program) (ops:Array Oper) (Q:Exit→Act→World→Prop) (fr:(Nat→Value)→Act) (R:Nat→Value→Prop) (T:Nat→(Nat→Value)→World→Prop)
def l7 (i:Nat) (o:Oper):Prop :=
  ∀ k x wq,T k x wq→(∀ e∈o.after,Region.binds .any e=true→R e.on (x e.on))→∀ K':Act→World→Prop,Shut (∀ v,R i v→K' ((fr x).put o.dst v) wq) →
      if Region.wanted o (yielded ops (fr x).tmps)=true then Oper.wp P o (fr x) wq K' Q else K' ((fr x).put o.dst undef) wq
def j6 (k:Nat) (i:Nat) (o:Oper):Prop :=
  ∀ x wq,T k x wq→(∀ e∈o.after,Region.binds .any e=true→R e.on (x e.on))→∀ K':Act→World→Prop,Shut (∀ v w',R i v→T (k+1) (upd x i v) w'→K' ((fr x).put o.dst v) w') →
      if Region.wanted o (yielded ops (fr x).tmps)=true then Oper.wp P o (fr x) wq K' Q else K' ((fr x).put o.dst undef) wq
end
section
variable {P:Program}{ops:Array Oper}{Q:Exit→Act→World→Prop}{fr:(Nat→Value)→Act}{R:Nat→Value→Prop}{T:Nat→(Nat→Value)→World→Prop}{st:Nat→Option Nat}{K:Nat}{id:Nat}{w:World}{x0:Nat→Value}
theorem gS {n:Nat}(hm:P.follows .mixedOrders=true) (hn:ops.size=n+1)
 (hput:∀ i o,ops[i]?=some o→i < n→∀ x v,(fr x).put o.dst v=fr (upd x i v))
 (hac:∀ i o,ops[i]?=some o→∀ e∈o.after,Region.binds .any e=true→e.on < i)
 (hreach:∀ j,j < n→∃ k o,j < k∧k≤n∧ops[k]?=some o∧∃ e∈o.after,Region.binds .any e=true∧e.on=j)
 (hst:∀ i j,st i=some j→i < n∧j < K)
 (hinj:∀ i i' j,st i=some j→st i'=some j→i=i')
 (hall:∀ j,j < K→∃ i,st i=some j)
 (hchain:∀ i o j,ops[i]?=some o→st i=some (j+1)→∃ e∈o.after,Region.binds .any e=true∧st e.on=some j)
 (hT:∀ k x i v w,st i=none→T k x w→T k (upd x i v) w)
 (h0:T 0 x0 w.drew)
 (hpure:∀ i o,ops[i]?=some o→i < n→st i=none→l7 P ops Q fr R T i o)
 (hstage:∀ i o k,ops[i]?=some o→st i=some k→j6 P ops Q fr R T k i o)
 (hlast:∀ o,ops[n]?=some o→∀ x wq,T K x wq→(∀ j,j < n→R j (x j))→∀ K':Act→World→Prop,Shut (∀ a' w',Q .normal a' w'→K' a' w') →
  if Region.wanted o (yielded ops (fr x).tmps)=true then Oper.wp P o (fr x) wq K' Q else K' ((fr x).put o.dst undef) wq) :
 (Code.region id ops true).wp P Q (fr x0) w:=by
 refine wp_region_any hm (oB (fun L a w'=>(L.getD n false=false∧ww ops fr R T st K L a w')∨((∀ i,i < ops.size→L.getD i false=true)∧Q .normal a w')) ?_ ?_ _ _ _ _ (by simp) ?_ ?_)
 ·rintro L a w1 i hs hi hcase
  obtain ⟨hun,o,ho,hall'⟩:=mem_ready.1 hi
  have hlt:i < L.size:=by
   rcases Nat.lt_or_ge i L.size with h | h
   ·exact h
   rw [Array.getD_eq_getD_getElem?,Array.getElem?_eq_none h] at hun;cases hun
  have hunf:L.getD i false=false:=by
   rw [Array.getD_eq_getD_getElem?,Array.getElem?_eq_getElem hlt] at hun ⊢;exact hun
  rcases hcase with ⟨hLn,x,k,rfl,hkK,hTk,hLk,hr,hcl⟩ | ⟨hdone,_⟩
  ·have hdep:∀ e∈o.after,Region.binds .any e=true→R e.on (x e.on):=fun e he hbd=>hr _ (hall' e he hbd)
   refine wpOp_step ho fun K' hK=>?_
   rcases Nat.lt_or_ge i n with hin | hin
   ·have hLn':(L.setIfInBounds i true).getD n false=false:=by
     rw [dC hlt,hLn];simp;omega
    have hr':∀ v,R i v→∀ j,(L.setIfInBounds i true).getD j false=true→R j (upd x i v j):=by
     intro v hv j hj;by_cases h:j=i
     ·subst h;rw [qq];exact hv
     rw [dt _ _ h];rw [dC hlt] at hj;exact hr j (by simpa [h] using hj)
    cases hsi:st i with
    | none =>
     refine hpure i o ho hin hsi k x w1 hTk hdep K' (fun v hRv=>hK _ _ (Or.inl ⟨hLn',upd x i v,k,hput i o ho hin x v,hkK,hT _ _ _ _ _ hsi hTk,fun i' j hj=>?_,hr' v hRv,lU hlt ho hall' hcl⟩));have hne:i'≠i:=by rintro rfl;rw [hsi] at hj;cases hj
     rw [dC hlt,← hLk i' j hj];simp [hne]
    | some j0 =>
     have hk:k=j0:=by
      have h1:¬ j0 < k:=fun h=>by
       have:=(hLk i j0 hsi).2 h;rw [hunf] at this;cases this
      cases j0 with
      | zero=>omega
      | succ j =>
       obtain ⟨e,he,hbd,hse⟩:=hchain i o j ho hsi;have:=(hLk e.on j hse).1 (hall' e he hbd);omega
     subst hk;refine hstage i o k ho hsi x w1 hTk hdep K' (fun v w' hRv hTv=>hK _ _ (Or.inl ⟨hLn',upd x i v,k+1,hput i o ho hin x v,(hst i k hsi).2,hTv,fun i' j hj=>?_,hr' v hRv,lU hlt ho hall' hcl⟩));rw [dC hlt];by_cases h:i'=i
     ·subst h
      rw [hsi] at hj;injection hj with hj;subst hj;simp
     have hjk:j≠k:=fun e=>h (hinj _ _ _ hj (by rw [e];exact hsi))
     rw [show (decide (i'=i) || L.getD i' false)=L.getD i' false by simp [h],hLk i' j hj];omega
   have e:i=n:=by omega
   subst e
   have hallj:∀ m j,j < i→i - j≤m→L.getD j false=true:=by
    intro m
    induction m with
    | zero=>intro j hj hm;omega
    | succ m ih =>
     intro j hj hm;obtain ⟨k,o',hjk,hk,ho',e,he,hbd,hea⟩:=hreach j hj;rcases Nat.lt_or_ge k i with h | h
     ·rw [← hea];exact hcl k o' ho' (ih k h (by omega)) e he hbd
     have e2:k=i:=by omega
     subst e2;rw [ho] at ho';injection ho' with ho';subst ho';rw [← hea];exact hall' e he hbd
   have hkk:k=K:=by
    rcases Nat.lt_or_ge k K with h | h
    ·obtain ⟨i',hi'⟩:=hall k h
     have:=(hLk i' k hi').1 (hallj (i - i') i' (hst i' k hi').1 Qr);omega
    omega
   subst hkk;refine hlast o ho x w1 hTk (fun j hj=>hr j (hallj (i - j) j hj Qr)) K' (fun a' w' hq=>hK _ _ (Or.inr ⟨fun j hj=>?_,hq⟩));rw [dC hlt];by_cases h:j=i
   ·simp [h]
   rw [hallj (i - j) j (by omega) Qr];simp
  have:=hdone i (by omega);rw [hunf] at this;cases this
 ·rintro L a w1 hs hr0 (⟨hLn,x,k,rfl,hkK,hTk,hLk,hr,hcl⟩ | ⟨_,hq⟩)
  ·have hallL:∀ i,i < ops.size→L.getD i false=true:=by
    intro i
    induction i using Nat.strongRecOn with
    | ind i ih =>
     intro hi;cases h:L.getD i false
     ·exfalso
      have:i∈Region.ready .any ops L:=by
       refine mem_ready.2 ⟨?_,ops[i],Array.getElem?_eq_getElem hi,fun e he hbd=>?_⟩
       ·rw [Array.getD_eq_getD_getElem?,Array.getElem?_eq_getElem (by omega)] at h ⊢;exact h
       have h1:=hac i _ (Array.getElem?_eq_getElem hi) e he hbd;exact ih e.on h1 (by omega)
      rw [hr0] at this;cases this
     rfl
   have:=hallL n (by omega);rw [hLn] at this;cases this
  exact hq
 ·simp
 ·have hz:∀ j,(Array.replicate ops.size false).getD j false=false:=by
   intro j;rw [Array.getD_eq_getD_getElem?,Array.getElem?_replicate];split <;> rfl
  refine Or.inl ⟨hz n,x0,0,rfl,Nat.zero_le _,h0,fun i j hj=>?_,fun i h=>?_,fun i o _ h=>?_⟩
  ·rw [hz];simp
  ·rw [hz] at h;cases h
  rw [hz] at h;cases h
end
def stg (a K i:Nat):Option Nat:=if a≤i∧i < a+K then some (i - a) else none
theorem eG {a K i j:Nat}(h:stg a K i=some j):i=a+j∧j < K:=by
 unfold stg at h;split at h
 ·injection h with h;omega
 cases h
theorem rQ {a K j:Nat}(h:j < K):stg a K (a+j)=some j:=by
 unfold stg;rw [if_pos (by omega)];congr 1;omega
theorem l8 {a K i:Nat}(h:stg a K i=none):i < a∨a+K≤i:=by
 unfold stg at h;split at h
 ·cases h
 omega
section
variable {P:Program}{ops:Array Oper}{Q:Exit→Act→World→Prop}{fr:(Nat→Value)→Act}{R:Nat→Value→Prop}{T:Nat→(Nat→Value)→World→Prop}{K a:Nat}{id:Nat}{w:World}{x0:Nat→Value}
theorem cH {n:Nat}(hm:P.follows .mixedOrders=true) (hn:ops.size=n+1)
 (hput:∀ i o,ops[i]?=some o→i < n→∀ x v,(fr x).put o.dst v=fr (upd x i v))
 (hac:∀ i o,ops[i]?=some o→∀ e∈o.after,Region.binds .any e=true→e.on < i)
 (hreach:∀ j,j < n→∃ k o,j < k∧k≤n∧ops[k]?=some o∧∃ e∈o.after,Region.binds .any e=true∧e.on=j)
 (haK:a+K≤n)
 (hchain:∀ j o,j+1 < K→ops[a+(j+1)]?=some o→∃ e∈o.after,Region.binds .any e=true∧e.on=a+j)
 (hT:∀ k x i v w,i < a∨a+K≤i→T k x w→T k (upd x i v) w)
 (h0:T 0 x0 w.drew)
 (hpure:∀ i o,ops[i]?=some o→i < n→i < a∨a+K≤i→l7 P ops Q fr R T i o)
 (hstage:∀ k o,k < K→ops[a+k]?=some o→j6 P ops Q fr R T k (a+k) o)
 (hlast:∀ o,ops[n]?=some o→∀ x wq,T K x wq→(∀ j,j < n→R j (x j))→∀ K':Act→World→Prop,Shut (∀ a' w',Q .normal a' w'→K' a' w') →
  if Region.wanted o (yielded ops (fr x).tmps)=true then Oper.wp P o (fr x) wq K' Q else K' ((fr x).put o.dst undef) wq) :
 (Code.region id ops true).wp P Q (fr x0) w :=
 gS (R:=R) (T:=T) (st:=stg a K) (K:=K) hm hn hput hac hreach
  (fun i j h=>by obtain ⟨h1,h2⟩:=eG h;omega)
  (fun i i' j h h'=>by obtain ⟨h1,_⟩:=eG h;obtain ⟨h2,_⟩:=eG h';omega)
  (fun j h=>⟨a+j,rQ h⟩)
  (fun i o j ho h=>by
   obtain ⟨rfl,h2⟩:=eG h;obtain ⟨e,he,hb,hon⟩:=hchain j o h2 ho
   exact ⟨e,he,hb,by rw [hon];exact rQ (by omega)⟩)
  (fun k x i v w h=>hT k x i v w (l8 h)) h0
  (fun i o ho hi h=>hpure i o ho hi (l8 h))
  (fun i o k ho h=>by obtain ⟨rfl,h2⟩:=eG h;exact hstage k o h2 ho) hlast
end
section
variable {P:Program}{ops:Array Oper}{Q:Exit→Act→World→Prop}{fr:(Nat→Value)→Act}{R:Nat→Value→Prop}{T:Nat→(Nat→Value)→World→Prop}{id:Nat}{w:World}{x0:Nat→Value}
end
def VE (u:Value):Value→Prop:=fun v=>v=u
def VA:Value→Prop:=fun _=>True
structure RdL (B:Nat) (w:World) (gr:Nat) (s:PS) (A:Option Addr) (n c:Nat) (A':Option Addr) (n' c':Nat) (A'':Option Addr) (n'' c'':Nat):Prop where
  rd:RdP B w gr (af s.L.name) (.slice A n c) (.slice A' n' c') (.slice A'' n'' c'') s
  bd:aO 62 (BdC 130) 2 w B (.slice A n c) n s.L.bodies
  jt:aO 79 JtC 7 w B (.slice A' n' c') n' s.L.joints
  dr:aO 81 DrC 2 w B (.slice A'' n'' c'') n'' s.L.drivers
  nm:NmL s.L.name
  cnt:n+n'+n''+s.toks.length≤70000
  pts:∀ b∈s.L.bodies,b.pts.length≤70000
def j7 (B:Nat) (w:World) (gr:Nat) (s:PS) (e:Ending) (w':World):Prop:=e=.returned (.tuple #[])∧(∃ A n c A' n' c' A'' n'' c'',RdL B w' gr s A n c A' n' c' A'' n'' c'')∧Below B w w'
section
variable {B:Nat}{w w':World}{gr:Nat}{c1 c2 c3 c4:Value}{s:PS}
theorem RdP.other {T:TypeId→Bool}(h:RdP B w gr c1 c2 c3 c4 s) (ht:Tch T w w') (hT:T 87=false) (hb:Below B w w'):RdP B w' gr c1 c2 c3 c4 s:=by
 obtain ⟨A,n,c,h1,h2⟩:=h.blk;exact ⟨⟨A,n,c,ht.2 gr _ _ _ h1 (.inl hT),h2.belB hb⟩,h.mx.belB hb,h.hB,h.len,h.txt,h.hw⟩
theorem RdP.put2 (h:RdP B w gr c1 c2 c3 c4 s) (v:Value) (hv:noW v=true) {s2:PS}(e1:s2.toks=s.toks) (e2:s2.x=s.x):RdP B (w.setCell ⟨gr,2,none⟩ v) gr c1 v c3 c4 s2:=by
 obtain ⟨A,n,c,h1,h2⟩:=h.blk;have hb:Below B w (w.setCell ⟨gr,2,none⟩ v):=(Below.refl B w).setCell (p:=⟨gr,2,none⟩) h.hB v;exact ⟨⟨A,n,c,by rw [e2];exact h1.s62 v,by rw [e1];exact h2.belB hb⟩,h.mx.belB hb,h.hB,by rw [e1];exact h.len,by rw [e1];exact h.txt,h.hw.1,hv,h.hw.2.2⟩
theorem RdP.put3 (h:RdP B w gr c1 c2 c3 c4 s) (v:Value) (hv:noW v=true) {s2:PS}(e1:s2.toks=s.toks) (e2:s2.x=s.x):RdP B (w.setCell ⟨gr,3,none⟩ v) gr c1 c2 v c4 s2:=by
 obtain ⟨A,n,c,h1,h2⟩:=h.blk;have hb:Below B w (w.setCell ⟨gr,3,none⟩ v):=(Below.refl B w).setCell (p:=⟨gr,3,none⟩) h.hB v;exact ⟨⟨A,n,c,by rw [e2];exact h1.s63 v,by rw [e1];exact h2.belB hb⟩,h.mx.belB hb,h.hB,by rw [e1];exact h.len,by rw [e1];exact h.txt,h.hw.1,h.hw.2.1,hv,h.hw.2.2.2⟩
theorem RdP.put4 (h:RdP B w gr c1 c2 c3 c4 s) (v:Value) (hv:noW v=true) {s2:PS}(e1:s2.toks=s.toks) (e2:s2.x=s.x):RdP B (w.setCell ⟨gr,4,none⟩ v) gr c1 c2 c3 v s2:=by
 obtain ⟨A,n,c,h1,h2⟩:=h.blk;have hb:Below B w (w.setCell ⟨gr,4,none⟩ v):=(Below.refl B w).setCell (p:=⟨gr,4,none⟩) h.hB v;exact ⟨⟨A,n,c,by rw [e2];exact h1.s64 v,by rw [e1];exact h2.belB hb⟩,h.mx.belB hb,h.hB,by rw [e1];exact h.len,by rw [e1];exact h.txt,h.hw.1,h.hw.2.1,h.hw.2.2.1,hv⟩
theorem RdP.put1 (h:RdP B w gr c1 c2 c3 c4 s) (v:Value) (hv:noW v=true) {s2:PS}(e1:s2.toks=s.toks) (e2:s2.x=s.x):RdP B (w.setCell ⟨gr,1,none⟩ v) gr v c2 c3 c4 s2:=by
 obtain ⟨A,n,c,h1,h2⟩:=h.blk;have hb:Below B w (w.setCell ⟨gr,1,none⟩ v):=(Below.refl B w).setCell (p:=⟨gr,1,none⟩) h.hB v;exact ⟨⟨A,n,c,by rw [e2];exact h1.s61 v,by rw [e1];exact h2.belB hb⟩,h.mx.belB hb,h.hB,by rw [e1];exact h.len,by rw [e1];exact h.txt,hv,h.hw.2⟩
theorem RdP.drew (h:RdP B w gr c1 c2 c3 c4 s):RdP B w.drew gr c1 c2 c3 c4 s:=⟨h.blk,h.mx,h.hB,h.len,h.txt,h.hw⟩
theorem RdP.cells (h:RdP B w gr c1 c2 c3 c4 s):w.cell? ⟨gr,1,none⟩=some c1∧w.cell? ⟨gr,2,none⟩=some c2∧w.cell? ⟨gr,3,none⟩=some c3∧w.cell? ⟨gr,4,none⟩=some c4∧w.frozen? ⟨gr,1,none⟩=false∧w.frozen? ⟨gr,2,none⟩=false∧w.frozen? ⟨gr,3,none⟩=false∧w.frozen? ⟨gr,4,none⟩=false:=by
 obtain ⟨A,n,c,hb,_⟩:=h.blk;obtain ⟨_,a1,a2,a3,a4,_⟩:=hb.c6;exact ⟨a1,a2,a3,a4,hb.frozen 1,hb.frozen 2,hb.frozen 3,hb.frozen 4⟩
def dZ (t:TypeId):TypeId→Bool:=fun u=>u == t
theorem RdP.tchR (h:RdP B w gr c1 c2 c3 c4 s) (k:w.grownBy w' (some gr)):Tch (dZ 87) w w':=h.tch k (by simp [dZ])
end
theorem gh {α:Type}{T0:TypeId}{Pc:World→List Value→α→Prop}{sz B n:Nat}{w w5:World}{v v5:Value}{l:List α}{xs cs:List Value}{a:α}{o:Obj}(hl:l.length=n) (hown:OwJ noW w B T0 sz v n xs) (hrow:eZ Pc sz w l xs)
 (hm:Pc w cs a) (hcs:cs.length=sz) (hown5:OwJ noW w5 B T0 sz v5 (n+1) (xs ++ cs)) (hgrow:(w.alloc o).grownBy w5 v.ownBlock) (hB:B≤w.heap.size) (hPc:∀ w' cs a,Tch (dZ T0) w w'→Pc w cs a→Pc w' cs a) :
 aO T0 Pc sz w5 B v5 (n+1) (l ++ [a])∧Tch (dZ T0) w w5∧Below B w w5:=by
 have hownA:OwJ noW (w.alloc o) B T0 sz v n xs:=hown.belw ((Below.refl _ _).alloc Qr o);have ht:Tch (dZ T0) w w5:=(Tch.below ((Below.refl _ _).alloc Qr o)).trans (Tch.grown (fun _ hu=>hu) (by simp [dZ]) hownA hgrow);exact ⟨⟨by simp [hl],xs ++ cs,hown5,(hrow.map_ fun cs a x=>hPc _ _ _ ht x).snoc (hPc _ _ _ ht hm) hcs⟩,ht,((Below.refl B w).alloc hB o).grown hgrow (by simp;omega) (fun k hk=>(hown.at_ hk).1)⟩
def uD (B gr:Nat) (w:World) (c1 c2 c3 c4:Value) (s:PS) (b:aq) (v:Value) (wq:World):Prop :=
  ∃ A n c,v=.agg #[af b.name,.slice A n c]∧jk 130 wq A n c b.pts∧NmL b.name∧RdP B wq gr c1 c2 c3 c4 s∧w.grownBy wq (some gr)
def TB (B gr:Nat) (w:World) (c1 c2 c3 c4:Value) (s:PS) (b:aq) (n:Nat) (l:List aq):Nat→Value→Value→Value→World→Prop
  | 0,_,_,_,wq=>wq=w.drew
  | 1,v7,_,_,wq=>uD B gr w c1 c2 c3 c4 s b v7 wq
  | 2,_,v8,_,wq=>∃ w2 A n' c',uD B gr w c1 c2 c3 c4 s b (.agg #[af b.name,.slice A n' c']) w2∧v8=.slice (some ⟨w2.heap.size,0,none⟩) 1 1∧wq=w2.alloc (.cells #[af b.name,.slice A n' c'] 62)
  | 3,_,_,v9,wq=>∃ w2 v A5 c5,uD B gr w c1 c2 c3 c4 s b v w2∧v9=.slice A5 (n+1) c5∧aO 62 (BdC 130) 2 wq B v9 (n+1) (l ++ [b])∧Tch (dZ 62) w2 wq∧Below B w2 wq
  | _,_,_,_,_=>False
theorem TB.rd {B gr:Nat}{w:World}{c1 c2 c3 c4:Value}{s0 s:PS}{b:aq}{n:Nat}{l:List aq}(h0:RdP B w gr c1 c2 c3 c4 s0):∀ {k:Nat}{v7 v8 v9:Value}{wq:World},TB B gr w c1 c2 c3 c4 s b n l k v7 v8 v9 wq→∃ s',RdP B wq gr c1 c2 c3 c4 s'
 | 0,_,_,_,_,h=>by
  have h:_=_:=h;rw [h];exact ⟨s0,⟨h0.blk,h0.mx,h0.hB,h0.len,h0.txt,h0.hw⟩⟩
 | 1,_,_,_,_,⟨_,_,_,_,_,_,h,_⟩=>⟨s,h⟩
 | 2,_,_,_,_,⟨w2,_,_,_,⟨_,_,_,_,_,_,h,_⟩,_,e⟩=>⟨s,by rw [e];exact h.alloc _⟩
 | 3,_,_,_,_,⟨w2,_,_,_,⟨_,_,_,_,_,_,h,_⟩,_,_,ht,hb⟩=>⟨s,h.other ht (by decide) hb⟩
 | _+4,_,_,_,_,h=>False.elim h
def TJ_ {α:Type}(T0:TypeId) (Pc:World→List Value→α→Prop) (sz:Nat) (B gj:Nat) (w:World) (cs:List Value) (a:α) (n:Nat) (l:List α):Nat→Value→Value→World→Prop
  | 0,_,_,wq=>wq=w.drew
  | 1,v7,_,wq=>v7=.slice (some ⟨w.heap.size,0,none⟩) 1 1∧wq=w.drew.alloc (.cells cs.toArray T0)
  | 2,_,v8,wq=>∃ A5 c5,v8=.slice A5 (n+1) c5∧aO T0 Pc sz wq B v8 (n+1) (l ++ [a])∧Blk wq gj T0 cs.toArray∧Tch (dZ T0) w wq∧Below B w wq
  | _,_,_,_=>False
theorem TJ_.rd {α:Type}{T0:TypeId}{Pc:World→List Value→α→Prop}{sz B gj gr n:Nat}{w:World}{cs:List Value}{a:α}{l:List α}{c1 c2 c3 c4:Value}{s:PS}(hT:dZ T0 87=false) (h0:RdP B w gr c1 c2 c3 c4 s):∀ {k:Nat}{v7 v8:Value}{wq:World},TJ_ T0 Pc sz B gj w cs a n l k v7 v8 wq→RdP B wq gr c1 c2 c3 c4 s
 | 0,_,_,_,h=>by
  have h:_=_:=h;rw [h];exact ⟨h0.blk,h0.mx,h0.hB,h0.len,h0.txt,h0.hw⟩
 | 1,_,_,_,⟨_,e⟩=>by
  rw [e];exact h0.drew.alloc _
 | 2,_,_,_,⟨_,_,_,_,_,ht,hb⟩=>h0.other ht hT hb
 | _+3,_,_,_,h=>False.elim h
theorem TJ_.blk {α:Type}{T0:TypeId}{Pc:World→List Value→α→Prop}{sz B gj n:Nat}{w:World}{cs:List Value}{a:α}{l:List α}(hb:Blk w gj T0 cs.toArray):∀ {k:Nat}{v7 v8:Value}{wq:World},TJ_ T0 Pc sz B gj w cs a n l k v7 v8 wq→Blk wq gj T0 cs.toArray
 | 0,_,_,_,h=>by
  have h:_=_:=h;rw [h];exact hb.drew
 | 1,_,_,_,⟨_,e⟩=>by rw [e];exact hb.drew.alloc _
 | 2,_,_,_,⟨_,_,_,_,h,_⟩=>h
 | _+3,_,_,_,h=>False.elim h
abbrev fr4 (u0 u1 u2 u3 u4 u5 u6 u7 u8 u9 u10 u11 u12 u26 u27 u28 u29 u30 u31 u32 u33 u34 u35 u36 u37 u38 u39 u40 u41 u42 u43 u44 u45 u46 u47 u48 u49 u50 u51 u52 u53 u54 u55 u56 u57 u58 u59 u60 u61 u62 u63 u64 u65 u66 u67 u68 u69 u70 u71 u72 u73 u74 u75 u76 u77 u78 u79 u80 u81 u82 u83 u84 u85 u86 u87 u88 u89 u90 u91 u92:Value) (xf:Nat→Value):Act:=⟨List.toArray (u0 :: u1 :: u2 :: u3 :: u4 :: u5 :: u6 :: u7 :: u8 :: u9 :: u10 :: u11 :: u12 :: xf 0 :: xf 1 :: xf 2 :: xf 3 :: xf 4 :: xf 5 :: xf 6 :: xf 7 :: xf 8 :: xf 9 :: xf 10 :: xf 11 :: xf 12 :: u26 :: u27 :: u28 :: u29 :: u30 :: u31 :: u32 :: u33 :: u34 :: u35 :: u36 :: u37 :: u38 :: u39 :: u40 :: u41 :: u42 :: u43 :: u44 :: u45 :: u46 :: u47 :: u48 :: u49 :: u50 :: u51 :: u52 :: u53 :: u54 :: u55 :: u56 :: u57 :: u58 :: u59 :: u60 :: u61 :: u62 :: u63 :: u64 :: u65 :: u66 :: u67 :: u68 :: u69 :: u70 :: u71 :: u72 :: u73 :: u74 :: u75 :: u76 :: u77 :: u78 :: u79 :: u80 :: u81 :: u82 :: u83 :: u84 :: u85 :: u86 :: u87 :: u88 :: u89 :: u90 :: u91 :: u92 :: []),[]⟩
abbrev bt (u0 u1 u2 u3 u4 u5 u6 u7 u8 u9 u10 u11 u12 u13 u14 u15 u16 u17 u18 u19 u20 u21 u22 u23 u24 u25 u26 u27 u28 u29 u30 u31 u32 u33 u34 u35 u36 u37 u38 u39 u40 u41 u42 u43 u44 u45 u46 u47 u48 u49 u50 u51 u52 u53 u54 u55 u56 u57 u58 u71 u72 u73 u74 u75 u76 u77 u78 u79 u80 u81 u82 u83 u84 u85 u86 u87 u88 u89 u90 u91 u92:Value) (xf:Nat→Value):Act:=⟨List.toArray (u0 :: u1 :: u2 :: u3 :: u4 :: u5 :: u6 :: u7 :: u8 :: u9 :: u10 :: u11 :: u12 :: u13 :: u14 :: u15 :: u16 :: u17 :: u18 :: u19 :: u20 :: u21 :: u22 :: u23 :: u24 :: u25 :: u26 :: u27 :: u28 :: u29 :: u30 :: u31 :: u32 :: u33 :: u34 :: u35 :: u36 :: u37 :: u38 :: u39 :: u40 :: u41 :: u42 :: u43 :: u44 :: u45 :: u46 :: u47 :: u48 :: u49 :: u50 :: u51 :: u52 :: u53 :: u54 :: u55 :: u56 :: u57 :: u58 :: xf 0 :: xf 1 :: xf 2 :: xf 3 :: xf 4 :: xf 5 :: xf 6 :: xf 7 :: xf 8 :: xf 9 :: xf 10 :: xf 11 :: u71 :: u72 :: u73 :: u74 :: u75 :: u76 :: u77 :: u78 :: u79 :: u80 :: u81 :: u82 :: u83 :: u84 :: u85 :: u86 :: u87 :: u88 :: u89 :: u90 :: u91 :: u92 :: []),[]⟩
abbrev dy (u0 u1 u2 u3 u4 u5 u6 u7 u8 u9 u10 u11 u12 u13 u14 u15 u16 u17 u18 u19 u20 u21 u22 u23 u24 u25 u26 u27 u28 u29 u30 u31 u32 u33 u34 u35 u36 u37 u38 u39 u40 u41 u42 u43 u44 u45 u46 u47 u48 u49 u50 u51 u52 u53 u54 u55 u56 u57 u58 u59 u60 u61 u62 u63 u64 u65 u66 u67 u68 u69 u70 u71 u72 u73 u74 u75 u76 u77 u78 u79 u80:Value) (xf:Nat→Value):Act:=⟨List.toArray (u0 :: u1 :: u2 :: u3 :: u4 :: u5 :: u6 :: u7 :: u8 :: u9 :: u10 :: u11 :: u12 :: u13 :: u14 :: u15 :: u16 :: u17 :: u18 :: u19 :: u20 :: u21 :: u22 :: u23 :: u24 :: u25 :: u26 :: u27 :: u28 :: u29 :: u30 :: u31 :: u32 :: u33 :: u34 :: u35 :: u36 :: u37 :: u38 :: u39 :: u40 :: u41 :: u42 :: u43 :: u44 :: u45 :: u46 :: u47 :: u48 :: u49 :: u50 :: u51 :: u52 :: u53 :: u54 :: u55 :: u56 :: u57 :: u58 :: u59 :: u60 :: u61 :: u62 :: u63 :: u64 :: u65 :: u66 :: u67 :: u68 :: u69 :: u70 :: u71 :: u72 :: u73 :: u74 :: u75 :: u76 :: u77 :: u78 :: u79 :: u80 :: xf 0 :: xf 1 :: xf 2 :: xf 3 :: xf 4 :: xf 5 :: xf 6 :: xf 7 :: xf 8 :: xf 9 :: xf 10 :: xf 11 :: []),[]⟩
theorem m7 {α:Type}{T0:TypeId}{Pc:World→List Value→α→Prop}{sz base n g:Nat}{w:World}{v:Value}{l:List α}(h:aO T0 Pc sz w base v n l) (hg:w.heap.size≤g):some g≠v.ownBlock:=by
 intro e;obtain ⟨_,xs,hown,_⟩:=h;obtain ⟨_,cur,h2,_⟩:=hown.at_ e.symm;have:=lt_of_block h2;omega
theorem cM {B g:Nat}(w:World) (hB:B≤g) (i j:Nat) (u0 u1:Value):Below B w ((w.setCell ⟨g,i,none⟩ u0).setCell ⟨g,j,none⟩ u1) :=
 ((Below.refl B w).setCell (p:=⟨g,i,none⟩) hB u0).setCell (p:=⟨g,j,none⟩) hB u1
theorem kL (B:Nat) (w:World) (gr:Nat) (s:PS) (A:Option Addr) (n c:Nat) (A':Option Addr) (n' c':Nat) (A'':Option Addr) (n'' c'':Nat) (h:RdL B w gr s A n c A' n' c' A'' n'' c'') (hw1:s.word.1=nK):Calls Tryz.prog 41 #[.pointer (some ⟨gr,0,none⟩)] w (j7 B w gr s.item):=by
 have HW1:=Qh hw1;have hb0:(s.word.1 == [98,111,100,121])=true:=by rw [hw1];decide
 clear hw1;obtain ⟨i0,hi0,hz0,hz1,hz2⟩:=info_parts fY;obtain ⟨ij,hj0,hj1,hj2,hj3⟩:=info_parts f9;obtain ⟨id,hd0,hd1,hd2,hd3⟩:=info_parts gc;have HI:=Qh (And.intro hi0 (And.intro hz0 (And.intro hz1 hz2)));have HIJ:=Qh (And.intro hj0 (And.intro hj1 (And.intro hj2 hj3)));have HID:=Qh (And.intro hd0 (And.intro hd1 (And.intro hd2 hd3)));clear hi0 hz0 hz1 hz2 hj0 hj1 hj2 hj3 hd0 hd1 hd2 hd3;have HL1:=Qh (ap s).2.2.2;have HL2:=Qh ((ap s).trans (ap s.word.2)).2.2.2;have HP:=Qh h;obtain ⟨W,hW⟩:∃ W,s.item=W:=⟨_,rfl⟩;rw [hW];have HW:=Qh hW;clear h hW;go_in;go_wp2_with fail;(with_reducible refine (bK B _ gr (af s.L.name) (.slice A n c) (.slice A' n' c') (.slice A'' n'' c'') s HP.out.rd).mono ?_);rintro e w1 ⟨rfl,h1,hg1⟩;have H1:=Qh h1;have hgl:=h1.lt;have BW1:=Qh (dc hg1 (B:=B) (by have:=HP.out.rd.lt;have:=HP.out.rd.hB;omega) HP.out.rd.hB);have t0:=HP.out.rd.tchR hg1;have BD1:=Qh (HP.out.bd.tch t0 (by decide) (fun _ _ x=>x.tch t0 (by decide)));have JT1:=Qh (HP.out.jt.tch t0 (by decide) (fun _ _ x=>x));have DR1:=Qh (HP.out.dr.tch t0 (by decide) (fun _ _ x=>x));obtain ⟨Ak,nk,ck,hbk,_⟩:=h1.blk;have HBk:=Qh hbk;clear h1 hg1 t0 hbk;have hn:=aI s.word.1;go_wp2_with fail;change Code.wp _ _ _ (fr4 _ _ _ _ _ _ _ _ _ _ _ _ _ _ _ _ _ _ _ _ _ _ _ _ _ _ _ _ _ _ _ _ _ _ _ _ _ _ _ _ _ _ _ _ _ _ _ _ _ _ _ _ _ _ _ _ _ _ _ _ _ _ _ _ _ _ _ _ _ _ _ _ _ _ _ _ _ _ _ _ (fun _=>undef)) _;refine cH (n:=13) (a:=7) (K:=3) (x0:=fun _=>undef) (R:=fun ri=>List.getD ((VE (.pointer (some ⟨gr,0,none⟩))) :: (VE (.pointer (some ⟨gr,0,none⟩))) :: (VE (.pointer (some ⟨gr,0,none⟩))) :: (VE (.pointer (some ⟨gr,1,none⟩))) :: (VE (.pointer (some ⟨gr,2,none⟩))) :: (VE (.slice A n c)) :: (VE (.pointer (some ⟨gr,0,none⟩))) :: VA :: VA :: VA :: (VE (.pointer (some ⟨gr,0,none⟩))) :: (VE (.pointer (some ⟨gr,1,none⟩))) :: (VE (.pointer (some ⟨gr,2,none⟩))) :: []) ri VA) (T:=fun k x wq=>TB B gr w1 (af s.L.name) (.slice A n c) (.slice A' n' c') (.slice A'' n'' c'') s.word.2.body.2 s.word.2.body.1 n s.L.bodies k (x 7) (x 8) (x 9) wq) (by kernel_rfl) rfl ?_ ?_ ?_ (by decide) ?_ ?_ rfl ?_ ?_ ?_
 ·exact bV ⟨(fun _ _ _=>rfl),(fun _ _ _=>rfl),(fun _ _ _=>rfl),(fun _ _ _=>rfl),(fun _ _ _=>rfl),(fun _ _ _=>rfl),(fun _ _ _=>rfl),(fun _ _ _=>rfl),(fun _ _ _=>rfl),(fun _ _ _=>rfl),(fun _ _ _=>rfl),(fun _ _ _=>rfl),(fun _ _ _=>rfl),(fun h=>absurd h (by decide)),trivial⟩
 ·exact bV (eL _ 0 (by kernel_rfl))
 ·exact (fun j hj=>fR (by kernel_rfl) hj)
 ·intro j o hj ho
  obtain rfl | rfl:j=0∨j=1:=by omega
  ·injection ho with ho
   subst ho;exact ⟨⟨7,.data⟩,by simp,rfl,rfl⟩
  injection ho with ho;subst ho;exact ⟨⟨8,.data⟩,by simp,rfl,rfl⟩
 ·intro k x i v w hi h
  have e7:upd x i v 7=x 7:=dt _ _ (by omega);have e8:upd x i v 8=x 8:=dt _ _ (by omega);have e9:upd x i v 9=x 9:=dt _ _ (by omega);simp only [e7,e8,e9];exact h
 ·refine bV ⟨?_,?_,?_,?_,?_,?_,?_,(fun _ h=>absurd h (by decide)),(fun _ h=>absurd h (by decide)),(fun _ h=>absurd h (by decide)),?_,?_,?_,(fun h=>absurd h (by decide)),trivial⟩
  ·intro _ _ k xf wq hT hd K hK
   (try dsimp only [fr4]);go_simp;have hz:=hK.out _ rfl;exact hz
  ·intro _ _ k xf wq hT hd K hK
   (try dsimp only [fr4]);go_simp;have hz:=hK.out _ rfl;exact hz
  ·intro _ _ k xf wq hT hd K hK
   have dq1:xf 1=.pointer (some ⟨gr,0,none⟩):=hd ⟨1,.data⟩ (by simp) rfl;(try dsimp only [fr4]);(try simp only [dq1]);go_simp;have hz:=hK.out _ rfl;dsimp only [fr4] at hz;simp only [dq1] at hz;exact hz
  ·intro _ _ k xf wq hT hd K hK
   have dq2:xf 2=.pointer (some ⟨gr,0,none⟩):=hd ⟨2,.data⟩ (by simp) rfl;(try dsimp only [fr4]);(try simp only [dq2]);go_simp;have hz:=hK.out _ rfl;dsimp only [fr4] at hz;simp only [dq2] at hz;exact hz
  ·intro _ _ k xf wq hT hd K hK
   have dq3:xf 3=.pointer (some ⟨gr,1,none⟩):=hd ⟨3,.data⟩ (by simp) rfl;(try dsimp only [fr4]);(try simp only [dq3]);go_simp;have hz:=hK.out _ rfl;dsimp only [fr4] at hz;simp only [dq3] at hz;exact hz
  ·intro _ _ k xf wq hT hd K hK
   have dq4:xf 4=.pointer (some ⟨gr,2,none⟩):=hd ⟨4,.data⟩ (by simp) rfl;obtain ⟨sz,hRz⟩:=TB.rd H1.out hT;obtain ⟨_,hc2,_⟩:=hRz.cells;(try dsimp only [fr4]);(try simp only [dq4]);go_simp;have hz:=hK.out _ rfl;dsimp only [fr4] at hz;simp only [dq4] at hz;exact hz
  ·intro _ _ k xf wq hT hd K hK
   (try dsimp only [fr4]);go_simp;have hz:=hK.out _ rfl;exact hz
  ·intro _ _ k xf wq hT hd K hK
   have dq0:xf 0=.pointer (some ⟨gr,0,none⟩):=hd ⟨0,.data⟩ (by simp) rfl;(try dsimp only [fr4]);(try simp only [dq0]);go_simp;have hz:=hK.out _ rfl;dsimp only [fr4] at hz;simp only [dq0] at hz;exact hz
  ·intro _ _ k xf wq hT hd K hK
   have dq10:xf 10=.pointer (some ⟨gr,0,none⟩):=hd ⟨10,.data⟩ (by simp) rfl;(try dsimp only [fr4]);(try simp only [dq10]);go_simp;have hz:=hK.out _ rfl;dsimp only [fr4] at hz;simp only [dq10] at hz;exact hz
  intro _ _ k xf wq hT hd K hK;have dq11:xf 11=.pointer (some ⟨gr,1,none⟩):=hd ⟨11,.data⟩ (by simp) rfl;(try dsimp only [fr4]);(try simp only [dq11]);go_simp;have hz:=hK.out _ rfl;dsimp only [fr4] at hz;simp only [dq11] at hz;exact hz
 ·intro k o hk ho
  obtain rfl | rfl | rfl:=(show k=0∨k=1∨k=2 by omega)
  ·injection ho with ho
   subst ho;intro xf wq hT hd K hK;have dq6:xf 6=.pointer (some ⟨gr,0,none⟩):=hd ⟨6,.data⟩ (by simp) rfl;have hT:wq=w1.drew:=hT;subst hT;(try dsimp only [fr4]);(try simp only [dq6]);go_simp;go_at_call 72;(with_reducible refine (tp B _ gr (af s.L.name) (.slice A n c) (.slice A' n' c') (.slice A'' n'' c'') s.word.2 H1.out.drew).mono ?_);rintro e wr ⟨A3,n3,c3,rfl,hm,hnm,hr,hg⟩;have hz:=hK.out _ _ trivial ⟨A3,n3,c3,rfl,hm,hnm,hr,au (tj (rg_refl gr w1)) hg⟩;dsimp only [fr4] at hz;simp only [dq6] at hz;exact hz
  ·injection ho with ho
   subst ho;intro xf wq hT hd K hK;obtain ⟨A3,n3,c3,e7,hm,hnm,hr,hg⟩:TB B gr w1 (af s.L.name) (.slice A n c) (.slice A' n' c') (.slice A'' n'' c'') s.word.2.body.2 s.word.2.body.1 n s.L.bodies 1 (xf 7) (xf 8) (xf 9) wq:=hT;(try dsimp only [fr4]);(try simp only [e7]);go_simp;have hz:=hK.out (.slice (some ⟨wq.heap.size,0,none⟩) 1 1) (wq.alloc (.cells #[af s.word.2.body.1.name,.slice A3 n3 c3] 62)) trivial ⟨wq,A3,n3,c3,⟨A3,n3,c3,rfl,hm,hnm,hr,hg⟩,rfl,rfl⟩;dsimp only [fr4] at hz;simp only [e7] at hz;exact hz
  injection ho with ho;subst ho;intro xf wq hT hd K hK;obtain ⟨w2,A3,n3,c3,⟨A4,n4,c4,e4,hm,hnm,hr,hg⟩,e8,ew⟩:TB B gr w1 (af s.L.name) (.slice A n c) (.slice A' n' c') (.slice A'' n'' c'') s.word.2.body.2 s.word.2.body.1 n s.L.bodies 2 (xf 7) (xf 8) (xf 9) wq:=hT;subst ew;cases e4;have dq5:xf 5=.slice A n c:=hd ⟨5,.data⟩ (by simp) rfl;obtain ⟨hl,xs,hown,hrow⟩:=BD1.out.rgt HBk.out (by decide) hg (fun _ _ x=>x.tch (H1.out.tchR hg) (by decide));have hlt:=hr.lt;have hBg:=hr.hB;rw [if_pos (show Region.wanted _ _=true from rfl)];refine dj _ noW _ _ _ rfl B 62 i0 (.agg #[.string ⟨#[]⟩,.slice none 0 0]) 2 40 Tryz.underlying32 HI.out.1 HI.out.2.1 HI.out.2.2.1 HI.out.2.2.2 rfl (by omega) rfl (.slice A n c) n xs dq5 (hown.belw ((Below.refl _ _).alloc Qr _)) ⟨w2.heap.size,0,none⟩ 1 1 [af s.word.2.body.1.name,.slice A3 n3 c3] e8 rfl (World.news_of_block (heap_alloc_new w2 _)) (by simp [Value.oneCell']) rfl (by omega) (by have:=HP.out.cnt;unfold maxLen;omega) (by have:=HP.out.cnt;omega) (by simp;omega) ?_;intro g5 cap w5 hown5 hgrow _;have hp:=gh hl hown hrow (a:=s.word.2.body.1) (cs:=[af s.word.2.body.1.name,.slice A3 n3 c3]) ⟨A3,n3,c3,rfl,hm,hnm⟩ rfl hown5 hgrow (by omega) (fun _ _ _ ht x=>x.tch ht (by decide));exact hK.out _ _ trivial ⟨w2,_,some ⟨g5,0,none⟩,cap,⟨A3,n3,c3,rfl,hm,hnm,hr,hg⟩,rfl,hp.1,hp.2.1,hp.2.2⟩
 intro o ho xf wq hT hr K hK;injection ho with ho;subst ho;obtain ⟨w2,v,A5,c5,⟨A4,n4,c4,e4,hm,hnm,hrd,hg⟩,e9,hrow,ht,hb⟩:TB B gr w1 (af s.L.name) (.slice A n c) (.slice A' n' c') (.slice A'' n'' c'') s.word.2.body.2 s.word.2.body.1 n s.L.bodies 3 (xf 7) (xf 8) (xf 9) wq:=hT;have dq12:xf 12=.pointer (some ⟨gr,2,none⟩):=hr 12 (by decide);have RQ:=hrd.other ht (by decide) hb;obtain ⟨_,hc2,_,_,_,hf2,_⟩:=RQ.cells;rw [e9] at hrow;have RQ':=Qh RQ;have HROW:=Qh hrow;clear RQ hrow hrd hm hnm hr;(try dsimp only [fr4]);(try simp only [dq12,e9]);go_simp;refine hK.out _ _ ?_;go_wp2_with fail;go_end0;have t1:=H1.out.tchR hg;have t3:=RQ'.out.tchR (db (rg_refl gr wq) 2 (.slice A5 (n+1) c5));have hst:=lY s.word.2;have hL:s.word.2.body.2.L=s.L:=((ap s).trans hst).2.2.2;have htk:=eS (s:=s) (by rw [HW1.out];decide);have eW:W=s.word.2.body.2.addB s.word.2.body.1:=by rw [← HW.out];unfold PS.item;rw [if_pos HW1.out]
 subst eW;refine ⟨rfl,⟨A5,n+1,c5,A',n',c',A'',n'',c'',⟨?_,?_,?_,?_,?_,?_,?_⟩⟩,?_⟩
 ·show RdP B _ gr (af s.word.2.body.2.L.name) _ _ _ _
  rw [hL];exact RQ'.out.put2 _ rfl rfl rfl
 ·show aO _ _ _ _ _ _ _ (s.word.2.body.2.L.bodies ++ [s.word.2.body.1])
  rw [hL];exact HROW.out.tch t3 (by decide) (fun _ _ x=>x.tch t3 (by decide))
 ·show aO _ _ _ _ _ _ _ s.word.2.body.2.L.joints
  rw [hL];exact ((JT1.out.tch t1 (by decide) (fun _ _ x=>x)).tch ht (by decide) (fun _ _ x=>x)).tch t3 (by decide) (fun _ _ x=>x)
 ·show aO _ _ _ _ _ _ _ s.word.2.body.2.L.drivers
  rw [hL];exact ((DR1.out.tch t1 (by decide) (fun _ _ x=>x)).tch ht (by decide) (fun _ _ x=>x)).tch t3 (by decide) (fun _ _ x=>x)
 ·show NmL s.word.2.body.2.L.name
  rw [hL];exact HP.out.nm
 ·show n+1+n'+n''+s.word.2.body.2.toks.length≤_
  have h1:=HP.out.cnt;have h2:=hst.1;omega
 ·intro b hbm
  have hbm:b∈s.word.2.body.2.L.bodies ++ [s.word.2.body.1]:=hbm;rw [hL] at hbm;rcases List.mem_append.1 hbm with hbm | hbm
  ·exact HP.out.pts b hbm
  simp at hbm;subst hbm;have h1:=rJ s.word.2;have h2:=H1.out.len;omega
 exact ((BW1.out.trans (dc hg (by have:=H1.out.lt;have:=H1.out.hB;omega) H1.out.hB)).trans hb).setCell (p:=⟨gr,2,none⟩) H1.out.hB _
theorem ma (B:Nat) (w:World) (gr:Nat) (s:PS) (A:Option Addr) (n c:Nat) (A':Option Addr) (n' c':Nat) (A'':Option Addr) (n'' c'':Nat) (h:RdL B w gr s A n c A' n' c' A'' n'' c'') (hw1:s.word.1=tg):Calls Tryz.prog 41 #[.pointer (some ⟨gr,0,none⟩)] w (j7 B w gr s.item):=by
 have HW1:=Qh hw1;have hb0:(s.word.1 == [98,111,100,121])=false:=by rw [hw1];decide
 have hb1:(s.word.1 == [112,105,110])=true:=by rw [hw1];decide
 have hb2:(s.word.1 == [115,108,105,100,101])=false:=by rw [hw1];decide
 clear hw1;obtain ⟨i0,hi0,hz0,hz1,hz2⟩:=info_parts fY;obtain ⟨ij,hj0,hj1,hj2,hj3⟩:=info_parts f9;obtain ⟨id,hd0,hd1,hd2,hd3⟩:=info_parts gc;have HI:=Qh (And.intro hi0 (And.intro hz0 (And.intro hz1 hz2)));have HIJ:=Qh (And.intro hj0 (And.intro hj1 (And.intro hj2 hj3)));have HID:=Qh (And.intro hd0 (And.intro hd1 (And.intro hd2 hd3)));clear hi0 hz0 hz1 hz2 hj0 hj1 hj2 hj3 hd0 hd1 hd2 hd3;have HL1:=Qh (ap s).2.2.2;have HL2:=Qh ((ap s).trans (ap s.word.2)).2.2.2;have HP:=Qh h;obtain ⟨W,hW⟩:∃ W,s.item=W:=⟨_,rfl⟩;rw [hW];have HW:=Qh hW;clear h hW;go_in;go_wp2_with fail;(with_reducible refine (bK B _ gr (af s.L.name) (.slice A n c) (.slice A' n' c') (.slice A'' n'' c'') s HP.out.rd).mono ?_);rintro e w1 ⟨rfl,h1,hg1⟩;have H1:=Qh h1;have hgl:=h1.lt;have BW1:=Qh (dc hg1 (B:=B) (by have:=HP.out.rd.lt;have:=HP.out.rd.hB;omega) HP.out.rd.hB);have t0:=HP.out.rd.tchR hg1;have BD1:=Qh (HP.out.bd.tch t0 (by decide) (fun _ _ x=>x.tch t0 (by decide)));have JT1:=Qh (HP.out.jt.tch t0 (by decide) (fun _ _ x=>x));have DR1:=Qh (HP.out.dr.tch t0 (by decide) (fun _ _ x=>x));obtain ⟨Ak,nk,ck,hbk,_⟩:=h1.blk;have HBk:=Qh hbk;clear h1 hg1 t0 hbk;have hn:=aI s.word.1;go_wp2_with fail;(with_reducible refine (bK B _ gr (af s.L.name) (.slice A n c) (.slice A' n' c') (.slice A'' n'' c'') s.word.2 H1.out).mono ?_);rintro e w2 ⟨rfl,h2,hg2⟩;have H2:=Qh h2;have hlj:=h2.lt;have hw2:=hg2.size;have HNM:=Qh (dX H1.out.txt);clear h2;go_wp2_with fail;(with_reducible refine (gf B _ gr (af s.L.name) (.slice A' n' c') (.slice A'' n'' c'') A n c s.word.2.word.2 (H2.out.alloc _) (by rw [HL2.out];exact H1.out.bodies BD1.out (aP hg2 _)) (by have:=HP.out.cnt;omega) (by rw [HL2.out];exact fun b hb=>Nat.le_trans (HP.out.pts b hb) (by decide)) (-1)).mono ?_);rintro e w3 ⟨rfl,h3,hg3⟩;have hsa:=co s.word.2.word.2 (-1);generalize hfa:s.word.2.word.2.full (-1)=fa at h3 hsa ⊢;have HFA:=Qh hfa;have HSA:=Qh ((ap s.word.2).trans hsa);clear hfa hsa;have G3:=au (aP hg2 _) hg3;have p3:Blk w3 w2.heap.size 79 #[af s.word.2.word.1,.int .i64 0,.int .i64 0,.int .i64 0,.int .i64 0,.int .i64 0,.int .i64 0]:=bh hg3 (Blk.new _ _ _) (by omega);have hl3:=p3.lt;have H3:=Qh h3;generalize hgj:w2.heap.size=gj at hlj hw2 p3 hl3 ⊢;have HNE:=Qh (m7 JT1.out (g:=gj) (by omega));clear hgj hg3 h3 hg2 H2;obtain ⟨cj0,cj1,cj2,cj3,cj4,cj5,cj6⟩:=p3.c7;obtain ⟨fj0,fj1,fj2,fj3,fj4,fj5,fj6⟩:=p3.f7;have P3:=Qh p3;clear p3;go_wp2_with fail;clear cj0 cj1 cj2 cj3 cj4 cj5 cj6 fj0 fj1 fj2 fj3 fj4 fj5 fj6;have B3:=cM w3 hlj 2 3 (.int .i64 fa.1) (.int .i64 fa.2.1);have G3':=cq G3 (cM w3 hw2 2 3 (.int .i64 fa.1) (.int .i64 fa.2.1));(with_reducible refine (gf B _ gr (af s.L.name) (.slice A' n' c') (.slice A'' n'' c'') A n c fa.2.2 (H3.out.bel1 B3) (by rw [HSA.out.sameL,HL1.out];exact H1.out.bodies BD1.out G3') (by have:=HP.out.cnt;omega) (by rw [HSA.out.sameL,HL1.out];exact fun b hb=>Nat.le_trans (HP.out.pts b hb) (by decide)) (-1)).mono ?_);rintro e w4 ⟨rfl,h4,hg4⟩;have hsb:=co fa.2.2 (-1);generalize hfb:fa.2.2.full (-1)=fb at h4 hsb ⊢;have HFB:=Qh hfb;have HSB:=Qh (HSA.out.trans hsb);clear hfb hsb;have G4:=au G3' hg4;have p4:=bh hg4 ((P3.out.set_ 2 (.int .i64 fa.1)).set_ 3 (.int .i64 fa.2.1)) (by omega);have p4:=p4;have H4:=Qh h4;have hl4:=p4.lt;obtain ⟨cj0,cj1,cj2,cj3,cj4,cj5,cj6⟩:=p4.c7;obtain ⟨fj0,fj1,fj2,fj3,fj4,fj5,fj6⟩:=p4.f7;have P4:=Qh p4;clear p4 h4 hg4 G3 G3' B3 P3 H3 hl3;go_wp2_with fail;clear cj0 cj1 cj2 cj3 cj4 cj5 cj6 fj0 fj1 fj2 fj3 fj4 fj5 fj6;(with_reducible refine (cT B _ gr (af s.L.name) (.slice A n c) (.slice A' n' c') (.slice A'' n'' c'') fb.2.2 (H4.out.bel1 (cM w4 hlj 4 5 (.int .i64 fb.1) (.int .i64 fb.2.1))) [59]).mono ?_);rintro e w6 ⟨rfl,h6,hg6⟩;have G6:=Qh (au (cq G4 (cM w4 hw2 4 5 (.int .i64 fb.1) (.int .i64 fb.2.1))) hg6);have p6:=bh hg6 ((P4.out.set_ 4 (.int .i64 fb.1)).set_ 5 (.int .i64 fb.2.1)) (by omega);have H6:=Qh h6;have P6:=Qh p6;have HC:=Qh (show JtC w6 [af s.word.2.word.1,.int .i64 0,.int .i64 fa.1,.int .i64 fa.2.1,.int .i64 fb.1,.int .i64 fb.2.1,.int .i64 0] ⟨s.word.2.word.1,0,fa.1,fa.2.1,fb.1,fb.2.1,0⟩ from ⟨rfl,HNM.out⟩);have JT6:=Qh (JT1.out.tch (H1.out.tchR G6.out) (by decide) (fun _ _ x=>x));clear h6 hg6 p6;go_wp2_with fail;change Code.wp _ _ _ (bt _ _ _ _ _ _ _ _ _ _ _ _ _ _ _ _ _ _ _ _ _ _ _ _ _ _ _ _ _ _ _ _ _ _ _ _ _ _ _ _ _ _ _ _ _ _ _ _ _ _ _ _ _ _ _ _ _ _ _ _ _ _ _ _ _ _ _ _ _ _ _ _ _ _ _ _ _ _ _ _ _ (fun _=>undef)) _;refine cH (n:=12) (a:=7) (K:=2) (x0:=fun _=>undef) (R:=fun ri=>List.getD ((VE (.pointer (some ⟨gr,0,none⟩))) :: (VE (.pointer (some ⟨gr,0,none⟩))) :: (VE (.pointer (some ⟨gr,0,none⟩))) :: (VE (.pointer (some ⟨gr,1,none⟩))) :: (VE (.pointer (some ⟨gr,3,none⟩))) :: (VE (.slice A' n' c')) :: (VE (.agg #[af s.word.2.word.1,.int .i64 0,.int .i64 fa.1,.int .i64 fa.2.1,.int .i64 fb.1,.int .i64 fb.2.1,.int .i64 0])) :: VA :: VA :: (VE (.pointer (some ⟨gr,0,none⟩))) :: (VE (.pointer (some ⟨gr,1,none⟩))) :: (VE (.pointer (some ⟨gr,3,none⟩))) :: []) ri VA) (T:=fun k x wq=>TJ_ 79 JtC 7 B gj w6 [af s.word.2.word.1,.int .i64 0,.int .i64 fa.1,.int .i64 fa.2.1,.int .i64 fb.1,.int .i64 fb.2.1,.int .i64 0] ⟨s.word.2.word.1,0,fa.1,fa.2.1,fb.1,fb.2.1,0⟩ n' s.L.joints k (x 7) (x 8) wq) (by kernel_rfl) rfl ?_ ?_ ?_ (by decide) ?_ ?_ rfl ?_ ?_ ?_
 ·exact bV ⟨(fun _ _ _=>rfl),(fun _ _ _=>rfl),(fun _ _ _=>rfl),(fun _ _ _=>rfl),(fun _ _ _=>rfl),(fun _ _ _=>rfl),(fun _ _ _=>rfl),(fun _ _ _=>rfl),(fun _ _ _=>rfl),(fun _ _ _=>rfl),(fun _ _ _=>rfl),(fun _ _ _=>rfl),(fun h=>absurd h (by decide)),trivial⟩
 ·exact bV (eL _ 0 (by kernel_rfl))
 ·exact (fun j hj=>fR (by kernel_rfl) hj)
 ·intro j o hj ho
  obtain rfl:j=0:=by omega
  injection ho with ho;subst ho;exact ⟨⟨7,.data⟩,by simp,rfl,rfl⟩
 ·intro k x i v w hi h
  have e7:upd x i v 7=x 7:=dt _ _ (by omega);have e8:upd x i v 8=x 8:=dt _ _ (by omega);simp only [e7,e8];exact h
 ·refine bV ⟨?_,?_,?_,?_,?_,?_,?_,(fun _ h=>absurd h (by decide)),(fun _ h=>absurd h (by decide)),?_,?_,?_,(fun h=>absurd h (by decide)),trivial⟩
  ·intro _ _ k xf wq hT hd K hK
   (try dsimp only [bt]);go_simp;have hz:=hK.out _ rfl;exact hz
  ·intro _ _ k xf wq hT hd K hK
   (try dsimp only [bt]);go_simp;have hz:=hK.out _ rfl;exact hz
  ·intro _ _ k xf wq hT hd K hK
   have dq1:xf 1=.pointer (some ⟨gr,0,none⟩):=hd ⟨1,.data⟩ (by simp) rfl;(try dsimp only [bt]);(try simp only [dq1]);go_simp;have hz:=hK.out _ rfl;dsimp only [bt] at hz;simp only [dq1] at hz;exact hz
  ·intro _ _ k xf wq hT hd K hK
   have dq2:xf 2=.pointer (some ⟨gr,0,none⟩):=hd ⟨2,.data⟩ (by simp) rfl;(try dsimp only [bt]);(try simp only [dq2]);go_simp;have hz:=hK.out _ rfl;dsimp only [bt] at hz;simp only [dq2] at hz;exact hz
  ·intro _ _ k xf wq hT hd K hK
   have dq3:xf 3=.pointer (some ⟨gr,1,none⟩):=hd ⟨3,.data⟩ (by simp) rfl;(try dsimp only [bt]);(try simp only [dq3]);go_simp;have hz:=hK.out _ rfl;dsimp only [bt] at hz;simp only [dq3] at hz;exact hz
  ·intro _ _ k xf wq hT hd K hK
   have dq4:xf 4=.pointer (some ⟨gr,3,none⟩):=hd ⟨4,.data⟩ (by simp) rfl;have hc2:=(TJ_.rd (by decide) H6.out hT).cells;obtain ⟨_,hc2,hc3,hc4,_⟩:=hc2;(try dsimp only [bt]);(try simp only [dq4]);go_simp;have hz:=hK.out _ rfl;dsimp only [bt] at hz;simp only [dq4] at hz;exact hz
  ·intro _ _ k xf wq hT hd K hK
   obtain ⟨hd0,hd1,hd2,hd3,hd4,hd5,hd6⟩:=(TJ_.blk P6.out hT).c7;(try dsimp only [bt]);go_simp;have hz:=hK.out _ rfl;exact hz
  ·intro _ _ k xf wq hT hd K hK
   have dq0:xf 0=.pointer (some ⟨gr,0,none⟩):=hd ⟨0,.data⟩ (by simp) rfl;(try dsimp only [bt]);(try simp only [dq0]);go_simp;have hz:=hK.out _ rfl;dsimp only [bt] at hz;simp only [dq0] at hz;exact hz
  ·intro _ _ k xf wq hT hd K hK
   have dq9:xf 9=.pointer (some ⟨gr,0,none⟩):=hd ⟨9,.data⟩ (by simp) rfl;(try dsimp only [bt]);(try simp only [dq9]);go_simp;have hz:=hK.out _ rfl;dsimp only [bt] at hz;simp only [dq9] at hz;exact hz
  intro _ _ k xf wq hT hd K hK;have dq10:xf 10=.pointer (some ⟨gr,1,none⟩):=hd ⟨10,.data⟩ (by simp) rfl;(try dsimp only [bt]);(try simp only [dq10]);go_simp;have hz:=hK.out _ rfl;dsimp only [bt] at hz;simp only [dq10] at hz;exact hz
 ·intro k o hk ho
  obtain rfl | rfl:=(show k=0∨k=1 by omega)
  ·injection ho with ho
   subst ho;intro xf wq hT hd K hK;have hT:wq=w6.drew:=hT;subst hT;have dq6:xf 6=.agg #[af s.word.2.word.1,.int .i64 0,.int .i64 fa.1,.int .i64 fa.2.1,.int .i64 fb.1,.int .i64 fb.2.1,.int .i64 0]:=hd ⟨6,.data⟩ (by simp) rfl;(try dsimp only [bt]);(try simp only [dq6]);go_simp;have hz:=hK.out (.slice (some ⟨w6.heap.size,0,none⟩) 1 1) (w6.drew.alloc (.cells #[af s.word.2.word.1,.int .i64 0,.int .i64 fa.1,.int .i64 fa.2.1,.int .i64 fb.1,.int .i64 fb.2.1,.int .i64 0] 79)) trivial ⟨rfl,rfl⟩;dsimp only [bt] at hz;simp only [dq6] at hz;exact hz
  injection ho with ho;subst ho;intro xf wq hT hd K hK;obtain ⟨e7,ew⟩:TJ_ 79 JtC 7 B gj w6 [af s.word.2.word.1,.int .i64 0,.int .i64 fa.1,.int .i64 fa.2.1,.int .i64 fb.1,.int .i64 fb.2.1,.int .i64 0] ⟨s.word.2.word.1,0,fa.1,fa.2.1,fb.1,fb.2.1,0⟩ n' s.L.joints 1 (xf 7) (xf 8) wq:=hT;subst ew;have dq5:xf 5=.slice A' n' c':=hd ⟨5,.data⟩ (by simp) rfl;obtain ⟨hl,xs,hown,hrow⟩:=JT6.out;have hown:OwJ noW w6.drew B 79 7 (.slice A' n' c') n' xs:=hown;have hrow:eZ JtC 7 w6.drew s.L.joints xs:=hrow;have hlt:=H6.out.lt;have hBg:=H6.out.hB;have hds:w6.drew.heap.size=w6.heap.size:=rfl;rw [if_pos (show Region.wanted _ _=true from rfl)];refine dj _ noW _ _ _ rfl B 79 ij (.agg #[.string ⟨#[]⟩,.int .i64 0,.int .i64 0,.int .i64 0,.int .i64 0,.int .i64 0,.int .i64 0]) 7 64 Tryz.underlying33 HIJ.out.1 HIJ.out.2.1 HIJ.out.2.2.1 HIJ.out.2.2.2 rfl (by omega) rfl (.slice A' n' c') n' xs dq5 (hown.belw ((Below.refl _ _).alloc Qr _)) ⟨w6.heap.size,0,none⟩ 1 1 [af s.word.2.word.1,.int .i64 0,.int .i64 fa.1,.int .i64 fa.2.1,.int .i64 fb.1,.int .i64 fb.2.1,.int .i64 0] e7 rfl (World.news_of_block (heap_alloc_new w6.drew _)) (by simp [Value.oneCell']) rfl (by omega) (by have:=HP.out.cnt;unfold maxLen;omega) (by have:=HP.out.cnt;omega) (by simp;omega) ?_;intro g5 cap w5 hown5 hgrow _;have hp:=gh hl hown hrow (a:=⟨s.word.2.word.1,0,fa.1,fa.2.1,fb.1,fb.2.1,0⟩) (cs:=[af s.word.2.word.1,.int .i64 0,.int .i64 fa.1,.int .i64 fa.2.1,.int .i64 fb.1,.int .i64 fb.2.1,.int .i64 0]) (show JtC w6.drew _ (⟨s.word.2.word.1,0,fa.1,fa.2.1,fb.1,fb.2.1,0⟩:aQ) from HC.out) rfl hown5 hgrow (by omega) (fun _ _ _ _ x=>x);exact hK.out _ _ trivial ⟨some ⟨g5,0,none⟩,cap,rfl,hp.1,(P6.out.drew.alloc _).grown hgrow HNE.out,hp.2.1,((Below.refl B w6).drew).trans hp.2.2⟩
 intro o ho xf wq hT hr K hK;injection ho with ho;subst ho;obtain ⟨A5,c5,e8,hrow,_,ht,hb⟩:TJ_ 79 JtC 7 B gj w6 [af s.word.2.word.1,.int .i64 0,.int .i64 fa.1,.int .i64 fa.2.1,.int .i64 fb.1,.int .i64 fb.2.1,.int .i64 0] ⟨s.word.2.word.1,0,fa.1,fa.2.1,fb.1,fb.2.1,0⟩ n' s.L.joints 2 (xf 7) (xf 8) wq:=hT;have dq11:xf 11=.pointer (some ⟨gr,3,none⟩):=hr 11 (by decide);have RQ:=H6.out.other ht (by decide) hb;obtain ⟨_,hc2,hc3,hc4,_,hf2,hf3,hf4⟩:=RQ.cells;rw [e8] at hrow;have RQ':=Qh RQ;have HROW:=Qh hrow;clear RQ hrow hr;(try dsimp only [bt]);(try simp only [dq11,e8]);go_simp;refine hK.out _ _ ?_;go_wp2_with fail;go_end0;have t1:=H1.out.tchR G6.out;have t3:=RQ'.out.tchR (db (rg_refl gr wq) 3 (.slice A5 (n'+1) c5));have hst:=HSB.out.trans (aD fb.2.2 2 [59]);have hL:(PS.expect fb.2.2 2 [59]).L=s.L:=hst.2.2.2.trans HL1.out;have htk:=eS (s:=s) (by rw [HW1.out];decide);have hst1:=hst.1
 have eW:W=PS.addJ (PS.expect fb.2.2 2 [59]) ⟨s.word.2.word.1,0,fa.1,fa.2.1,fb.1,fb.2.1,0⟩:=by
  rw [← HW.out];unfold PS.item;rw [if_neg (by rw [HW1.out];decide),if_pos HW1.out];unfold PS.joint;simp only [HFA.out,HFB.out,Bool.false_eq_true,if_false]
 subst eW;refine ⟨rfl,⟨A,n,c,A5,n'+1,c5,A'',n'',c'',⟨?_,?_,?_,?_,?_,?_,?_⟩⟩,?_⟩
 ·show RdP B _ gr (af (PS.expect fb.2.2 2 [59]).L.name) _ _ _ _
  rw [hL];exact RQ'.out.put3 _ rfl rfl rfl
 ·show aO _ _ _ _ _ _ _ (PS.expect fb.2.2 2 [59]).L.bodies
  rw [hL];exact ((BD1.out.tch t1 (by decide) (fun _ _ x=>x.tch t1 (by decide))).tch ht (by decide) (fun _ _ x=>x.tch ht (by decide))).tch t3 (by decide) (fun _ _ x=>x.tch t3 (by decide))
 ·show aO _ _ _ _ _ _ _ ((PS.expect fb.2.2 2 [59]).L.joints ++ [⟨s.word.2.word.1,0,fa.1,fa.2.1,fb.1,fb.2.1,0⟩])
  rw [hL];exact HROW.out.tch t3 (by decide) (fun _ _ x=>x)
 ·show aO _ _ _ _ _ _ _ (PS.expect fb.2.2 2 [59]).L.drivers
  rw [hL];exact ((DR1.out.tch t1 (by decide) (fun _ _ x=>x)).tch ht (by decide) (fun _ _ x=>x)).tch t3 (by decide) (fun _ _ x=>x)
 ·show NmL (PS.expect fb.2.2 2 [59]).L.name
  rw [hL];exact HP.out.nm
 ·show n+(n'+1)+n''+(PS.expect fb.2.2 2 [59]).toks.length≤_
  have h1:=HP.out.cnt;omega
 ·intro b hbm
  have hbm:b∈(PS.expect fb.2.2 2 [59]).L.bodies:=hbm;rw [hL] at hbm;exact HP.out.pts b hbm
 exact ((BW1.out.trans (dc G6.out (by have:=H1.out.lt;have:=H1.out.hB;omega) H1.out.hB)).trans hb).setCell (p:=⟨gr,3,none⟩) H1.out.hB _
theorem jm (B:Nat) (w:World) (gr:Nat) (s:PS) (A:Option Addr) (n c:Nat) (A':Option Addr) (n' c':Nat) (A'':Option Addr) (n'' c'':Nat) (h:RdL B w gr s A n c A' n' c' A'' n'' c'') (hw1:s.word.1=kI):Calls Tryz.prog 41 #[.pointer (some ⟨gr,0,none⟩)] w (j7 B w gr s.item):=by
 have HW1:=Qh hw1;have hb0:(s.word.1 == [98,111,100,121])=false:=by rw [hw1];decide
 have hb1:(s.word.1 == [112,105,110])=false:=by rw [hw1];decide
 have hb2:(s.word.1 == [115,108,105,100,101])=true:=by rw [hw1];decide
 clear hw1;obtain ⟨i0,hi0,hz0,hz1,hz2⟩:=info_parts fY;obtain ⟨ij,hj0,hj1,hj2,hj3⟩:=info_parts f9;obtain ⟨id,hd0,hd1,hd2,hd3⟩:=info_parts gc;have HI:=Qh (And.intro hi0 (And.intro hz0 (And.intro hz1 hz2)));have HIJ:=Qh (And.intro hj0 (And.intro hj1 (And.intro hj2 hj3)));have HID:=Qh (And.intro hd0 (And.intro hd1 (And.intro hd2 hd3)));clear hi0 hz0 hz1 hz2 hj0 hj1 hj2 hj3 hd0 hd1 hd2 hd3;have HL1:=Qh (ap s).2.2.2;have HL2:=Qh ((ap s).trans (ap s.word.2)).2.2.2;have HP:=Qh h;obtain ⟨W,hW⟩:∃ W,s.item=W:=⟨_,rfl⟩;rw [hW];have HW:=Qh hW;clear h hW;go_in;go_wp2_with fail;(with_reducible refine (bK B _ gr (af s.L.name) (.slice A n c) (.slice A' n' c') (.slice A'' n'' c'') s HP.out.rd).mono ?_);rintro e w1 ⟨rfl,h1,hg1⟩;have H1:=Qh h1;have hgl:=h1.lt;have BW1:=Qh (dc hg1 (B:=B) (by have:=HP.out.rd.lt;have:=HP.out.rd.hB;omega) HP.out.rd.hB);have t0:=HP.out.rd.tchR hg1;have BD1:=Qh (HP.out.bd.tch t0 (by decide) (fun _ _ x=>x.tch t0 (by decide)));have JT1:=Qh (HP.out.jt.tch t0 (by decide) (fun _ _ x=>x));have DR1:=Qh (HP.out.dr.tch t0 (by decide) (fun _ _ x=>x));obtain ⟨Ak,nk,ck,hbk,_⟩:=h1.blk;have HBk:=Qh hbk;clear h1 hg1 t0 hbk;have hn:=aI s.word.1;go_wp2_with fail;(with_reducible refine (bK B _ gr (af s.L.name) (.slice A n c) (.slice A' n' c') (.slice A'' n'' c'') s.word.2 H1.out).mono ?_);rintro e w2 ⟨rfl,h2,hg2⟩;have H2:=Qh h2;have hlj:=h2.lt;have hw2:=hg2.size;have HNM:=Qh (dX H1.out.txt);clear h2;go_wp2_with fail;(with_reducible refine (gf B _ gr (af s.L.name) (.slice A' n' c') (.slice A'' n'' c'') A n c s.word.2.word.2 (H2.out.alloc _) (by rw [HL2.out];exact H1.out.bodies BD1.out (aP hg2 _)) (by have:=HP.out.cnt;omega) (by rw [HL2.out];exact fun b hb=>Nat.le_trans (HP.out.pts b hb) (by decide)) (-1)).mono ?_);rintro e w3 ⟨rfl,h3,hg3⟩;have hsa:=co s.word.2.word.2 (-1);generalize hfa:s.word.2.word.2.full (-1)=fa at h3 hsa ⊢;have HFA:=Qh hfa;have HSA:=Qh ((ap s.word.2).trans hsa);clear hfa hsa;have G3:=au (aP hg2 _) hg3;have p3:Blk w3 w2.heap.size 79 #[af s.word.2.word.1,.int .i64 0,.int .i64 0,.int .i64 0,.int .i64 0,.int .i64 0,.int .i64 0]:=bh hg3 (Blk.new _ _ _) (by omega);have hl3:=p3.lt;have H3:=Qh h3;generalize hgj:w2.heap.size=gj at hlj hw2 p3 hl3 ⊢;have HNE:=Qh (m7 JT1.out (g:=gj) (by omega));clear hgj hg3 h3 hg2 H2;obtain ⟨cj0,cj1,cj2,cj3,cj4,cj5,cj6⟩:=p3.c7;obtain ⟨fj0,fj1,fj2,fj3,fj4,fj5,fj6⟩:=p3.f7;have P3:=Qh p3;clear p3;go_wp2_with fail;clear cj0 cj1 cj2 cj3 cj4 cj5 cj6 fj0 fj1 fj2 fj3 fj4 fj5 fj6;have B3:=cM w3 hlj 2 3 (.int .i64 fa.1) (.int .i64 fa.2.1);have G3':=cq G3 (cM w3 hw2 2 3 (.int .i64 fa.1) (.int .i64 fa.2.1));(with_reducible refine (gf B _ gr (af s.L.name) (.slice A' n' c') (.slice A'' n'' c'') A n c fa.2.2 (H3.out.bel1 B3) (by rw [HSA.out.sameL,HL1.out];exact H1.out.bodies BD1.out G3') (by have:=HP.out.cnt;omega) (by rw [HSA.out.sameL,HL1.out];exact fun b hb=>Nat.le_trans (HP.out.pts b hb) (by decide)) (-1)).mono ?_);rintro e w4 ⟨rfl,h4,hg4⟩;have hsb:=co fa.2.2 (-1);generalize hfb:fa.2.2.full (-1)=fb at h4 hsb ⊢;have HFB:=Qh hfb;have HSB:=Qh (HSA.out.trans hsb);clear hfb hsb;have G4:=au G3' hg4;have p4:=bh hg4 ((P3.out.set_ 2 (.int .i64 fa.1)).set_ 3 (.int .i64 fa.2.1)) (by omega);have p4:=p4;have H4:=Qh h4;have hl4:=p4.lt;obtain ⟨cj0,cj1,cj2,cj3,cj4,cj5,cj6⟩:=p4.c7;obtain ⟨fj0,fj1,fj2,fj3,fj4,fj5,fj6⟩:=p4.f7;have P4:=Qh p4;clear p4 h4 hg4 G3 G3' B3 P3 H3 hl3;go_wp2_with fail;clear cj0 cj1 cj2 cj3 cj4 cj5 cj6 fj0 fj1 fj2 fj3 fj4 fj5 fj6;have B4:=(cM w4 hlj 4 5 (.int .i64 fb.1) (.int .i64 fb.2.1)).setCell (p:=⟨gj,1,none⟩) hlj (.int .i64 1);have G4':=cq G4 ((cM w4 hw2 4 5 (.int .i64 fb.1) (.int .i64 fb.2.1)).setCell (p:=⟨gj,1,none⟩) hw2 (.int .i64 1));have Q4:=Qh (((P4.out.set_ 4 (.int .i64 fb.1)).set_ 5 (.int .i64 fb.2.1)).set_ 1 (.int .i64 1));(with_reducible refine (gf B _ gr (af s.L.name) (.slice A' n' c') (.slice A'' n'' c'') A n c fb.2.2 (H4.out.bel1 B4) (by rw [HSB.out.sameL,HL1.out];exact H1.out.bodies BD1.out G4') (by have:=HP.out.cnt;omega) (by rw [HSB.out.sameL,HL1.out];exact fun b hb=>Nat.le_trans (HP.out.pts b hb) (by decide)) fb.1).mono ?_);rintro e w5 ⟨rfl,h5,hg5⟩;have hsc:=co fb.2.2 fb.1;generalize hft:fb.2.2.full fb.1=ft at h5 hsc ⊢;have HFT:=Qh hft;have HSC:=Qh (HSB.out.trans hsc);clear hft hsc;have G5:=au G4' hg5;have p5:=bh hg5 Q4.out (by omega);have H5:=Qh h5;have hl5:=p5.lt;obtain ⟨cj0,cj1,cj2,cj3,cj4,cj5,cj6⟩:=p5.c7;obtain ⟨fj0,fj1,fj2,fj3,fj4,fj5,fj6⟩:=p5.f7;have P5:=Qh p5;clear p5 h5 hg5 G4 G4' B4 P4 H4 Q4 hl4;go_wp2_with fail;clear cj0 cj1 cj2 cj3 cj4 cj5 cj6 fj0 fj1 fj2 fj3 fj4 fj5 fj6;(with_reducible refine (cT B _ gr (af s.L.name) (.slice A n c) (.slice A' n' c') (.slice A'' n'' c'') ft.2.2 (H5.out.bel1 ((Below.refl _ w5).setCell (p:=⟨gj,6,none⟩) hlj (.int .i64 ft.2.1))) [59]).mono ?_);rintro e w6 ⟨rfl,h6,hg6⟩;have G6:=Qh (au (cq G5 ((Below.refl _ w5).setCell (p:=⟨gj,6,none⟩) hw2 (.int .i64 ft.2.1))) hg6);have p6:=bh hg6 (P5.out.set_ 6 (.int .i64 ft.2.1)) (by omega);have H6:=Qh h6;have P6:=Qh p6;have HC:=Qh (show JtC w6 [af s.word.2.word.1,.int .i64 1,.int .i64 fa.1,.int .i64 fa.2.1,.int .i64 fb.1,.int .i64 fb.2.1,.int .i64 ft.2.1] ⟨s.word.2.word.1,1,fa.1,fa.2.1,fb.1,fb.2.1,ft.2.1⟩ from ⟨rfl,HNM.out⟩);have JT6:=Qh (JT1.out.tch (H1.out.tchR G6.out) (by decide) (fun _ _ x=>x));clear h6 hg6 p6;go_wp2_with fail;change Code.wp _ _ _ (bt _ _ _ _ _ _ _ _ _ _ _ _ _ _ _ _ _ _ _ _ _ _ _ _ _ _ _ _ _ _ _ _ _ _ _ _ _ _ _ _ _ _ _ _ _ _ _ _ _ _ _ _ _ _ _ _ _ _ _ _ _ _ _ _ _ _ _ _ _ _ _ _ _ _ _ _ _ _ _ _ _ (fun _=>undef)) _;refine cH (n:=12) (a:=7) (K:=2) (x0:=fun _=>undef) (R:=fun ri=>List.getD ((VE (.pointer (some ⟨gr,0,none⟩))) :: (VE (.pointer (some ⟨gr,0,none⟩))) :: (VE (.pointer (some ⟨gr,0,none⟩))) :: (VE (.pointer (some ⟨gr,1,none⟩))) :: (VE (.pointer (some ⟨gr,3,none⟩))) :: (VE (.slice A' n' c')) :: (VE (.agg #[af s.word.2.word.1,.int .i64 1,.int .i64 fa.1,.int .i64 fa.2.1,.int .i64 fb.1,.int .i64 fb.2.1,.int .i64 ft.2.1])) :: VA :: VA :: (VE (.pointer (some ⟨gr,0,none⟩))) :: (VE (.pointer (some ⟨gr,1,none⟩))) :: (VE (.pointer (some ⟨gr,3,none⟩))) :: []) ri VA) (T:=fun k x wq=>TJ_ 79 JtC 7 B gj w6 [af s.word.2.word.1,.int .i64 1,.int .i64 fa.1,.int .i64 fa.2.1,.int .i64 fb.1,.int .i64 fb.2.1,.int .i64 ft.2.1] ⟨s.word.2.word.1,1,fa.1,fa.2.1,fb.1,fb.2.1,ft.2.1⟩ n' s.L.joints k (x 7) (x 8) wq) (by kernel_rfl) rfl ?_ ?_ ?_ (by decide) ?_ ?_ rfl ?_ ?_ ?_
 ·exact bV ⟨(fun _ _ _=>rfl),(fun _ _ _=>rfl),(fun _ _ _=>rfl),(fun _ _ _=>rfl),(fun _ _ _=>rfl),(fun _ _ _=>rfl),(fun _ _ _=>rfl),(fun _ _ _=>rfl),(fun _ _ _=>rfl),(fun _ _ _=>rfl),(fun _ _ _=>rfl),(fun _ _ _=>rfl),(fun h=>absurd h (by decide)),trivial⟩
 ·exact bV (eL _ 0 (by kernel_rfl))
 ·exact (fun j hj=>fR (by kernel_rfl) hj)
 ·intro j o hj ho
  obtain rfl:j=0:=by omega
  injection ho with ho;subst ho;exact ⟨⟨7,.data⟩,by simp,rfl,rfl⟩
 ·intro k x i v w hi h
  have e7:upd x i v 7=x 7:=dt _ _ (by omega);have e8:upd x i v 8=x 8:=dt _ _ (by omega);simp only [e7,e8];exact h
 ·refine bV ⟨?_,?_,?_,?_,?_,?_,?_,(fun _ h=>absurd h (by decide)),(fun _ h=>absurd h (by decide)),?_,?_,?_,(fun h=>absurd h (by decide)),trivial⟩
  ·intro _ _ k xf wq hT hd K hK
   (try dsimp only [bt]);go_simp;have hz:=hK.out _ rfl;exact hz
  ·intro _ _ k xf wq hT hd K hK
   (try dsimp only [bt]);go_simp;have hz:=hK.out _ rfl;exact hz
  ·intro _ _ k xf wq hT hd K hK
   have dq1:xf 1=.pointer (some ⟨gr,0,none⟩):=hd ⟨1,.data⟩ (by simp) rfl;(try dsimp only [bt]);(try simp only [dq1]);go_simp;have hz:=hK.out _ rfl;dsimp only [bt] at hz;simp only [dq1] at hz;exact hz
  ·intro _ _ k xf wq hT hd K hK
   have dq2:xf 2=.pointer (some ⟨gr,0,none⟩):=hd ⟨2,.data⟩ (by simp) rfl;(try dsimp only [bt]);(try simp only [dq2]);go_simp;have hz:=hK.out _ rfl;dsimp only [bt] at hz;simp only [dq2] at hz;exact hz
  ·intro _ _ k xf wq hT hd K hK
   have dq3:xf 3=.pointer (some ⟨gr,1,none⟩):=hd ⟨3,.data⟩ (by simp) rfl;(try dsimp only [bt]);(try simp only [dq3]);go_simp;have hz:=hK.out _ rfl;dsimp only [bt] at hz;simp only [dq3] at hz;exact hz
  ·intro _ _ k xf wq hT hd K hK
   have dq4:xf 4=.pointer (some ⟨gr,3,none⟩):=hd ⟨4,.data⟩ (by simp) rfl;have hc2:=(TJ_.rd (by decide) H6.out hT).cells;obtain ⟨_,hc2,hc3,hc4,_⟩:=hc2;(try dsimp only [bt]);(try simp only [dq4]);go_simp;have hz:=hK.out _ rfl;dsimp only [bt] at hz;simp only [dq4] at hz;exact hz
  ·intro _ _ k xf wq hT hd K hK
   obtain ⟨hd0,hd1,hd2,hd3,hd4,hd5,hd6⟩:=(TJ_.blk P6.out hT).c7;(try dsimp only [bt]);go_simp;have hz:=hK.out _ rfl;exact hz
  ·intro _ _ k xf wq hT hd K hK
   have dq0:xf 0=.pointer (some ⟨gr,0,none⟩):=hd ⟨0,.data⟩ (by simp) rfl;(try dsimp only [bt]);(try simp only [dq0]);go_simp;have hz:=hK.out _ rfl;dsimp only [bt] at hz;simp only [dq0] at hz;exact hz
  ·intro _ _ k xf wq hT hd K hK
   have dq9:xf 9=.pointer (some ⟨gr,0,none⟩):=hd ⟨9,.data⟩ (by simp) rfl;(try dsimp only [bt]);(try simp only [dq9]);go_simp;have hz:=hK.out _ rfl;dsimp only [bt] at hz;simp only [dq9] at hz;exact hz
  intro _ _ k xf wq hT hd K hK;have dq10:xf 10=.pointer (some ⟨gr,1,none⟩):=hd ⟨10,.data⟩ (by simp) rfl;(try dsimp only [bt]);(try simp only [dq10]);go_simp;have hz:=hK.out _ rfl;dsimp only [bt] at hz;simp only [dq10] at hz;exact hz
 ·intro k o hk ho
  obtain rfl | rfl:=(show k=0∨k=1 by omega)
  ·injection ho with ho
   subst ho;intro xf wq hT hd K hK;have hT:wq=w6.drew:=hT;subst hT;have dq6:xf 6=.agg #[af s.word.2.word.1,.int .i64 1,.int .i64 fa.1,.int .i64 fa.2.1,.int .i64 fb.1,.int .i64 fb.2.1,.int .i64 ft.2.1]:=hd ⟨6,.data⟩ (by simp) rfl;(try dsimp only [bt]);(try simp only [dq6]);go_simp;have hz:=hK.out (.slice (some ⟨w6.heap.size,0,none⟩) 1 1) (w6.drew.alloc (.cells #[af s.word.2.word.1,.int .i64 1,.int .i64 fa.1,.int .i64 fa.2.1,.int .i64 fb.1,.int .i64 fb.2.1,.int .i64 ft.2.1] 79)) trivial ⟨rfl,rfl⟩;dsimp only [bt] at hz;simp only [dq6] at hz;exact hz
  injection ho with ho;subst ho;intro xf wq hT hd K hK;obtain ⟨e7,ew⟩:TJ_ 79 JtC 7 B gj w6 [af s.word.2.word.1,.int .i64 1,.int .i64 fa.1,.int .i64 fa.2.1,.int .i64 fb.1,.int .i64 fb.2.1,.int .i64 ft.2.1] ⟨s.word.2.word.1,1,fa.1,fa.2.1,fb.1,fb.2.1,ft.2.1⟩ n' s.L.joints 1 (xf 7) (xf 8) wq:=hT;subst ew;have dq5:xf 5=.slice A' n' c':=hd ⟨5,.data⟩ (by simp) rfl;obtain ⟨hl,xs,hown,hrow⟩:=JT6.out;have hown:OwJ noW w6.drew B 79 7 (.slice A' n' c') n' xs:=hown;have hrow:eZ JtC 7 w6.drew s.L.joints xs:=hrow;have hlt:=H6.out.lt;have hBg:=H6.out.hB;have hds:w6.drew.heap.size=w6.heap.size:=rfl;rw [if_pos (show Region.wanted _ _=true from rfl)];refine dj _ noW _ _ _ rfl B 79 ij (.agg #[.string ⟨#[]⟩,.int .i64 0,.int .i64 0,.int .i64 0,.int .i64 0,.int .i64 0,.int .i64 0]) 7 64 Tryz.underlying33 HIJ.out.1 HIJ.out.2.1 HIJ.out.2.2.1 HIJ.out.2.2.2 rfl (by omega) rfl (.slice A' n' c') n' xs dq5 (hown.belw ((Below.refl _ _).alloc Qr _)) ⟨w6.heap.size,0,none⟩ 1 1 [af s.word.2.word.1,.int .i64 1,.int .i64 fa.1,.int .i64 fa.2.1,.int .i64 fb.1,.int .i64 fb.2.1,.int .i64 ft.2.1] e7 rfl (World.news_of_block (heap_alloc_new w6.drew _)) (by simp [Value.oneCell']) rfl (by omega) (by have:=HP.out.cnt;unfold maxLen;omega) (by have:=HP.out.cnt;omega) (by simp;omega) ?_;intro g5 cap w5 hown5 hgrow _;have hp:=gh hl hown hrow (a:=⟨s.word.2.word.1,1,fa.1,fa.2.1,fb.1,fb.2.1,ft.2.1⟩) (cs:=[af s.word.2.word.1,.int .i64 1,.int .i64 fa.1,.int .i64 fa.2.1,.int .i64 fb.1,.int .i64 fb.2.1,.int .i64 ft.2.1]) (show JtC w6.drew _ (⟨s.word.2.word.1,1,fa.1,fa.2.1,fb.1,fb.2.1,ft.2.1⟩:aQ) from HC.out) rfl hown5 hgrow (by omega) (fun _ _ _ _ x=>x);exact hK.out _ _ trivial ⟨some ⟨g5,0,none⟩,cap,rfl,hp.1,(P6.out.drew.alloc _).grown hgrow HNE.out,hp.2.1,((Below.refl B w6).drew).trans hp.2.2⟩
 intro o ho xf wq hT hr K hK;injection ho with ho;subst ho;obtain ⟨A5,c5,e8,hrow,_,ht,hb⟩:TJ_ 79 JtC 7 B gj w6 [af s.word.2.word.1,.int .i64 1,.int .i64 fa.1,.int .i64 fa.2.1,.int .i64 fb.1,.int .i64 fb.2.1,.int .i64 ft.2.1] ⟨s.word.2.word.1,1,fa.1,fa.2.1,fb.1,fb.2.1,ft.2.1⟩ n' s.L.joints 2 (xf 7) (xf 8) wq:=hT;have dq11:xf 11=.pointer (some ⟨gr,3,none⟩):=hr 11 (by decide);have RQ:=H6.out.other ht (by decide) hb;obtain ⟨_,hc2,hc3,hc4,_,hf2,hf3,hf4⟩:=RQ.cells;rw [e8] at hrow;have RQ':=Qh RQ;have HROW:=Qh hrow;clear RQ hrow hr;(try dsimp only [bt]);(try simp only [dq11,e8]);go_simp;refine hK.out _ _ ?_;go_wp2_with fail;go_end0;have t1:=H1.out.tchR G6.out;have t3:=RQ'.out.tchR (db (rg_refl gr wq) 3 (.slice A5 (n'+1) c5));have hst:=HSC.out.trans (aD ft.2.2 2 [59]);have hL:(PS.expect ft.2.2 2 [59]).L=s.L:=hst.2.2.2.trans HL1.out;have htk:=eS (s:=s) (by rw [HW1.out];decide);have hst1:=hst.1
 have eW:W=PS.addJ (PS.expect ft.2.2 2 [59]) ⟨s.word.2.word.1,1,fa.1,fa.2.1,fb.1,fb.2.1,ft.2.1⟩:=by
  rw [← HW.out];unfold PS.item;rw [if_neg (by rw [HW1.out];decide),if_neg (by rw [HW1.out];decide),if_pos HW1.out];unfold PS.joint;simp only [HFA.out,HFB.out,HFT.out,if_true]
 subst eW;refine ⟨rfl,⟨A,n,c,A5,n'+1,c5,A'',n'',c'',⟨?_,?_,?_,?_,?_,?_,?_⟩⟩,?_⟩
 ·show RdP B _ gr (af (PS.expect ft.2.2 2 [59]).L.name) _ _ _ _
  rw [hL];exact RQ'.out.put3 _ rfl rfl rfl
 ·show aO _ _ _ _ _ _ _ (PS.expect ft.2.2 2 [59]).L.bodies
  rw [hL];exact ((BD1.out.tch t1 (by decide) (fun _ _ x=>x.tch t1 (by decide))).tch ht (by decide) (fun _ _ x=>x.tch ht (by decide))).tch t3 (by decide) (fun _ _ x=>x.tch t3 (by decide))
 ·show aO _ _ _ _ _ _ _ ((PS.expect ft.2.2 2 [59]).L.joints ++ [⟨s.word.2.word.1,1,fa.1,fa.2.1,fb.1,fb.2.1,ft.2.1⟩])
  rw [hL];exact HROW.out.tch t3 (by decide) (fun _ _ x=>x)
 ·show aO _ _ _ _ _ _ _ (PS.expect ft.2.2 2 [59]).L.drivers
  rw [hL];exact ((DR1.out.tch t1 (by decide) (fun _ _ x=>x)).tch ht (by decide) (fun _ _ x=>x)).tch t3 (by decide) (fun _ _ x=>x)
 ·show NmL (PS.expect ft.2.2 2 [59]).L.name
  rw [hL];exact HP.out.nm
 ·show n+(n'+1)+n''+(PS.expect ft.2.2 2 [59]).toks.length≤_
  have h1:=HP.out.cnt;omega
 ·intro b hbm
  have hbm:b∈(PS.expect ft.2.2 2 [59]).L.bodies:=hbm;rw [hL] at hbm;exact HP.out.pts b hbm
 exact ((BW1.out.trans (dc G6.out (by have:=H1.out.lt;have:=H1.out.hB;omega) H1.out.hB)).trans hb).setCell (p:=⟨gr,3,none⟩) H1.out.hB _
theorem iQ (B:Nat) (w:World) (gr:Nat) (s:PS) (A:Option Addr) (n c:Nat) (A':Option Addr) (n' c':Nat) (A'':Option Addr) (n'' c'':Nat) (h:RdL B w gr s A n c A' n' c' A'' n'' c'') (hw1:s.word.1=g9):Calls Tryz.prog 41 #[.pointer (some ⟨gr,0,none⟩)] w (j7 B w gr s.item):=by
 have HW1:=Qh hw1;have hb0:(s.word.1 == [98,111,100,121])=false:=by rw [hw1];decide
 have hb1:(s.word.1 == [112,105,110])=false:=by rw [hw1];decide
 have hb2:(s.word.1 == [115,108,105,100,101])=false:=by rw [hw1];decide
 have hb3:(s.word.1 == [100,114,105,118,101,114])=true:=by rw [hw1];decide
 clear hw1;obtain ⟨i0,hi0,hz0,hz1,hz2⟩:=info_parts fY;obtain ⟨ij,hj0,hj1,hj2,hj3⟩:=info_parts f9;obtain ⟨id,hd0,hd1,hd2,hd3⟩:=info_parts gc;have HI:=Qh (And.intro hi0 (And.intro hz0 (And.intro hz1 hz2)));have HIJ:=Qh (And.intro hj0 (And.intro hj1 (And.intro hj2 hj3)));have HID:=Qh (And.intro hd0 (And.intro hd1 (And.intro hd2 hd3)));clear hi0 hz0 hz1 hz2 hj0 hj1 hj2 hj3 hd0 hd1 hd2 hd3;have HL1:=Qh (ap s).2.2.2;have HL2:=Qh ((ap s).trans (ap s.word.2)).2.2.2;have HP:=Qh h;obtain ⟨W,hW⟩:∃ W,s.item=W:=⟨_,rfl⟩;rw [hW];have HW:=Qh hW;clear h hW;go_in;go_wp2_with fail;(with_reducible refine (bK B _ gr (af s.L.name) (.slice A n c) (.slice A' n' c') (.slice A'' n'' c'') s HP.out.rd).mono ?_);rintro e w1 ⟨rfl,h1,hg1⟩;have H1:=Qh h1;have hgl:=h1.lt;have BW1:=Qh (dc hg1 (B:=B) (by have:=HP.out.rd.lt;have:=HP.out.rd.hB;omega) HP.out.rd.hB);have t0:=HP.out.rd.tchR hg1;have BD1:=Qh (HP.out.bd.tch t0 (by decide) (fun _ _ x=>x.tch t0 (by decide)));have JT1:=Qh (HP.out.jt.tch t0 (by decide) (fun _ _ x=>x));have DR1:=Qh (HP.out.dr.tch t0 (by decide) (fun _ _ x=>x));obtain ⟨Ak,nk,ck,hbk,_⟩:=h1.blk;have HBk:=Qh hbk;clear h1 hg1 t0 hbk;have hn:=aI s.word.1;go_wp2_with fail;(with_reducible refine (bK B _ gr (af s.L.name) (.slice A n c) (.slice A' n' c') (.slice A'' n'' c'') s.word.2 H1.out).mono ?_);rintro e w2 ⟨rfl,h2,hg2⟩;have H2:=Qh h2;have hlj:=h2.lt;have hw2:=hg2.size;have HNM:=Qh (dX H1.out.txt);clear h2;go_wp2_with fail;(with_reducible refine (l6 B _ gr (af s.L.name) (.slice A' n' c') (.slice A'' n'' c'') A n c s.word.2.word.2 (H2.out.alloc _) (by rw [HL2.out];exact H1.out.bodies BD1.out (aP hg2 _)) (by have:=HP.out.cnt;omega) (-1)).mono ?_);rintro e w3 ⟨rfl,h3,hg3⟩;have hsa:=eR s.word.2.word.2 (-1);generalize hfa:s.word.2.word.2.named (-1)=fa at h3 hsa ⊢;have HFA:=Qh hfa;have HSA:=Qh ((ap s.word.2).trans hsa);clear hfa hsa;have G3:=au (aP hg2 _) hg3;have p3:Blk w3 w2.heap.size 81 #[af s.word.2.word.1,.int .i64 0]:=bh hg3 (Blk.new _ _ _) (by omega);have hl3:=p3.lt;have H3:=Qh h3;generalize hgj:w2.heap.size=gj at hlj hw2 p3 hl3 ⊢;have HNE:=Qh (m7 DR1.out (g:=gj) (by omega));clear hgj hg3 h3 hg2 H2;obtain ⟨cj0,cj1⟩:=p3.c2;obtain ⟨fj0,fj1⟩:=p3.f2;have P3:=Qh p3;clear p3;go_wp2_with fail;clear cj0 cj1 fj0 fj1;(with_reducible refine (cT B _ gr (af s.L.name) (.slice A n c) (.slice A' n' c') (.slice A'' n'' c'') fa.2 (H3.out.bel1 ((Below.refl _ w3).setCell (p:=⟨gj,1,none⟩) hlj (.int .i64 fa.1))) [59]).mono ?_);rintro e w6 ⟨rfl,h6,hg6⟩;have G6:=Qh (au (cq G3 ((Below.refl _ w3).setCell (p:=⟨gj,1,none⟩) hw2 (.int .i64 fa.1))) hg6);have p6:=bh hg6 (P3.out.set_ 1 (.int .i64 fa.1)) (by omega);have H6:=Qh h6;have P6:=Qh p6;have HC:=Qh (show DrC w6 [af s.word.2.word.1,.int .i64 fa.1] ⟨s.word.2.word.1,fa.1⟩ from ⟨rfl,HNM.out⟩);have DR6:=Qh (DR1.out.tch (H1.out.tchR G6.out) (by decide) (fun _ _ x=>x));clear h6 hg6 p6;go_wp2_with fail;change Code.wp _ _ _ (dy _ _ _ _ _ _ _ _ _ _ _ _ _ _ _ _ _ _ _ _ _ _ _ _ _ _ _ _ _ _ _ _ _ _ _ _ _ _ _ _ _ _ _ _ _ _ _ _ _ _ _ _ _ _ _ _ _ _ _ _ _ _ _ _ _ _ _ _ _ _ _ _ _ _ _ _ _ _ _ _ _ (fun _=>undef)) _;refine cH (n:=12) (a:=7) (K:=2) (x0:=fun _=>undef) (R:=fun ri=>List.getD ((VE (.pointer (some ⟨gr,0,none⟩))) :: (VE (.pointer (some ⟨gr,0,none⟩))) :: (VE (.pointer (some ⟨gr,0,none⟩))) :: (VE (.pointer (some ⟨gr,1,none⟩))) :: (VE (.pointer (some ⟨gr,4,none⟩))) :: (VE (.slice A'' n'' c'')) :: (VE (.agg #[af s.word.2.word.1,.int .i64 fa.1])) :: VA :: VA :: (VE (.pointer (some ⟨gr,0,none⟩))) :: (VE (.pointer (some ⟨gr,1,none⟩))) :: (VE (.pointer (some ⟨gr,4,none⟩))) :: []) ri VA) (T:=fun k x wq=>TJ_ 81 DrC 2 B gj w6 [af s.word.2.word.1,.int .i64 fa.1] ⟨s.word.2.word.1,fa.1⟩ n'' s.L.drivers k (x 7) (x 8) wq) (by kernel_rfl) rfl ?_ ?_ ?_ (by decide) ?_ ?_ rfl ?_ ?_ ?_
 ·exact bV ⟨(fun _ _ _=>rfl),(fun _ _ _=>rfl),(fun _ _ _=>rfl),(fun _ _ _=>rfl),(fun _ _ _=>rfl),(fun _ _ _=>rfl),(fun _ _ _=>rfl),(fun _ _ _=>rfl),(fun _ _ _=>rfl),(fun _ _ _=>rfl),(fun _ _ _=>rfl),(fun _ _ _=>rfl),(fun h=>absurd h (by decide)),trivial⟩
 ·exact bV (eL _ 0 (by kernel_rfl))
 ·exact (fun j hj=>fR (by kernel_rfl) hj)
 ·intro j o hj ho
  obtain rfl:j=0:=by omega
  injection ho with ho;subst ho;exact ⟨⟨7,.data⟩,by simp,rfl,rfl⟩
 ·intro k x i v w hi h
  have e7:upd x i v 7=x 7:=dt _ _ (by omega);have e8:upd x i v 8=x 8:=dt _ _ (by omega);simp only [e7,e8];exact h
 ·refine bV ⟨?_,?_,?_,?_,?_,?_,?_,(fun _ h=>absurd h (by decide)),(fun _ h=>absurd h (by decide)),?_,?_,?_,(fun h=>absurd h (by decide)),trivial⟩
  ·intro _ _ k xf wq hT hd K hK
   (try dsimp only [dy]);go_simp;have hz:=hK.out _ rfl;exact hz
  ·intro _ _ k xf wq hT hd K hK
   (try dsimp only [dy]);go_simp;have hz:=hK.out _ rfl;exact hz
  ·intro _ _ k xf wq hT hd K hK
   have dq1:xf 1=.pointer (some ⟨gr,0,none⟩):=hd ⟨1,.data⟩ (by simp) rfl;(try dsimp only [dy]);(try simp only [dq1]);go_simp;have hz:=hK.out _ rfl;dsimp only [dy] at hz;simp only [dq1] at hz;exact hz
  ·intro _ _ k xf wq hT hd K hK
   have dq2:xf 2=.pointer (some ⟨gr,0,none⟩):=hd ⟨2,.data⟩ (by simp) rfl;(try dsimp only [dy]);(try simp only [dq2]);go_simp;have hz:=hK.out _ rfl;dsimp only [dy] at hz;simp only [dq2] at hz;exact hz
  ·intro _ _ k xf wq hT hd K hK
   have dq3:xf 3=.pointer (some ⟨gr,1,none⟩):=hd ⟨3,.data⟩ (by simp) rfl;(try dsimp only [dy]);(try simp only [dq3]);go_simp;have hz:=hK.out _ rfl;dsimp only [dy] at hz;simp only [dq3] at hz;exact hz
  ·intro _ _ k xf wq hT hd K hK
   have dq4:xf 4=.pointer (some ⟨gr,4,none⟩):=hd ⟨4,.data⟩ (by simp) rfl;have hc2:=(TJ_.rd (by decide) H6.out hT).cells;obtain ⟨_,hc2,hc3,hc4,_⟩:=hc2;(try dsimp only [dy]);(try simp only [dq4]);go_simp;have hz:=hK.out _ rfl;dsimp only [dy] at hz;simp only [dq4] at hz;exact hz
  ·intro _ _ k xf wq hT hd K hK
   obtain ⟨hd0,hd1⟩:=(TJ_.blk P6.out hT).c2;(try dsimp only [dy]);go_simp;have hz:=hK.out _ rfl;exact hz
  ·intro _ _ k xf wq hT hd K hK
   have dq0:xf 0=.pointer (some ⟨gr,0,none⟩):=hd ⟨0,.data⟩ (by simp) rfl;(try dsimp only [dy]);(try simp only [dq0]);go_simp;have hz:=hK.out _ rfl;dsimp only [dy] at hz;simp only [dq0] at hz;exact hz
  ·intro _ _ k xf wq hT hd K hK
   have dq9:xf 9=.pointer (some ⟨gr,0,none⟩):=hd ⟨9,.data⟩ (by simp) rfl;(try dsimp only [dy]);(try simp only [dq9]);go_simp;have hz:=hK.out _ rfl;dsimp only [dy] at hz;simp only [dq9] at hz;exact hz
  intro _ _ k xf wq hT hd K hK;have dq10:xf 10=.pointer (some ⟨gr,1,none⟩):=hd ⟨10,.data⟩ (by simp) rfl;(try dsimp only [dy]);(try simp only [dq10]);go_simp;have hz:=hK.out _ rfl;dsimp only [dy] at hz;simp only [dq10] at hz;exact hz
 ·intro k o hk ho
  obtain rfl | rfl:=(show k=0∨k=1 by omega)
  ·injection ho with ho
   subst ho;intro xf wq hT hd K hK;have hT:wq=w6.drew:=hT;subst hT;have dq6:xf 6=.agg #[af s.word.2.word.1,.int .i64 fa.1]:=hd ⟨6,.data⟩ (by simp) rfl;(try dsimp only [dy]);(try simp only [dq6]);go_simp;have hz:=hK.out (.slice (some ⟨w6.heap.size,0,none⟩) 1 1) (w6.drew.alloc (.cells #[af s.word.2.word.1,.int .i64 fa.1] 81)) trivial ⟨rfl,rfl⟩;dsimp only [dy] at hz;simp only [dq6] at hz;exact hz
  injection ho with ho;subst ho;intro xf wq hT hd K hK;obtain ⟨e7,ew⟩:TJ_ 81 DrC 2 B gj w6 [af s.word.2.word.1,.int .i64 fa.1] ⟨s.word.2.word.1,fa.1⟩ n'' s.L.drivers 1 (xf 7) (xf 8) wq:=hT;subst ew;have dq5:xf 5=.slice A'' n'' c'':=hd ⟨5,.data⟩ (by simp) rfl;obtain ⟨hl,xs,hown,hrow⟩:=DR6.out;have hown:OwJ noW w6.drew B 81 2 (.slice A'' n'' c'') n'' xs:=hown;have hrow:eZ DrC 2 w6.drew s.L.drivers xs:=hrow;have hlt:=H6.out.lt;have hBg:=H6.out.hB;have hds:w6.drew.heap.size=w6.heap.size:=rfl;rw [if_pos (show Region.wanted _ _=true from rfl)];refine dj _ noW _ _ _ rfl B 81 id (.agg #[.string ⟨#[]⟩,.int .i64 0]) 2 24 Tryz.underlying34 HID.out.1 HID.out.2.1 HID.out.2.2.1 HID.out.2.2.2 rfl (by omega) rfl (.slice A'' n'' c'') n'' xs dq5 (hown.belw ((Below.refl _ _).alloc Qr _)) ⟨w6.heap.size,0,none⟩ 1 1 [af s.word.2.word.1,.int .i64 fa.1] e7 rfl (World.news_of_block (heap_alloc_new w6.drew _)) (by simp [Value.oneCell']) rfl (by omega) (by have:=HP.out.cnt;unfold maxLen;omega) (by have:=HP.out.cnt;omega) (by simp;omega) ?_;intro g5 cap w5 hown5 hgrow _;have hp:=gh hl hown hrow (a:=⟨s.word.2.word.1,fa.1⟩) (cs:=[af s.word.2.word.1,.int .i64 fa.1]) (show DrC w6.drew _ (⟨s.word.2.word.1,fa.1⟩:aU) from HC.out) rfl hown5 hgrow (by omega) (fun _ _ _ _ x=>x);exact hK.out _ _ trivial ⟨some ⟨g5,0,none⟩,cap,rfl,hp.1,(P6.out.drew.alloc _).grown hgrow HNE.out,hp.2.1,((Below.refl B w6).drew).trans hp.2.2⟩
 intro o ho xf wq hT hr K hK;injection ho with ho;subst ho;obtain ⟨A5,c5,e8,hrow,_,ht,hb⟩:TJ_ 81 DrC 2 B gj w6 [af s.word.2.word.1,.int .i64 fa.1] ⟨s.word.2.word.1,fa.1⟩ n'' s.L.drivers 2 (xf 7) (xf 8) wq:=hT;have dq11:xf 11=.pointer (some ⟨gr,4,none⟩):=hr 11 (by decide);have RQ:=H6.out.other ht (by decide) hb;obtain ⟨_,hc2,hc3,hc4,_,hf2,hf3,hf4⟩:=RQ.cells;rw [e8] at hrow;have RQ':=Qh RQ;have HROW:=Qh hrow;clear RQ hrow hr;(try dsimp only [dy]);(try simp only [dq11,e8]);go_simp;refine hK.out _ _ ?_;go_wp2_with fail;go_end0;have t1:=H1.out.tchR G6.out;have t3:=RQ'.out.tchR (db (rg_refl gr wq) 4 (.slice A5 (n''+1) c5));have hst:=HSA.out.trans (aD fa.2 2 [59]);have hL:(PS.expect fa.2 2 [59]).L=s.L:=hst.2.2.2.trans HL1.out;have htk:=eS (s:=s) (by rw [HW1.out];decide);have hst1:=hst.1
 have eW:W=PS.addD (PS.expect fa.2 2 [59]) ⟨s.word.2.word.1,fa.1⟩:=by
  rw [← HW.out];unfold PS.item;rw [if_neg (by rw [HW1.out];decide),if_neg (by rw [HW1.out];decide),if_neg (by rw [HW1.out];decide),if_pos HW1.out];unfold PS.driver;simp only [HFA.out]
 subst eW;refine ⟨rfl,⟨A,n,c,A',n',c',A5,n''+1,c5,⟨?_,?_,?_,?_,?_,?_,?_⟩⟩,?_⟩
 ·show RdP B _ gr (af (PS.expect fa.2 2 [59]).L.name) _ _ _ _
  rw [hL];exact RQ'.out.put4 _ rfl rfl rfl
 ·show aO _ _ _ _ _ _ _ (PS.expect fa.2 2 [59]).L.bodies
  rw [hL];exact ((BD1.out.tch t1 (by decide) (fun _ _ x=>x.tch t1 (by decide))).tch ht (by decide) (fun _ _ x=>x.tch ht (by decide))).tch t3 (by decide) (fun _ _ x=>x.tch t3 (by decide))
 ·show aO _ _ _ _ _ _ _ (PS.expect fa.2 2 [59]).L.joints
  rw [hL];exact ((JT1.out.tch t1 (by decide) (fun _ _ x=>x)).tch ht (by decide) (fun _ _ x=>x)).tch t3 (by decide) (fun _ _ x=>x)
 ·show aO _ _ _ _ _ _ _ ((PS.expect fa.2 2 [59]).L.drivers ++ [⟨s.word.2.word.1,fa.1⟩])
  rw [hL];exact HROW.out.tch t3 (by decide) (fun _ _ x=>x)
 ·show NmL (PS.expect fa.2 2 [59]).L.name
  rw [hL];exact HP.out.nm
 ·show n+n'+(n''+1)+(PS.expect fa.2 2 [59]).toks.length≤_
  have h1:=HP.out.cnt;omega
 ·intro b hbm
  have hbm:b∈(PS.expect fa.2 2 [59]).L.bodies:=hbm;rw [hL] at hbm;exact HP.out.pts b hbm
 exact ((BW1.out.trans (dc G6.out (by have:=H1.out.lt;have:=H1.out.hB;omega) H1.out.hB)).trans hb).setCell (p:=⟨gr,4,none⟩) H1.out.hB _
theorem kM (B:Nat) (w:World) (gr:Nat) (s:PS) (A:Option Addr) (n c:Nat) (A':Option Addr) (n' c':Nat) (A'':Option Addr) (n'' c'':Nat) (h:RdL B w gr s A n c A' n' c' A'' n'' c'') (k1:s.word.1≠nK) (k2:s.word.1≠tg) (k3:s.word.1≠kI) (k4:s.word.1≠g9):Calls Tryz.prog 41 #[.pointer (some ⟨gr,0,none⟩)] w (j7 B w gr s.item):=by
 have hb0:(s.word.1 == [98,111,100,121])=false:=beq_eq_false_iff_ne.2 k1;have hb1:(s.word.1 == [112,105,110])=false:=beq_eq_false_iff_ne.2 k2;have hb2:(s.word.1 == [115,108,105,100,101])=false:=beq_eq_false_iff_ne.2 k3;have hb3:(s.word.1 == [100,114,105,118,101,114])=false:=beq_eq_false_iff_ne.2 k4;have HK:=Qh (show s.item=s.word.2.fail 2 by unfold PS.item;rw [if_neg k1,if_neg k2,if_neg k3,if_neg k4]);clear k1 k2 k3 k4;obtain ⟨i0,hi0,hz0,hz1,hz2⟩:=info_parts fY;obtain ⟨ij,hj0,hj1,hj2,hj3⟩:=info_parts f9;obtain ⟨id,hd0,hd1,hd2,hd3⟩:=info_parts gc;have HI:=Qh (And.intro hi0 (And.intro hz0 (And.intro hz1 hz2)));have HIJ:=Qh (And.intro hj0 (And.intro hj1 (And.intro hj2 hj3)));have HID:=Qh (And.intro hd0 (And.intro hd1 (And.intro hd2 hd3)));clear hi0 hz0 hz1 hz2 hj0 hj1 hj2 hj3 hd0 hd1 hd2 hd3;have HL1:=Qh (ap s).2.2.2;have HL2:=Qh ((ap s).trans (ap s.word.2)).2.2.2;have HP:=Qh h;obtain ⟨W,hW⟩:∃ W,s.item=W:=⟨_,rfl⟩;rw [hW];have HW:=Qh hW;clear h hW;go_in;go_wp2_with fail;(with_reducible refine (bK B _ gr (af s.L.name) (.slice A n c) (.slice A' n' c') (.slice A'' n'' c'') s HP.out.rd).mono ?_);rintro e w1 ⟨rfl,h1,hg1⟩;have H1:=Qh h1;have hgl:=h1.lt;have BW1:=Qh (dc hg1 (B:=B) (by have:=HP.out.rd.lt;have:=HP.out.rd.hB;omega) HP.out.rd.hB);have t0:=HP.out.rd.tchR hg1;have BD1:=Qh (HP.out.bd.tch t0 (by decide) (fun _ _ x=>x.tch t0 (by decide)));have JT1:=Qh (HP.out.jt.tch t0 (by decide) (fun _ _ x=>x));have DR1:=Qh (HP.out.dr.tch t0 (by decide) (fun _ _ x=>x));obtain ⟨Ak,nk,ck,hbk,_⟩:=h1.blk;have HBk:=Qh hbk;clear h1 hg1 t0 hbk;have hn:=aI s.word.1;have HB1:=HBk.out;clear HBk;obtain ⟨Ak,nk,ck,hbk,htk⟩:=H1.out.blk;have HBk:=Qh hbk;have HTk:=Qh htk;clear hbk htk HB1;go_wp2_with fail;(with_reducible refine (dk _ gr (.slice Ak nk ck) (af s.L.name) (.slice A n c) (.slice A' n' c') (.slice A'' n'' c'') s.word.2.x 2 HBk.out (by decide)).mono ?_);rintro e w2 ⟨rfl,hb2,g2⟩;have HB2:=Qh hb2;clear hb2;go_wp2_with fail;go_end0;have t1:=H1.out.tchR g2;have eW:W=s.word.2.fail 2:=by rw [← HW.out,HK.out]
 have R2:RdP B w2 gr (af s.L.name) (.slice A n c) (.slice A' n' c') (.slice A'' n'' c'') (s.word.2.fail 2):=by
  have hb2:=HB2.out;unfold PS.fail;split
  ·rename_i hx
   rw [if_pos hx] at hb2;exact ⟨⟨Ak,nk,ck,hb2,HTk.out.rg H1.out.hB g2⟩,H1.out.mx.rg H1.out.hB g2,H1.out.hB,H1.out.len,H1.out.txt,H1.out.hw⟩
  rename_i hx;rw [if_neg hx] at hb2;exact ⟨⟨Ak,nk,ck,hb2,HTk.out.rg H1.out.hB g2⟩,H1.out.mx.rg H1.out.hB g2,H1.out.hB,H1.out.len,H1.out.txt,H1.out.hw⟩
 have hst:=(ap s).trans (da s.word.2 2 (by decide) 0);have hL:(s.word.2.fail 2).L=s.L:=hst.2.2.2;subst eW;refine ⟨rfl,⟨A,n,c,A',n',c',A'',n'',c'',⟨by rw [hL];exact R2,?_,?_,?_,by rw [hL];exact HP.out.nm,?_,by rw [hL];exact HP.out.pts⟩⟩,?_⟩
 ·rw [hL];exact BD1.out.tch t1 (by decide) (fun _ _ x=>x.tch t1 (by decide))
 ·rw [hL];exact JT1.out.tch t1 (by decide) (fun _ _ x=>x)
 ·rw [hL];exact DR1.out.tch t1 (by decide) (fun _ _ x=>x)
 ·have h1:=HP.out.cnt
  have h2:=hst.1;omega
 exact BW1.out.trans (dc g2 (by have:=H1.out.lt;have:=H1.out.hB;omega) H1.out.hB)
theorem tq (B:Nat) (w:World) (gr:Nat) (s:PS) (A:Option Addr) (n c:Nat) (A':Option Addr) (n' c':Nat) (A'':Option Addr) (n'' c'':Nat) (h:RdL B w gr s A n c A' n' c' A'' n'' c''):Calls Tryz.prog 41 #[.pointer (some ⟨gr,0,none⟩)] w (j7 B w gr s.item):=by
 by_cases h1:s.word.1=nK
 ·exact kL B w gr s A n c A' n' c' A'' n'' c'' h h1
 by_cases h2:s.word.1=tg
 ·exact ma B w gr s A n c A' n' c' A'' n'' c'' h h2
 by_cases h3:s.word.1=kI
 ·exact jm B w gr s A n c A' n' c' A'' n'' c'' h h3
 by_cases h4:s.word.1=g9
 ·exact iQ B w gr s A n c A' n' c' A'' n'' c'' h h4
 exact kM B w gr s A n c A' n' c' A'' n'' c'' h h1 h2 h3 h4
theorem rR:∀ (f:Nat) (r:List UInt8) (line col:Nat) (l:List Tkn),toks f r line col=.ok l→(l.map fun t=>t.text.length).sum≤r.length∧∀ t∈l,0 < t.text.length:=by
 intro f
 induction f with
 | zero=>intro r line col l h;unfold toks at h;injection h with h;subst h;simp
 | succ f ih =>
  intro r line col l h
  cases r with
  | nil=>unfold toks at h;injection h with h;subst h;simp
  | cons c s =>
   unfold toks at h;split at h
   ·have:=ih _ _ _ _ h
    refine ⟨?_,this.2⟩;rw [List.length_cons];omega
   split at h
   ·have:=ih _ _ _ _ h
    refine ⟨?_,this.2⟩;rw [List.length_cons];omega
   split at h
   ·have:=ih _ _ _ _ h
    refine ⟨?_,this.2⟩;rw [List.length_drop] at this;omega
   split at h
   ·cases h
   rename_i k n hf;have hn:=dD hf
   cases hx:toks f ((c :: s).drop n) line (col+n) with
   | err x=>rw [hx] at h;cases h
   | ok l' =>
    rw [hx] at h;injection h with h;subst h;have:=ih _ _ _ _ hx;have hl:((c :: s).take n).length=n:=by rw [List.length_take];omega
    rw [List.length_drop] at this;refine ⟨?_,fun t ht=>?_⟩
    ·simp only [List.map_cons,List.sum_cons,hl];omega
    rcases List.mem_cons.1 ht with e | e
    ·subst e;show 0 < ((c :: s).take n).length;omega
    exact this.2 t e
theorem iR:∀ {l:List Tkn},(∀ t∈l,0 < t.text.length)→l.length≤(l.map fun t=>t.text.length).sum
 | [],_=>by simp
 | t :: l,h=>by
  have h1:=iR (l:=l) (fun x hx=>h x (by simp [hx]));have h2:=h t (by simp);simp only [List.length_cons,List.map_cons,List.sum_cons];omega
theorem iT {s:List UInt8}{l:List Tkn}(h:dR s=.ok l):l.length≤s.length∧(l.map fun t=>t.text.length).sum≤s.length:=by
 obtain ⟨h1,h2⟩:=rR _ _ _ _ _ h;have:=iR h2;omega
theorem aW.len {s:List UInt8}{x:Int}{l:List Tkn}(h:aW s x l):l.length≤65536:=by
 rcases h with ⟨_,_,rfl⟩ | ⟨h,ht,_⟩ | ⟨_,_,_,_,rfl⟩
 ·simp
 ·have:=(iT ht).1;omega
 simp
def LkY (k:Nat) (w:World) (A:Option Addr) (n c:Nat) (B:Option Addr) (p d:Nat) (C:Option Addr) (q e:Nat) (L:aj):Prop :=
  ∀ (T:TypeId→Bool) (w2:World),Tch T w w2→T 62=false→T 79=false→T 81=false→T 67=false→LkS k w2 A n c B p d C q e L
theorem LkY.out {k:Nat}{w:World}{A B C:Option Addr}{n c p d q e:Nat}{L:aj}(h:LkY k w A n c B p d C q e L):LkS k w A n c B p d C q e L:=h (fun _=>false) w (Tch.refl w) rfl rfl rfl rfl
theorem LkY.tch {T:TypeId→Bool}{k:Nat}{w w':World}{A B C:Option Addr}{n c p d q e:Nat}{L:aj}(h:LkY k w A n c B p d C q e L) (t:Tch T w w') (h1:T 62=false) (h2:T 79=false) (h3:T 81=false) (h4:T 67=false):LkY k w' A n c B p d C q e L:=by
 intro T2 w2 t2 g1 g2 g3 g4;refine h (fun t=>T t || T2 t) w2 ((t.mono fun _ ht=>by simp [ht]).trans (t2.mono fun _ ht=>by simp [ht])) ?_ ?_ ?_ ?_ <;> simp [h1,h2,h3,h4,g1,g2,g3,g4]
def m8 (w:World) (v:Value) (L:aj) (e:Ending) (w':World):Prop :=
  ∃ A n c A' n' c' A'' n'' c'',e=.returned (.tuple #[.agg #[af L.name,.slice A n c,.slice A' n' c',.slice A'' n'' c''],v])∧LkY 130 w' A n c A' n' c' A'' n'' c'' L∧Below w.heap.size w w'
theorem tr {l:List Tkn}{t:Tkn}(h:t∈l):t.text.length≤(l.map fun t=>t.text.length).sum:=by
 induction l with
 | nil=>cases h
 | cons a l ih =>
  rw [List.map_cons,List.sum_cons];rcases List.mem_cons.1 h with rfl | h
  ·omega
  have:=ih h;omega
theorem pm {s:List UInt8}{l:List Tkn}(h:aW s 0 l):∀ t∈l,NmL t.text:=by
 intro t ht;rcases h with ⟨_,h,_⟩ | ⟨h,hk,_⟩ | ⟨_,_,_,_,rfl⟩
 ·cases h
 ·have h1:=(iT hk).2
  have h2:=tr ht;show t.text.length < _;omega
 cases ht
theorem tt (w:World) (k:Nat):LkS k w none 0 0 none 0 0 none 0 0 L0:=⟨by show ([]:List UInt8).length < _;decide,⟨rfl,Qr,fun h=>absurd h (by omega)⟩,⟨rfl,Qr,fun h=>absurd h (by omega)⟩,⟨rfl,Qr,fun h=>absurd h (by omega)⟩⟩
theorem LkY.zero (k:Nat) (w:World):LkY k w none 0 0 none 0 0 none 0 0 L0:=fun _ w2 _ _ _ _ _=>tt w2 k
theorem rS {w:World}{A:Option Addr}{n c:Nat}{s:List UInt8}{l:List Tkn}(hs:aW s 0 l) (ht:TkS w A n c l) (hmx:Mx w) (L:aj) (hL:L.name=[]∧L.bodies=[]∧L.joints=[]∧L.drivers=[]):RdL w.heap.size (w.alloc (.cells #[.slice A n c,.string ⟨#[]⟩,.slice none 0 0,.slice none 0 0,.slice none 0 0,.nilIface] 87)) w.heap.size ⟨l,L,0⟩ none 0 0 none 0 0 none 0 0:=by
 obtain ⟨h1,h2,h3,h4⟩:=hL;have hb:Below w.heap.size w (w.alloc (.cells #[.slice A n c,.string ⟨#[]⟩,.slice none 0 0,.slice none 0 0,.slice none 0 0,.nilIface] 87)):=(Below.refl _ _).alloc Qr _;refine ⟨⟨⟨A,n,c,?_,(TkA.of_tks ht).belB hb⟩,(MxA.of_mx hmx).belB hb,Qr,hs.len,pm hs,by rw [h1];exact ⟨rfl,rfl,rfl,rfl⟩⟩,by rw [h2];exact aO.nil,by rw [h3];exact aO.nil,by rw [h4];exact aO.nil,by rw [h1];show ([]:List UInt8).length < _;decide,?_,by rw [h2];intro b hb;cases hb⟩
 ·rw [h1];exact Blk.new _ _ _
 have:=hs.len;show 0+0+0+l.length≤_;omega
theorem RdL.lk {B:Nat}{w:World}{gr:Nat}{s:PS}{A A' A'':Option Addr}{n c n' c' n'' c'':Nat}(h:RdL B w gr s A n c A' n' c' A'' n'' c''):LkS 130 w A n c A' n' c' A'' n'' c'' s.L:=⟨h.nm,h.bd.bds,h.jt.jts,h.dr.drs⟩
theorem RdL.call {B:Nat}{w w':World}{gr:Nat}{s s':PS}{A A' A'':Option Addr}{n c n' c' n'' c'':Nat}(h:RdL B w gr s A n c A' n' c' A'' n'' c'') (h':RdP B w' gr (af s.L.name) (.slice A n c) (.slice A' n' c') (.slice A'' n'' c'') s') (k:w.grownBy w' (some gr)) (hL:s'.L=s.L) (hl:s'.toks.length≤s.toks.length):RdL B w' gr s' A n c A' n' c' A'' n'' c'':=by
 have t:=h.rd.tchR k;exact ⟨by rw [hL];exact h',by rw [hL];exact h.bd.tch t (by decide) (fun _ _ x=>x.tch t (by decide)),by rw [hL];exact h.jt.tch t (by decide) (fun _ _ x=>x),by rw [hL];exact h.dr.tch t (by decide) (fun _ _ x=>x),by rw [hL];exact h.nm,by have:=h.cnt;omega,by rw [hL];exact h.pts⟩
theorem RdL.below {B:Nat}{w w':World}{gr:Nat}{s:PS}{A A' A'':Option Addr}{n c n' c' n'' c'':Nat}(h:RdL B w gr s A n c A' n' c' A'' n'' c'') (k:w.grownBy w' (some gr)):Below B w w':=dc k (by have:=h.rd.lt;have:=h.rd.hB;omega) h.rd.hB
theorem RdL.name {B:Nat}{w:World}{gr:Nat}{s:PS}{A A' A'':Option Addr}{n c n' c' n'' c'':Nat}(h:RdL B w gr s A n c A' n' c' A'' n'' c'') (nm:List UInt8) (hn:NmL nm):RdL B (w.setCell ⟨gr,1,none⟩ (af nm)) gr { s with L:={ s.L with name:=nm } } A n c A' n' c' A'' n'' c'':=by
 have t:=h.rd.tchR (db (rg_refl gr w) 1 (af nm));exact ⟨h.rd.put1 _ rfl rfl rfl,h.bd.tch t (by decide) (fun _ _ x=>x.tch t (by decide)),h.jt.tch t (by decide) (fun _ _ x=>x),h.dr.tch t (by decide) (fun _ _ x=>x),hn,h.cnt,h.pts⟩
theorem RdL.belw {B:Nat}{w w':World}{gr:Nat}{s:PS}{A A' A'':Option Addr}{n c n' c' n'' c'':Nat}(h:RdL B w gr s A n c A' n' c' A'' n'' c'') (k:Below w.heap.size w w'):RdL B w' gr s A n c A' n' c' A'' n'' c'':=by
 have t:Tch (fun _=>false) w w':=Tch.below k;exact ⟨h.rd.belw k,h.bd.tch t rfl (fun _ _ x=>x.tch t rfl),h.jt.tch t rfl (fun _ _ x=>x),h.dr.tch t rfl (fun _ _ x=>x),h.nm,h.cnt,h.pts⟩
theorem RdL.lkY {B:Nat}{w w':World}{gr:Nat}{s:PS}{A A' A'':Option Addr}{n c n' c' n'' c'':Nat}(h:RdL B w gr s A n c A' n' c' A'' n'' c'') (t:Tch (dZ 36) w w'):LkY 130 w' A n c A' n' c' A'' n'' c'' s.L:=by
 intro T w2 t2 h1 h2 h3 h4;have u:Tch (fun x=>dZ 36 x || T x) w w2:=(t.mono fun _ k=>by simp [k]).trans (t2.mono fun _ k=>by simp [k]);have e1:(dZ 36 62 || T 62)=false:=by rw [h1];decide
 have e2:(dZ 36 79 || T 79)=false:=by rw [h2];decide
 have e3:(dZ 36 81 || T 81)=false:=by rw [h3];decide
 have e4:(dZ 36 67 || T 67)=false:=by rw [h4];decide
 exact ⟨h.nm,(h.bd.tch u e1 (fun _ _ x=>x.tch u e4)).bds,(h.jt.tch u e2 (fun _ _ x=>x)).jts,(h.dr.tch u e3 (fun _ _ x=>x)).drs⟩
theorem wA {w:World}{g:Nat}{t:TypeId}{a0 a1 a2 a3:Value}(z:Blk w g t #[a0,a1,a2,a3]) (hz:noW a0=true∧noW a1=true∧noW a2=true∧noW a3=true) (u0 u1 u2 u3:Value):Tch (dZ t) w ((((w.setCell ⟨g,0,none⟩ u0).setCell ⟨g,1,none⟩ u1).setCell ⟨g,2,none⟩ u2).setCell ⟨g,3,none⟩ u3) :=
 Tch.of_ne (by simp [World.setCell]) z (by simp [dZ]) (by simp [hz]) fun g' _ hne=>by
  rw [Below.heap_setCell _ _ _ _ hne,Below.heap_setCell _ _ _ _ hne,Below.heap_setCell _ _ _ _ hne,Below.heap_setCell _ _ _ _ hne]
theorem tu {B g:Nat}{a w:World}(h:Below B a w) (hB:B≤g) (u0 u1 u2 u3:Value):Below B a ((((w.setCell ⟨g,0,none⟩ u0).setCell ⟨g,1,none⟩ u1).setCell ⟨g,2,none⟩ u2).setCell ⟨g,3,none⟩ u3) :=
 (((h.setCell (p:=⟨g,0,none⟩) hB u0).setCell (p:=⟨g,1,none⟩) hB u1).setCell (p:=⟨g,2,none⟩) hB u2).setCell (p:=⟨g,3,none⟩) hB u3
theorem mb (w:World) (s:List UInt8) (x:Int) (l:List Tkn) (hs:aW s x l) (hx:x≠0):Calls Tryz.prog 15 #[af s] w (m8 w (ba x) L0):=by
 have HS:=Qh hs;have HX:=Qh hx;rw [eVp hx];clear hs hx;go_in;go_wp2_with fail;(with_reducible refine (jY _ s x l HS.out).mono ?_);rintro e w1 ⟨A,n,c,rfl,_,hb1⟩;rw [eVp HX.out];have z1:Blk w1 w.heap.size 36 #[.string ⟨#[]⟩,.slice none 0 0,.slice none 0 0,.slice none 0 0]:=(am _ _ _ (by simp)).below hb1 (by simp);have cz0:=z1.c4;have fz0:=z1.f4;have q1:=hb1.q1;clear hb1 z1;go_wp2_with fail;refine bodyPost_ret (v:=.tuple #[.agg #[.string ⟨#[]⟩,.slice none 0 0,.slice none 0 0,.slice none 0 0],.iface 49 (.int .i64 x)]) (by simp [results,Tryz.results15,go_sem, *] <;> trivial) rfl ?_;exact ⟨_,_,_,_,_,_,_,_,_,rfl,LkY.zero _ _,(((q1.setCell (p:=⟨w.heap.size,0,none⟩) Qr _).setCell (p:=⟨w.heap.size,1,none⟩) Qr _).setCell (p:=⟨w.heap.size,2,none⟩) Qr _).setCell (p:=⟨w.heap.size,3,none⟩) Qr _⟩
theorem eH (w:World) (s:List UInt8) (l:List Tkn) (hmx:Mx w) (hs:aW s 0 l) (x:Int) (L:aj) (h:((cA l).x≠0∧x=(cA l).x∧L=L0)∨((cA l).x=0∧cf (cA l).L≠0∧x=cf (cA l).L∧L=L0)∨((cA l).x=0∧cf (cA l).L=0∧x=0∧L=(cA l).L)):Calls Tryz.prog 15 #[af s] w (m8 w (ba x) L):=by
 have HS:=Qh hs;have HM:=Qh hmx;obtain ⟨R,hR⟩:∃ R,cA l=R:=⟨_,rfl⟩;rw [hR] at h;have HR:=Qh hR;have HH:=Qh h;clear hs hmx hR h;go_in;go_wp2_with fail;(with_reducible refine (jY _ s 0 l HS.out).mono ?_);rintro e w1 ⟨A,n,c,rfl,ht,hb1⟩;rw [bH];have z1:Blk w1 w.heap.size 36 #[.string ⟨#[]⟩,.slice none 0 0,.slice none 0 0,.slice none 0 0]:=(am _ _ _ (by simp)).below hb1 (by simp);have q1:=hb1.q1;have hz1:=z1.lt;have H1:=Qh (rS HS.out ht (HM.out.belw q1) L0 ⟨rfl,rfl,rfl,rfl⟩);have Z1:=Qh (z1.alloc (.cells #[.slice A n c,.string ⟨#[]⟩,.slice none 0 0,.slice none 0 0,.slice none 0 0,.nilIface] 87));have Q1:=Qh (q1.alloc q1.size (.cells #[.slice A n c,.string ⟨#[]⟩,.slice none 0 0,.slice none 0 0,.slice none 0 0,.nilIface] 87));clear hb1 z1 q1 ht;go_wp2_with fail;(with_reducible refine (jZ w1.heap.size _ w1.heap.size _ _ _ _ ⟨l,L0,0⟩ H1.out.rd 0 0 rfl [108,105,110,107,97,103,101]).mono ?_);rintro e w2 ⟨rfl,h2,hg2⟩;have H2:=Qh (H1.out.call h2 hg2 (aD _ 0 _).sameL (aD _ 0 _).1);have B2:=H1.out.below hg2;have Z2:=Qh (Z1.out.below B2 hz1);have Q2:=Qh (Q1.out.trans (B2.mono (by omega)));have hl2:=h2.lt;clear h2 hg2 B2 Z1 Q1 H1;generalize hgr:w1.heap.size=gr at hz1 H2 hl2 ⊢;have hs1:(⟨l,L0,0⟩:PS).expect 0 [108,105,110,107,97,103,101]=(⟨l,L0,0⟩:PS).expect 0 fV:=rfl;rw [hs1] at H2;clear hs1;have HR1:=HR.out;unfold cA at HR1;simp only at HR1;have hst1:=aD (⟨l,L0,0⟩:PS) 0 fV;generalize (⟨l,L0,0⟩:PS).expect 0 fV=s1 at H2 HR1 hst1;have HR2:=Qh HR1;have HST1:=Qh hst1;clear HR1 hst1 HR;go_wp2_with fail;(with_reducible refine (bK gr _ gr _ _ _ _ s1 H2.out.rd).mono ?_);rintro e w3 ⟨rfl,h3,hg3⟩;have hnm:=dX H2.out.rd.txt;have H3:=Qh (H2.out.call h3 hg3 (ap _).sameL (ap _).1);have B3:=H2.out.below hg3;have Z3:=Qh (Z2.out.below B3 hz1);have Q3:=Qh (Q2.out.trans (B3.mono (by omega)));have H3n:=Qh (H3.out.name s1.word.1 hnm);have hl3:=h3.lt;obtain ⟨cn1,_,_,_,fn1,_⟩:=h3.cells;clear h3 hg3 B3 hnm;go_wp2_with fail;clear cn1 fn1;(with_reducible refine (cT gr _ gr _ _ _ _ _ H3n.out.rd [59]).mono ?_);rintro e w4 ⟨rfl,h4,hg4⟩;have H4:=Qh (H3n.out.call h4 hg4 (aD _ 2 _).sameL (aD _ 2 _).1);have B4:=H3n.out.below hg4;have hz3:=Z3.out.far (p:=⟨gr,1,none⟩) (by show w.heap.size≠gr;omega) (af s1.word.1);have Z4:=Qh (hz3.below B4 hz1);have Q4:=Qh ((Q3.out.setCell (p:=⟨gr,1,none⟩) (by show w.heap.size≤gr;omega) (af s1.word.1)).trans (B4.mono (by omega)))
 have hlen:s1.word.2.toks.length < l.length+1:=by
  have h1:=HST1.out.1;have h2:=(ap s1).1;have h3:s1.toks.length≤l.length:=h1;omega
 have hst4:=(aD (⟨s1.word.2.toks,⟨s1.word.1,s1.word.2.L.bodies,s1.word.2.L.joints,s1.word.2.L.drivers⟩,s1.word.2.x⟩:PS) 2 [59]).1;clear h4 hg4 B4 H3n H3 H2 Z2 Q2 Z3 Q3 hz3 HST1;generalize (⟨s1.word.2.toks,⟨s1.word.1,s1.word.2.L.bodies,s1.word.2.L.joints,s1.word.2.L.drivers⟩,s1.word.2.x⟩:PS).expect 2 [59]=s4 at H4 HR2 hst4
 have hlen4:s4.toks.length < l.length+1:=by
  have h3:s4.toks.length≤s1.word.2.toks.length:=hst4;omega
 clear hst4 hlen;go_wp2_with fail;go_loopw [] (fun wr=>∃ f s' A n c A' n' c' A'' n'' c'',RdL gr wr gr s' A n c A' n' c' A'' n'' c''∧(s'.x=0→s'.toks.length < f)∧Hid (PS.items f s'=R)∧Below w.heap.size w wr∧Blk wr w.heap.size 36 #[.string ⟨#[]⟩,.slice none 0 0,.slice none 0 0,.slice none 0 0]) (fun wr=>mOf gr wr)
 case atStart=>exact ⟨l.length+1,s4,_,_,_,_,_,_,_,_,_,H4.out,fun _=>hlen4,HR2,Q4.out,Z4.out⟩
 case round =>
  clear H4 HR2 Q4 Z4 hlen4;obtain ⟨f,s',A,n,c,A',n',c',A'',n'',c'',hrd,hf,HRr,hq,hz⟩:=hrel;rename World=>wr;have HRD:=Qh hrd;have HQ:=Qh hq;have HZ:=Qh hz;have HF:=Qh hf;clear hrd hq hz hf;by_cases hmr:s'.x=0∧s'.toks≠[]
  ·have HMR:=Qh hmr
   clear hmr;go_wp2_with fail;(with_reducible refine (nP gr _ gr _ _ _ _ s' HRD.out.rd true (by simp only [HMR.out,and_self,decide_true,ne_eq,not_false_eq_true])).mono ?_);rintro e w5 ⟨rfl,h5,hg5⟩;have H5:=Qh (HRD.out.call h5 hg5 rfl Qr);have B5:=HRD.out.below hg5;clear h5 hg5;go_wp2_with fail;(with_reducible refine (tq gr _ gr s' A n c A' n' c' A'' n'' c'' H5.out).mono ?_);rintro e w6 ⟨rfl,⟨A5,n5,c5,A6,n6,c6,A7,n7,c7,h6⟩,hb6⟩;have H6:=Qh h6;have B6:=B5.trans hb6;clear h6 hb6;go_wp2_with fail;have hil:=rM s';have hff:=HF.out HMR.out.1;have hst:=mX (f:=f) (by omega) HMR.out;rw [HRr.out] at hst;go_roundw
   case rel=>exact ⟨f - 1,s'.item,_,_,_,_,_,_,_,_,_,H6.out,fun hx=>by have:=hil.2 hx;omega,Qh hst.symm,HQ.out.trans (B6.mono (by omega)),HZ.out.below B6 hz1⟩
   case measure =>
    rw [H6.out.rd.meas,HRD.out.rd.meas,if_pos HMR.out.1];have h8:=hil.1;by_cases hx:s'.item.x=0
    ·have h9:=hil.2 hx
     rw [if_pos hx];omega
    rw [if_neg hx];omega
  have hend:=pi (f:=f) hmr;rw [HRr.out] at hend;subst hend;have HMR:=Qh hmr;clear hmr;go_wp2_with fail;(with_reducible refine (nP gr _ gr _ _ _ _ R HRD.out.rd false (decide_eq_false HMR.out)).mono ?_);rintro e w5 ⟨rfl,h5,hg5⟩;have B5:=HRD.out.below hg5;have H5:=Qh (HRD.out.call h5 hg5 rfl Qr);have Q5:=Qh (HQ.out.trans (B5.mono (by omega)));have z5:=HZ.out.below B5 hz1;have Z5:=Qh z5;obtain ⟨D5,m5,d5,hb5,_⟩:=h5.blk;obtain ⟨_,g1,g2,g3,g4,g5⟩:=hb5.c6;have hl5:=h5.lt;obtain ⟨cz0,cz1,cz2,cz3⟩:=z5.c4;obtain ⟨fz0,fz1,fz2,fz3⟩:=z5.f4;have hne:¬ gr=w.heap.size:=by omega
  clear h5 hg5 B5 z5 hb5 HRD HQ HZ HMR HF;rcases HH.out with ⟨hx,rfl,rfl⟩ | ⟨hx,hc,rfl,rfl⟩ | ⟨hx,hc,rfl,rfl⟩
  ·rw [eVp hx] at g5
   have HX:=Qh hx;clear hx;go_wp2_with fail;go_region
   all_goals
    go_wp2_with fail;refine bodyPost_ret (v:=.tuple #[.agg #[.string ⟨#[]⟩,.slice none 0 0,.slice none 0 0,.slice none 0 0],.iface 49 (.int .i64 R.x)]) (by simp [results,Tryz.results15,go_sem, *] <;> trivial) rfl ?_;rw [eVp HX.out];exact ⟨_,_,_,_,_,_,_,_,_,rfl,LkY.zero _ _,by first | exact tu Q5.out Qr _ _ _ _ | exact tu Q5.out.drew Qr _ _ _ _⟩
  ·rw [hx,bH] at g5
   clear hx;have HCK:=Qh hc;clear hc;go_wp2_with fail;(with_reducible refine (g7 _ A n c A' n' c' A'' n'' c'' R.L 130 H5.out.lk (by decide) (by decide) _ rfl).mono ?_);rintro e w6 ⟨rfl,hb6⟩;rw [eVp HCK.out];have z6:=Z5.out.below hb6 (by omega);obtain ⟨cy0,cy1,cy2,cy3⟩:=z6.c4;obtain ⟨fy0,fy1,fy2,fy3⟩:=z6.f4;have Q6:=Qh (Q5.out.trans (hb6.mono Q5.out.size));clear hb6 z6 cz0 cz1 cz2 cz3 fz0 fz1 fz2 fz3 g1 g2 g3 g4 g5;go_wp2_with fail;refine bodyPost_ret (v:=.tuple #[.agg #[.string ⟨#[]⟩,.slice none 0 0,.slice none 0 0,.slice none 0 0],.iface 49 (.int .i64 (cf R.L))]) (by simp [results,Tryz.results15,go_sem, *] <;> trivial) rfl ?_;rw [eVp HCK.out];exact ⟨_,_,_,_,_,_,_,_,_,rfl,LkY.zero _ _,tu Q6.out Qr _ _ _ _⟩
  rw [hx,bH] at g5;clear hx;have HCK:=Qh hc;clear hc;go_wp2_with fail;(with_reducible refine (g7 _ A n c A' n' c' A'' n'' c'' R.L 130 H5.out.lk (by decide) (by decide) 0 HCK.out).mono ?_);rintro e w6 ⟨rfl,hb6⟩;rw [bH];have z6:=Z5.out.below hb6 (by omega);obtain ⟨cy0,cy1,cy2,cy3⟩:=z6.c4;obtain ⟨fy0,fy1,fy2,fy3⟩:=z6.f4;have H6:=Qh (H5.out.belw hb6);have Z6:=Qh z6;obtain ⟨k1,k2,k3,k4,_⟩:=H6.out.rd.cells;have Q6:=Qh (Q5.out.trans (hb6.mono Q5.out.size));clear hb6 z6 cz0 cz1 cz2 cz3 fz0 fz1 fz2 fz3 g1 g2 g3 g4 g5;go_wp2_with fail;refine bodyPost_ret (v:=.tuple #[.agg #[af R.L.name,.slice A n c,.slice A' n' c',.slice A'' n'' c''],.nilIface]) (by simp [results,Tryz.results15,go_sem, *] <;> trivial) rfl ?_;exact ⟨_,_,_,_,_,_,_,_,_,rfl,H6.out.lkY (wA Z6.out ⟨rfl,rfl,rfl,rfl⟩ _ _ _ _),tu Q6.out Qr _ _ _ _⟩
theorem mc (w:World) (s:List UInt8) (x:Int) (L:aj) (hmx:Mx w) (h:cG s x L):Calls Tryz.prog 15 #[af s] w (m8 w (ba x) L):=by
 rcases h with ⟨l,hs,hx,rfl⟩ | ⟨l,hs,hr,hx,rfl⟩ | ⟨l,hs,hr,hc,hx,rfl⟩ | ⟨l,hs,hr,hc,rfl,rfl⟩
 ·exact mb w s x l hs hx
 ·exact eH w s l hmx hs x L0 (.inl ⟨by rw [hr];exact hx,hr.symm,rfl⟩)
 ·exact eH w s l hmx hs x L0 (.inr (.inl ⟨hr,by rw [hc];exact hx,hc.symm,rfl⟩))
 exact eH w s l hmx hs 0 _ (.inr (.inr ⟨hr,hc,rfl,rfl⟩))
def LkC (k:Nat) (w:World) (cs:List Value) (L:aj):Prop:=∃ A n c B p d C q e,cs=[af L.name,.slice A n c,.slice B p d,.slice C q e]∧LkY k w A n c B p d C q e L
theorem LkC.tch {T:TypeId→Bool}{k:Nat}{w w':World}{cs:List Value}{L:aj}(h:LkC k w cs L) (t:Tch T w w') (h1:T 62=false) (h2:T 79=false) (h3:T 81=false) (h4:T 67=false):LkC k w' cs L:=by
 obtain ⟨A,n,c,B,p,d,C,q,e,h0,hL⟩:=h;exact ⟨A,n,c,B,p,d,C,q,e,h0,hL.tch t h1 h2 h3 h4⟩
theorem LkC.at_ {k:Nat}{w:World}{cs:List Value}{L:aj}{g o:Nat}(x:LkC k w cs L) (hc:∀ j u,cs[j]?=some u→w.cell? ⟨g,o+j,none⟩=some u):fo k w g o L:=by
 obtain ⟨A,n,c,B,p,d,C,q,e,rfl,hL⟩:=x;exact ⟨A,n,c,B,p,d,C,q,e,hc 0 _ rfl,hc 1 _ rfl,hc 2 _ rfl,hc 3 _ rfl,hL.out⟩
abbrev po (k:Nat) (w:World) (base:Nat) (v:Value) (n:Nat) (Ls:List aj):Prop:=aO 36 (LkC k) 4 w base v n Ls
theorem aO.lks {k:Nat}{w:World}{base:Nat}{A:Option Addr}{n c:Nat}{Ls:List aj}(h:po k w base (.slice A n c) n Ls):SlS (fo k) 4 w A n c Ls:=(h.slT (P:=fo k) fun _ _ _ _ x hc=>x.at_ hc).sl fun _ _ _ x=>x
theorem aO.lkb {k:Nat}{w w':World}{base:Nat}{v:Value}{n:Nat}{Ls:List aj}(h:po k w base v n Ls) (hb:Below w.heap.size w w'):po k w' base v n Ls:=h.tch (T:=fun _=>false) (Tch.below hb) rfl fun _ _ x=>x.tch (Tch.below (T:=fun _=>false) hb) rfl rfl rfl rfl
theorem tw:(Tryz.prog.info? 36).map (fun i=>(i.zero,i.size,i.bytes))=some (some (.agg #[.string ⟨#[]⟩,.slice none 0 0,.slice none 0 0,.slice none 0 0]),4,88):=by kernel_rfl
theorem aO.more {k:Nat}{w w9:World}{base:Nat}{v:Value}{n:Nat}{Ls:List aj}{L:aj}{xs cs:List Value}{v9:Value}(hl:Ls.length=n) (hown:OwJ noW w base 36 4 v n xs) (hr:eZ (LkC k) 4 w Ls xs) (hc:LkC k w cs L) (h9:OwJ noW w9 base 36 4 v9 (n+1) (xs ++ cs)) (hg:w.grownBy w9 v.ownBlock) (h4:cs.length=4):po k w9 base v9 (n+1) (Ls ++ [L]):=by
 have t:Tch (dZ 36) w w9:=Tch.grown (fun _ h=>h) (by simp [dZ]) hown hg;have m:∀ cs a,LkC k w cs a→LkC k w9 cs a:=fun _ _ x=>x.tch t (by decide) (by decide) (by decide) (by decide)
 exact ⟨by rw [List.length_append,hl];rfl,xs ++ cs,h9,(hr.map_ m).snoc (m _ _ hc) h4⟩
def m9 (S:List UInt8) (x:Int) (n:Nat) (R:List UInt8):Prop :=
  (65536 < S.length∧x=4∧n=0∧R=[]) ∨
  (S.length≤65536∧(∀ m Q,m≤99999→S≠dw m ++ Q)∧x=2∧n=0∧R=[]) ∨
  (S.length≤65536∧(∃ m Q,m≤99999∧16 < m∧S=dw m ++ Q)∧x=4∧n=0∧R=[]) ∨
  (S.length≤65536∧n≤16∧S=dw n ++ R∧x=0)
theorem uE (S:List UInt8):∃ x n R,m9 S x n R:=by
 by_cases h:65536 < S.length
 ·exact ⟨4,0,[],.inl ⟨h,rfl,rfl,rfl⟩⟩
 have h:=Nat.le_of_not_lt h;by_cases h1:∃ m Q,m≤99999∧S=dw m ++ Q
 ·obtain ⟨m,Q,hm,e⟩:=h1
  by_cases h2:16 < m
  ·exact ⟨4,0,[],.inr (.inr (.inl ⟨h,⟨m,Q,hm,h2,e⟩,rfl,rfl,rfl⟩))⟩
  exact ⟨0,m,Q,.inr (.inr (.inr ⟨h,Nat.le_of_not_lt h2,e,rfl⟩))⟩
 exact ⟨2,0,[],.inr (.inl ⟨h,fun m Q hm e=>h1 ⟨m,Q,hm,e⟩,rfl,rfl,rfl⟩)⟩
def kN (S:List UInt8) (m:Nat) (X N:List UInt8):Prop:=m≤99999∧X.length=8∧(∀ c∈X,kE.contains c=true)∧S=Lib.itoa (m:Int) ++ 32 :: (X ++ 10 :: N)
def nc (S:List UInt8) (x:Int) (L:aj) (R:List UInt8):Prop :=
  ((∀ m X N,¬ kN S m X N)∧x=2∧L=L0∧R=[]) ∨
  ∃ m X N,kN S m X N∧((N.length < m∧x=18∧L=L0∧R=[]) ∨
    (m≤N.length∧ji (fP (N.take m))≠X∧x=14∧L=L0∧R=[]) ∨
    (m≤N.length∧ji (fP (N.take m))=X∧∃ y M,cG (N.take m) y M ∧
      ((y≠0∧x=y∧L=L0∧R=[])∨(y=0∧(aJ M≠0∨bZ M≠N.take m)∧x=2∧L=L0∧R=[])∨(y=0∧aJ M=0∧bZ M=N.take m∧x=0∧L=M∧R=N.drop m))))
theorem uF (hr:∀ s,∃ x L,cG s x L) (S:List UInt8):∃ x L R,nc S x L R:=by
 by_cases h:∃ m X N,kN S m X N
 ·obtain ⟨m,X,N,hl⟩:=h
  by_cases h1:N.length < m
  ·exact ⟨18,L0,[],.inr ⟨m,X,N,hl,.inl ⟨h1,rfl,rfl,rfl⟩⟩⟩
  have h1:=Nat.le_of_not_lt h1;by_cases h2:ji (fP (N.take m))=X
  ·obtain ⟨y,M,hR⟩:=hr (N.take m)
   by_cases h3:y=0
   ·by_cases h4:aJ M=0∧bZ M=N.take m
    ·exact ⟨0,M,N.drop m,.inr ⟨m,X,N,hl,.inr (.inr ⟨h1,h2,y,M,hR,.inr (.inr ⟨h3,h4.1,h4.2,rfl,rfl,rfl⟩)⟩)⟩⟩
    refine ⟨2,L0,[],.inr ⟨m,X,N,hl,.inr (.inr ⟨h1,h2,y,M,hR,.inr (.inl ⟨h3,?_,rfl,rfl,rfl⟩)⟩)⟩⟩;by_cases h5:aJ M=0
    ·exact .inr fun e=>h4 ⟨h5,e⟩
    exact .inl h5
   exact ⟨y,L0,[],.inr ⟨m,X,N,hl,.inr (.inr ⟨h1,h2,y,M,hR,.inl ⟨h3,rfl,rfl,rfl⟩⟩)⟩⟩
  exact ⟨14,L0,[],.inr ⟨m,X,N,hl,.inr (.inl ⟨h1,h2,rfl,rfl,rfl⟩)⟩⟩
 exact ⟨2,L0,[],.inl ⟨fun m X N hl=>h ⟨m,X,N,hl⟩,rfl,rfl,rfl⟩⟩
def UnF:Nat→List UInt8→Int→List aj→Prop
  | 0,S,x,Ls=>Ls=[]∧x=if S=[] then 0 else 2
  | n+1,S,x,Ls=>∃ y L R,nc S y L R∧((y≠0∧x=y∧Ls=[])∨(y=0∧∃ Ms,UnF n R x Ms∧Ls=L :: Ms))
theorem tM (hr:∀ s,∃ x L,cG s x L):∀ n S,∃ x Ls,UnF n S x Ls
 | 0,S=>⟨_,[],rfl,rfl⟩
 | n+1,S=>by
  obtain ⟨y,L,R,h⟩:=uF hr S;by_cases hy:y=0
  ·obtain ⟨x,Ms,hm⟩:=tM hr n R
   exact ⟨x,L :: Ms,y,L,R,h,.inr ⟨hy,Ms,hm,rfl⟩⟩
  exact ⟨y,[],y,L,R,h,.inl ⟨hy,rfl,rfl⟩⟩
def rT (S:List UInt8) (x:Int) (Ls:List aj):Prop:=∃ y n R,m9 S y n R∧((y≠0∧x=y∧Ls=[])∨(y=0∧∃ Ms,UnF n R x Ms∧Ls=if x=0 then Ms else []))
theorem uG (hr:∀ s,∃ x L,cG s x L) (S:List UInt8):∃ x Ls,rT S x Ls:=by
 obtain ⟨y,n,R,h⟩:=uE S;by_cases hy:y=0
 ·obtain ⟨x,Ms,hm⟩:=tM hr n R
  exact ⟨x,_,y,n,R,h,.inr ⟨hy,Ms,hm,rfl⟩⟩
 exact ⟨y,[],y,n,R,h,.inl ⟨hy,rfl,rfl⟩⟩
theorem uH {S:List UInt8}{L:aj}{R:List UInt8}(h:nc S 0 L R):aJ L=0∧S=pkL L ++ R:=by
 rcases h with ⟨_,hx,_⟩ | ⟨m,X,N,⟨_,_,_,hS⟩,⟨_,hx,_⟩ | ⟨_,_,hx,_⟩ | ⟨hm,hX,y,M,_,⟨hy,hx,_⟩ | ⟨_,_,hx,_⟩ | ⟨_,h0,hT,_,rfl,rfl⟩⟩⟩
 ·cases hx
 ·cases hx
 ·cases hx
 ·exact absurd hx.symm hy
 ·cases hx
 refine ⟨h0,?_⟩;have hl:(N.take m).length=m:=by rw [List.length_take];omega
 unfold pkL;rw [rB,hT,hl];unfold mU;rw [hX,hS];simp
theorem tN:∀ {n:Nat}{S:List UInt8}{Ls:List aj},UnF n S 0 Ls→Ls.length=n∧S=Ls.flatMap pkL∧∀ L∈Ls,aJ L=0
 | 0,S,Ls,h=>by
  obtain ⟨rfl,h⟩:=h;by_cases hS:S=[]
  ·subst hS;exact ⟨rfl,rfl,fun _ h=>by cases h⟩
  rw [if_neg hS] at h;cases h
 | n+1,S,Ls,h=>by
  obtain ⟨y,L,R,h1,⟨hy,e,_⟩ | ⟨rfl,Ms,h2,rfl⟩⟩:=h
  ·exact absurd e.symm hy
  obtain ⟨a,b,c⟩:=tN h2;obtain ⟨d,e⟩:=uH h1;refine ⟨by rw [List.length_cons,a],by rw [e,b,List.flatMap_cons],fun M hM=>?_⟩;rcases List.mem_cons.1 hM with rfl | hM
  ·exact d
  exact c M hM
theorem j8:∀ {Ls:List aj},(∀ L∈Ls,aJ L=0)→ct Ls=0
 | [],_=>rfl
 | L :: r,h=>by rw [ct,if_pos (h L (by simp))];exact j8 fun M hM=>h M (by simp [hM])
theorem pq {S:List UInt8}{Ls:List aj}(h:rT S 0 Ls):S=dx Ls∧cR Ls=0∧Ls.length≤16∧∀ L∈Ls,aJ L=0:=by
 obtain ⟨y,n,R,hb,⟨hy,e,_⟩ | ⟨rfl,Ms,hu,e⟩⟩:=h
 ·exact absurd e.symm hy
 rw [if_pos rfl] at e;subst e;obtain ⟨h1,h2,h3⟩:=tN hu;rcases hb with ⟨_,e,_⟩ | ⟨_,_,e,_⟩ | ⟨_,_,e,_⟩ | ⟨hl,hn,hS,_⟩
 ·cases e
 ·cases e
 ·cases e
 have hS2:S=dx Ls:=by rw [hS,h2,← h1];rfl
 refine ⟨hS2,(lR (by omega) (j8 h3) (by rw [← hS2];omega)).1,by omega,h3⟩
end Go.Proofs.YtfilnhompchciaaGreatDoor
namespace Go.Proofs
open Go.Shelf
def Tryz.laysC172_ren:Go.Shelf.Ren:=⟨fun | 172=>90 | 244=>125 | 245=>126 | 247=>161 | 279=>162 | 280=>163 | 281=>164 | 282=>165 | 287=>205 | 316=>206 | 171=>28 | 205=>207 | 321=>239 | 322=>240 | 243=>59 | 246=>100 | 283=>137 | 284=>138 | 285=>139 | 286=>140 | 129=>177 | 317=>176 | 318=>178 | 319=>179 | 320=>180 | 337=>218 | 338=>219 | n=>n,fun | 9=>9 | 3=>3 | 75=>26 | 76=>51 | 4=>4 | 5=>5 | 167=>201 | 37=>47 | 0=>0 | 85=>202 | 2=>2 | 168=>204 | 53=>117 | 175=>239 | 46=>157 | 210=>242 | 127=>119 | 145=>258 | 143=>256 | 21=>21 | 171=>182 | 173=>185 | 212=>214 | 51=>58 | 20=>20 | 213=>215 | 232=>264 | 233=>265 | 80=>75 | n=>n,fun | 15=>2 | 16=>3 | 17=>1 | 18=>6 | 19=>7 | n=>n⟩
theorem Tryz.laysC172:Go.Proofs.LaysC.n172 Tryz.prog Tryz.laysC172_ren:={
 mixed:=by kernel_rfl
 f129:=Tryz.func177.trans (congrArg some (by kernel_rfl))
 f171:=Tryz.func28.trans (congrArg some (by kernel_rfl))
 f172:=Tryz.func90.trans (congrArg some (by kernel_rfl))
 f205:=Tryz.func207.trans (congrArg some (by kernel_rfl))
 f243:=Tryz.func59.trans (congrArg some (by kernel_rfl))
 f244:=Tryz.func125.trans (congrArg some (by kernel_rfl))
 f245:=Tryz.func126.trans (congrArg some (by kernel_rfl))
 f246:=Tryz.func100.trans (congrArg some (by kernel_rfl))
 f247:=Tryz.func161.trans (congrArg some (by kernel_rfl))
 f279:=Tryz.func162.trans (congrArg some (by kernel_rfl))
 f280:=Tryz.func163.trans (congrArg some (by kernel_rfl))
 f281:=Tryz.func164.trans (congrArg some (by kernel_rfl))
 f282:=Tryz.func165.trans (congrArg some (by kernel_rfl))
 f283:=Tryz.func137.trans (congrArg some (by kernel_rfl))
 f284:=Tryz.func138.trans (congrArg some (by kernel_rfl))
 f285:=Tryz.func139.trans (congrArg some (by kernel_rfl))
 f286:=Tryz.func140.trans (congrArg some (by kernel_rfl))
 f287:=Tryz.func205.trans (congrArg some (by kernel_rfl))
 f316:=Tryz.func206.trans (congrArg some (by kernel_rfl))
 f317:=Tryz.func176.trans (congrArg some (by kernel_rfl))
 f318:=Tryz.func178.trans (congrArg some (by kernel_rfl))
 f319:=Tryz.func179.trans (congrArg some (by kernel_rfl))
 f320:=Tryz.func180.trans (congrArg some (by kernel_rfl))
 f321:=Tryz.func239.trans (congrArg some (by kernel_rfl))
 f322:=Tryz.func240.trans (congrArg some (by kernel_rfl))
 f337:=Tryz.func218.trans (congrArg some (by kernel_rfl))
 f338:=Tryz.func219.trans (congrArg some (by kernel_rfl))
 t0:=Tryz.underlying0
 a0:=Tryz.isAgg0
 z0:=Tryz.sizeOf0
 v0:=Tryz.zeroValue0
 t2:=Tryz.underlying2
 a2:=Tryz.isAgg2
 z2:=Tryz.sizeOf2
 v2:=Tryz.zeroValue2
 t3:=Tryz.underlying3
 a3:=Tryz.isAgg3
 z3:=Tryz.sizeOf3
 v3:=Tryz.zeroValue3
 t4:=Tryz.underlying4
 a4:=Tryz.isAgg4
 z4:=Tryz.sizeOf4
 v4:=Tryz.zeroValue4
 t5:=Tryz.underlying5
 a5:=Tryz.isAgg5
 z5:=Tryz.sizeOf5
 v5:=Tryz.zeroValue5
 t9:=Tryz.underlying9
 a9:=Tryz.isAgg9
 z9:=Tryz.sizeOf9
 v9:=Tryz.zeroValue9
 t20:=Tryz.underlying20
 a20:=Tryz.isAgg20
 z20:=Tryz.sizeOf20
 v20:=Tryz.zeroValue20
 t21:=Tryz.underlying21
 a21:=Tryz.isAgg21
 z21:=Tryz.sizeOf21
 v21:=Tryz.zeroValue21
 t37:=Tryz.underlying47
 a37:=Tryz.isAgg47
 z37:=Tryz.sizeOf47
 v37:=Tryz.zeroValue47
 t46:=Tryz.underlying157
 a46:=Tryz.isAgg157
 z46:=Tryz.sizeOf157
 v46:=Tryz.zeroValue157
 t51:=Tryz.underlying58
 a51:=Tryz.isAgg58
 z51:=Tryz.sizeOf58
 v51:=Tryz.zeroValue58
 t53:=Tryz.underlying117
 a53:=Tryz.isAgg117
 z53:=Tryz.sizeOf117
 v53:=Tryz.zeroValue117
 t75:=Tryz.underlying26
 a75:=Tryz.isAgg26
 z75:=Tryz.sizeOf26
 v75:=Tryz.zeroValue26
 t76:=Tryz.underlying51
 a76:=Tryz.isAgg51
 z76:=Tryz.sizeOf51
 v76:=Tryz.zeroValue51
 t85:=Tryz.underlying202
 a85:=Tryz.isAgg202
 z85:=Tryz.sizeOf202
 v85:=Tryz.zeroValue202
 t127:=Tryz.underlying119
 a127:=Tryz.isAgg119
 z127:=Tryz.sizeOf119
 v127:=Tryz.zeroValue119
 t143:=Tryz.underlying256
 a143:=Tryz.isAgg256
 z143:=Tryz.sizeOf256
 v143:=Tryz.zeroValue256
 t145:=Tryz.underlying258
 a145:=Tryz.isAgg258
 z145:=Tryz.sizeOf258
 v145:=Tryz.zeroValue258
 t167:=Tryz.underlying201
 a167:=Tryz.isAgg201
 z167:=Tryz.sizeOf201
 v167:=Tryz.zeroValue201
 t168:=Tryz.underlying204
 a168:=Tryz.isAgg204
 z168:=Tryz.sizeOf204
 v168:=Tryz.zeroValue204
 t171:=Tryz.underlying182
 a171:=Tryz.isAgg182
 z171:=Tryz.sizeOf182
 v171:=Tryz.zeroValue182
 t173:=Tryz.underlying185
 a173:=Tryz.isAgg185
 z173:=Tryz.sizeOf185
 v173:=Tryz.zeroValue185
 t175:=Tryz.underlying239
 a175:=Tryz.isAgg239
 z175:=Tryz.sizeOf239
 v175:=Tryz.zeroValue239
 t210:=Tryz.underlying242
 a210:=Tryz.isAgg242
 z210:=Tryz.sizeOf242
 v210:=Tryz.zeroValue242
 t212:=Tryz.underlying214
 a212:=Tryz.isAgg214
 z212:=Tryz.sizeOf214
 v212:=Tryz.zeroValue214
 t213:=Tryz.underlying215
 a213:=Tryz.isAgg215
 z213:=Tryz.sizeOf215
 t232:=Tryz.underlying264
 a232:=Tryz.isAgg264
 z232:=Tryz.sizeOf264
 v232:=Tryz.zeroValue264
 t233:=Tryz.underlying265
 a233:=Tryz.isAgg265
 z233:=Tryz.sizeOf265
 v233:=Tryz.zeroValue265
 g15:=by kernel_rfl
 g16:=by kernel_rfl
 g17:=by kernel_rfl
 g18:=by kernel_rfl
 g19:=by kernel_rfl
 t80:=Tryz.underlying75
 a80:=Tryz.isAgg75
 z80:=Tryz.sizeOf75
 v80:=Tryz.zeroValue75
 i0:=by kernel_rfl
 i2:=by kernel_rfl
 i3:=by kernel_rfl
 i4:=by kernel_rfl
 i5:=by kernel_rfl
 i9:=by kernel_rfl
 i20:=by kernel_rfl
 i21:=by kernel_rfl
 i37:=by kernel_rfl
 i46:=by kernel_rfl
 i51:=by kernel_rfl
 i53:=by kernel_rfl
 i75:=by kernel_rfl
 i76:=by kernel_rfl
 i80:=by kernel_rfl
 i85:=by kernel_rfl
 i127:=by kernel_rfl
 i143:=by kernel_rfl
 i145:=by kernel_rfl
 i167:=by kernel_rfl
 i168:=by kernel_rfl
 i171:=by kernel_rfl
 i173:=by kernel_rfl
 i175:=by kernel_rfl
 i210:=by kernel_rfl
 i212:=by kernel_rfl
 i232:=by kernel_rfl
 i233:=by kernel_rfl
 m15:=by kernel_rfl
 m16:=by kernel_rfl
 m17:=by kernel_rfl
 m18:=by kernel_rfl
 m19:=by kernel_rfl
 c0:=by kernel_rfl
 c2:=by kernel_rfl
 c3:=by kernel_rfl
 c4:=by kernel_rfl
 c5:=by kernel_rfl
 c9:=by kernel_rfl
 c20:=by kernel_rfl
 c21:=by kernel_rfl
 c37:=by kernel_rfl
 c46:=by kernel_rfl
 c51:=by kernel_rfl
 c53:=by kernel_rfl
 c75:=by kernel_rfl
 c76:=by kernel_rfl
 c80:=by kernel_rfl
 c85:=by kernel_rfl
 c127:=by kernel_rfl
 c143:=by kernel_rfl
 c145:=by kernel_rfl
 c167:=by kernel_rfl
 c168:=by kernel_rfl
 c171:=by kernel_rfl
 c173:=by kernel_rfl
 c175:=by kernel_rfl
 c210:=by kernel_rfl
 c212:=by kernel_rfl
 c213:=by kernel_rfl
 c232:=by kernel_rfl
 c233:=by kernel_rfl }
open Go.RowKit in
theorem Tryz.strconv_Atoi_ok (s:ByteArray) (hmax:s.size≤9223372036854775806) (v:Int) (h:Lib.atoiAll s.data.toList=.ok v) (w:World) :
 Calls Tryz.prog 90 #[.string s] w fun e w'=>e=.returned (.tuple #[.int .i64 v,.nilIface])∧(w'=w∨∃ t,w'=Lib.bytesWorld w 5 t):=Any.strconv_Atoi_ok Tryz.laysC172 s hmax v h w
open Go.RowKit in
theorem Tryz.strconv_Atoi_bad (s:ByteArray) (hlim:s.size≤281474976710656) (h:Lib.atoiAll s.data.toList≠.range∧∀ v,Lib.atoiAll s.data.toList≠.ok v) (ev:Value) (w:World) (hv:w.cell? ⟨2,0,none⟩=some ev) (hev:ev=.nilIface∨∃ te pe,ev=.iface te pe) :
 Calls Tryz.prog 90 #[.string s] w fun e w'=>∃ N,e=.returned (.tuple #[.int .i64 (0),.iface 204 (.pointer (some ⟨N,0,none⟩))])∧w.heap.size≤N∧w'.heap[N]?=some (.cells #[.string ⟨#[65,116,111,105]⟩,.string s,ev] 242 (0,0))∧Below w.heap.size w w':=by
  cases hx:Lib.atoiAll s.data.toList with
  | ok v=>exact absurd hx (h.2 v)
  | range=>exact absurd hx h.1
  | _=>exact Any.strconv_Atoi_syntax Tryz.laysC172 s hlim hx ev w hv hev
open Go.RowKit in
theorem Tryz.strconv_Atoi_range (s:ByteArray) (hlim:s.size≤281474976710656) (h:Lib.atoiAll s.data.toList=.range) (ev:Value) (w:World) (hv:w.cell? ⟨3,0,none⟩=some ev) (hev:ev=.nilIface∨∃ te pe,ev=.iface te pe) :
 Calls Tryz.prog 90 #[.string s] w fun e w'=>∃ N,e=.returned (.tuple #[.int .i64 (Lib.atoiSat s.data.toList),.iface 204 (.pointer (some ⟨N,0,none⟩))])∧w.heap.size≤N∧w'.heap[N]?=some (.cells #[.string ⟨#[65,116,111,105]⟩,.string s,ev] 242 (0,0))∧Below w.heap.size w w':=Any.strconv_Atoi_range Tryz.laysC172 s hlim h ev w hv hev
end Go.Proofs

/- Walks: strconv.Atoi at any text; number at any text. -/
namespace Go.Proofs.YtfilnhompchciaaGreatDoor
open Go Go.RowKit Bn
attribute [local go_sem ↓] Go.wp_at_zero Go.wp_at_succ
def Ev (w:World):Prop:=(∃ ev,w.cell? ⟨2,0,none⟩=some ev∧(ev=.nilIface∨∃ te pe,ev=.iface te pe))∧∃ ev,w.cell? ⟨3,0,none⟩=some ev∧(ev=.nilIface∨∃ te pe,ev=.iface te pe)
theorem Ev.belw {w w':World}(h:Ev w) (hb:Below w.heap.size w w'):Ev w':=by
 obtain ⟨⟨e1,h1,k1⟩,e2,h2,k2⟩:=h;exact ⟨⟨e1,az h1 hb,k1⟩,e2,az h2 hb,k2⟩
def uI (w:World) (e:Ending) (w':World):Prop:=∃ (z:Int) (ev:Value),e=.returned (.tuple #[.int .i64 z,ev])∧-9223372036854775808≤z∧z≤9223372036854775807∧(ev=.nilIface∨∃ t p,ev=.iface t p)∧Below w.heap.size w w'
theorem rU (w:World) (s:List UInt8) (hs:s.length≤65536) (hv:Ev w):Calls Tryz.prog 90 #[af s] w (uI w):=by
 have hsz:(⟨s.toArray⟩:ByteArray).size≤65536:=hs;obtain ⟨⟨e1,h1,k1⟩,e2,h2,k2⟩:=hv
 cases h:Lib.atoiAll (⟨s.toArray⟩:ByteArray).data.toList with
 | ok v =>
  obtain ⟨b1,b2⟩:=Lib.atoiAll_bounds h;refine (Tryz.strconv_Atoi_ok ⟨s.toArray⟩ (by omega) v h w).mono fun e w' ⟨he,hw⟩=>⟨v,.nilIface,he,b1,b2,.inl rfl,?_⟩
  rcases hw with rfl | ⟨t,rfl⟩
  ·exact aa _
  exact ⟨rfl,rfl,rfl,by rw [Lib.bytesWorld_size];omega,fun j hj=>Lib.bytesWorld_at_old _ _ _ j hj⟩
 | range =>
  obtain ⟨b1,b2⟩:=Lib.atoiSat_bounds (⟨s.toArray⟩:ByteArray).data.toList;exact (Tryz.strconv_Atoi_range ⟨s.toArray⟩ (by omega) h e2 w h2 k2).mono fun e w' ⟨N,he,_,_,hb⟩=>⟨_,_,he,b1,b2,.inr ⟨_,_,rfl⟩,hb⟩
 | _=>exact (Tryz.strconv_Atoi_bad ⟨s.toArray⟩ (by omega) ⟨by rw [h];exact (fun x=>nomatch x),fun v=>by rw [h];exact (fun x=>nomatch x)⟩ e1 w h1 k1).mono fun e w' ⟨N,he,_,_,hb⟩=>⟨0,_,he,by omega,by omega,.inr ⟨_,_,rfl⟩,hb⟩
def uJ (w:World) (s:List UInt8) (e:Ending) (w':World):Prop:=∃ (z:Int) (b:Bool),e=.returned (.tuple #[.int .i64 z,.bool b])∧(b=true→∃ n:Nat,n≤99999∧z=n∧s=Lib.itoa (n:Int))∧Below w.heap.size w w'
theorem gi (w:World) (s:List UInt8) (hs:s.length≤65536) (hv:Ev w) (htab:Tab w):Calls Tryz.prog 50 #[af s] w (uJ w s):=by
 have HTab:=Qh htab;clear htab;go_in;go_wp2_with fail;(with_reducible refine (rU w s hs hv).mono ?_);rintro e' w1 ⟨z,ev,rfl,b1,b2,hev,q1⟩;rcases hev with rfl | ⟨t,p,rfl⟩
 ·by_cases h0:0≤z
  ·have f0:((0:Int)≤z)=True:=eq_true h0
   by_cases h9:z≤99999
   ·have f1:(z≤(99999:Int))=True:=eq_true h9
    go_wp2_with fail;(with_reducible refine (ip w1 z b1 b2 (HTab.out.belw q1)).mono ?_);rintro e' w2 ⟨rfl,hb2⟩;have q2:=ag q1 hb2;obtain ⟨I,hI⟩:∃ I,Lib.itoa z=I:=⟨_,rfl⟩;rw [hI];by_cases hIs:I=s
    ·subst hIs
     go_wp2_with fail;go_ret2;exact ⟨z,true,rfl,fun _=>⟨z.toNat,by omega,by omega,by rw [← hI,Int.toNat_of_nonneg h0]⟩,q2⟩
    have fI:(I == s)=false:=beq_eq_false_iff_ne.2 hIs;go_wp2_with fail;go_ret2;exact ⟨z,false,rfl,(fun h=>by cases h),q2⟩
   have f1:(z≤(99999:Int))=False:=eq_false h9;go_wp2_with fail;go_ret2;exact ⟨z,false,rfl,(fun h=>by cases h),q1⟩
  have f0:((0:Int)≤z)=False:=eq_false h0;go_wp2_with fail;go_ret2;exact ⟨z,false,rfl,(fun h=>by cases h),q1⟩
 go_wp2_with fail;go_ret2;exact ⟨z,false,rfl,(fun h=>by cases h),q1⟩
theorem cut_cases (c:UInt8):∀ (S:List UInt8),(∃ a b,c ∉ a∧S=a ++ c :: b)∨c ∉ S
 | []=>.inr (by simp)
 | x :: S=>by
  by_cases hx:x=c
  ·subst hx;exact .inl ⟨[],S,by simp,rfl⟩
  rcases cut_cases c S with ⟨a,b,h,e⟩ | h
  ·exact .inl ⟨x :: a,b,by simp [h];exact fun h=>hx h.symm,by rw [e];rfl⟩
  exact .inr (by simp [h];exact fun h=>hx h.symm)
theorem me (w:World) (P S:List UInt8):Calls Tryz.prog 88 #[af S,af P] w (fun e' w'=>∃ I b,e'=.returned (.tuple #[af I,.bool b])∧(b=true→S=P ++ I)∧I.length≤S.length∧Below w.heap.size w w'):=by
 refine (Tryz.strings_CutPrefix ⟨S.toArray⟩ ⟨P.toArray⟩ w).mono fun e w' ⟨he,hw⟩=>⟨Lib.trimPrefix S P,Lib.hasPrefix S P,?_,fun h=>?_,?_,hw ▸ aa _⟩
 ·rw [he]
 ·unfold Lib.trimPrefix
  rw [if_pos h];unfold Lib.hasPrefix at h;obtain ⟨t,rfl⟩:=List.isPrefixOf_iff_prefix.1 h;simp
 unfold Lib.trimPrefix;split
 ·rw [List.length_drop];omega
 exact Qr
theorem uK {l:List UInt8}(h:Lib.trimS l kE=[]):∀ c∈l,kE.contains c=true:=by
 unfold Lib.trimS Lib.trimLeftS Lib.trimRightS at h;rw [bo,List.all_reverse] at h
 cases hd:l.reverse.dropWhile (kE.contains ·) with
 | nil=>have h9:=bo.1 hd;rw [List.all_reverse] at h9;exact List.all_eq_true.1 h9
 | cons x r =>
  rw [hd,List.all_cons,Bool.and_eq_true] at h;rw [em hd] at h;exact absurd h.1 (by simp)
theorem nS (w:World) (X:List UInt8) (hX:X.length≤65536) (v:Bool) (hv:v=true ↔ X.length=8∧∀ c∈X,kE.contains c=true):Calls Tryz.prog 51 #[af X] w (aE w (.bool v)):=by
 have zX:=ai X;have HV:=Qh hv;clear hv;by_cases h8:X.length=8
 ·have hl8:((X.length:Int) == 8)=true:=by rw [h8];rfl
  obtain ⟨T,hT⟩:∃ T,Lib.trimS X kE=T:=⟨_,rfl⟩;have HT:=Qh hT;clear hT;go_in;go_wp2_with fail;(with_reducible refine (sX w X T (by omega) HT.out).mono ?_);rintro e' w1 ⟨rfl,q1⟩;by_cases hT0:T=[]
  ·subst hT0
   obtain rfl:v=true:=HV.out.2 ⟨h8,uK HT.out⟩;go_wp2;go_ret;exact ⟨rfl,q1⟩
  have fT:(T == [])=false:=beq_eq_false_iff_ne.2 hT0
  have hvf:v=false:=by
   cases v
   ·rfl
   exact absurd (HT.out.symm.trans (sU (HV.out.1 rfl).2)) hT0
  subst hvf;go_wp2;go_ret;exact ⟨by first | rfl | simp [fT,hT0],q1⟩
 have hl8:((X.length:Int) == 8)=false:=by rw [beq_eq_false_iff_ne];omega
 have hvf:v=false:=by
  cases v
  ·rfl
  exact absurd (HV.out.1 rfl).1 h8
 subst hvf;go_in;go_wp2;go_ret;exact ⟨rfl,aa w⟩
structure Env (w:World):Prop where
  tab:Tab w
  t64:T64 w
  mx:Mx w
  ev:Ev w
theorem Env.belw {w w':World}(h:Env w) (hb:Below w.heap.size w w'):Env w':=⟨h.tab.belw hb,h.t64.belw hb,h.mx.belw hb,h.ev.belw hb⟩
def pkP:List UInt8:=[108,105,110,107,119,111,114,107,32,49,32]
theorem nT (w:World) (S:List UInt8) (hS:S.length < 9223372036854775808) (he:Env w) (x:Int) (n:Nat) (R:List UInt8) (h:m9 S x n R):Calls Tryz.prog 48 #[af S] w (aE w (.tuple #[.int .i64 (n:Nat),af R,ba x])):=by
 have zS:=ai S;have HE:=Qh he;clear he;rcases h with ⟨h1,rfl,rfl,rfl⟩ | ⟨h1,h2,rfl,rfl,rfl⟩ | ⟨h1,⟨m,Q,hm,h16,hSm⟩,rfl,rfl,rfl⟩ | ⟨h1,hn,hSn,rfl⟩
 ·have f1:((65536:Int) < (S.length:Int))=True:=eq_true (by omega)
  go_in;go_wp2_with fail;refine bodyPost_ret (v:=.tuple #[.int .i64 0,.string ⟨#[]⟩,.iface 49 (.int .i64 4)]) (by simp [results,Tryz.results48,go_sem, *] <;> trivial) rfl ?_;exact ⟨rfl,aa w⟩
 ·have f1:((65536:Int) < (S.length:Int))=False:=eq_false (by omega)
  have H2:=Qh h2;clear h2;rcases cut_cases 10 S with ⟨F,Q,hF,hSF⟩ | hno
  ·have hc:Lib.cut S [10]=(F,Q,true):=by rw [hSF];exact cZ hF
   have hFl:F.length≤65536:=by rw [hSF,List.length_append] at h1;omega
   have HC:=Qh hc;have HSF:=Qh hSF;clear hc hSF;go_in;go_wp2_with fail;(with_reducible refine (dh w S 10 F Q true HE.out.mx h1 HC.out).mono ?_);rintro e' w1 ⟨rfl,q1⟩;go_wp2_with fail;refine (me w1 pkP F).mono ?_;rintro e' w2 ⟨I,b,rfl,hI,hIl,hb2⟩;have q2:=ag q1 hb2;have HI:=Qh hI;clear hI hb2;go_wp2_with fail;(with_reducible refine (gi w2 I (by omega) (HE.out.ev.belw q2) (HE.out.tab.belw q2)).mono ?_);rintro e' w3 ⟨z,b3,rfl,hz,hb3⟩;have q3:=ag q2 hb3;have HZ:=Qh hz;clear hz hb3;cases b
   ·go_wp2_with fail
    refine bodyPost_ret (v:=.tuple #[.int .i64 0,.string ⟨#[]⟩,.iface 49 (.int .i64 2)]) (by simp [results,Tryz.results48,go_sem, *] <;> trivial) rfl ?_;exact ⟨rfl,q3⟩
   cases b3
   ·go_wp2_with fail
    refine bodyPost_ret (v:=.tuple #[.int .i64 0,.string ⟨#[]⟩,.iface 49 (.int .i64 2)]) (by simp [results,Tryz.results48,go_sem, *] <;> trivial) rfl ?_;exact ⟨rfl,q3⟩
   obtain ⟨m,hm,_,hIm⟩:=HZ.out rfl;refine absurd ?_ (H2.out m Q hm);rw [gH,HSF.out,HI.out rfl,hIm];rfl
  have hc:Lib.cut S [10]=(S,[],false):=dT hno;have HC:=Qh hc;clear hc hno;go_in;go_wp2_with fail;(with_reducible refine (dh w S 10 S [] false HE.out.mx h1 HC.out).mono ?_);rintro e' w1 ⟨rfl,q1⟩;go_wp2_with fail;refine (me w1 pkP S).mono ?_;rintro e' w2 ⟨I,b,rfl,hI,hIl,hb2⟩;have q2:=ag q1 hb2;clear hI hb2;go_wp2_with fail;(with_reducible refine (gi w2 I (by omega) (HE.out.ev.belw q2) (HE.out.tab.belw q2)).mono ?_);rintro e' w3 ⟨z,b3,rfl,hz,hb3⟩;have q3:=ag q2 hb3;clear hz hb3;go_wp2_with fail;refine bodyPost_ret (v:=.tuple #[.int .i64 0,.string ⟨#[]⟩,.iface 49 (.int .i64 2)]) (by simp [results,Tryz.results48,go_sem, *] <;> trivial) rfl ?_;exact ⟨rfl,q3⟩
 ·obtain ⟨F,hF⟩:∃ F,eP m=F:=⟨_,rfl⟩
  have hc:Lib.cut S [10]=(F,Q,true):=by rw [hSm,gH,← hF];exact cZ (iL m)
  obtain ⟨I,hI⟩:∃ I,Lib.itoa (m:Int)=I:=⟨_,rfl⟩;have hFI:F=[108,105,110,107,119,111,114,107,32,49,32] ++ I:=by rw [← hF,← hI];rfl
  have f1:((65536:Int) < (S.length:Int))=False:=eq_false (by omega);have f2:((16:Int) < (m:Int))=True:=eq_true (by omega);have HC:=Qh hc;have HFI:=Qh hFI;have HI:=Qh hI;clear hc hFI hF hI hSm;go_in;go_wp2_with fail;(with_reducible refine (dh w S 10 F Q true HE.out.mx h1 HC.out).mono ?_);rintro e' w1 ⟨rfl,q1⟩;go_wp2_with fail;refine (rC w1 [108,105,110,107,119,111,114,107,32,49,32] F I HFI.out).mono ?_;rintro e' w2 ⟨rfl,hb2⟩;have q2:=ag q1 hb2;go_wp2_with fail;(with_reducible refine (kF w2 m hm I HI.out (HE.out.tab.belw q2)).mono ?_);rintro e' w3 ⟨rfl,hb3⟩;have q3:=ag q2 hb3;go_wp2_with fail;refine bodyPost_ret (v:=.tuple #[.int .i64 0,.string ⟨#[]⟩,.iface 49 (.int .i64 4)]) (by simp [results,Tryz.results48,go_sem, *] <;> trivial) rfl ?_;exact ⟨rfl,q3⟩
 rw [bH];exact pf w n hn R S hSn.symm h1 HE.out.tab HE.out.mx
end Go.Proofs.YtfilnhompchciaaGreatDoor
