/- Part CQ6: lemmas and walks that the claim rests on. No claim is made here. -/
import Derived.Lib.SliceRun
import Derived.BigQuiet
import Derived.Deep.RegionLaw
import Derived.Test.YtndhgcfajlalhaaGreatDoorCQ5
set_option linter.unusedVariables false
set_option maxHeartbeats 8000000
set_option maxRecDepth 100000
/- Walks: clones of rows. -/
namespace Go.Proofs.YtndhgcfajlalhaaGreatDoor
open Go Go.RowKit Bn
attribute [local go_sem ↓] Go.wp_at_zero Go.wp_at_succ
theorem sk {s:Nat}:∀ {a:List (List Value)}{j:Nat}{u:Value},(∀ x∈a,x.length=s)->a.flatten[j]?=some u->∃ i r cs,j=i*s+r/\a[i]?=some cs/\cs[r]?=some u
 | [],j,u,_,h=>by simp at h
 | x::a,j,u,hl,h=>by
  have g:=hl x (by simp);rw [List.flatten_cons] at h;rcases Nat.lt_or_ge j s with b | b
  ·rw [List.getElem?_append_left (by omega)] at h
   exact ⟨0,j,x,by omega,rfl,h⟩
  rw [List.getElem?_append_right (by omega),g] at h;obtain ⟨i,r,cs,e,f,d⟩:=sk (fun y c=>hl y (by simp [c])) h;exact ⟨i+1,r,cs,by rw [Nat.add_mul];omega,by simpa using f,d⟩
theorem SlS.all_ {α:Type}{P:World->Nat->Nat->α->Prop}{s:Nat}{w:World}{A:Option Addr}{n c:Nat}{l:List α}(h:SlS P s w A n c l):∀ a∈l,∃ g o,P w g o a:=by
 intro a d;obtain ⟨i,b⟩:=List.mem_iff_getElem?.1 d;have j:i<n:=by rw [<- h.1];exact (List.getElem?_eq_some_iff.1 b).1
 obtain ⟨g,o,_,_,f⟩:=h.2.2 (by omega);exact ⟨g,_,f i a b⟩
theorem SlS.news {α:Type}{P:World->Nat->Nat->α->Prop}{s:Nat}{w:World}{g o n c:Nat}{l:List α}(f:α->List Value) (m:∀ a,(f a).length=s) (y:∀ g o a,P w g o a->∀ r u,(f a)[r]?=some u->w.cell? ⟨g,o+r,none⟩=some u) (h:SlS P s w (some ⟨g,o,none⟩) n c l):∀ j u,(l.map f).flatten[j]?=some u->w.cell? ⟨g,o+j,none⟩=some u:=by
 intro j u d;rcases Nat.eq_zero_or_pos n with b | b
 ·have:l=[]:=List.eq_nil_of_length_eq_zero (by rw [h.1,b])
  subst this;simp at d
 obtain ⟨B,A,e,_,q⟩:=h.2.2 b;injection e with e;injection e with e1 e2 _;subst e1 e2;obtain ⟨i,r,cs,p,k,z⟩:=sk (fun x t=>by obtain ⟨a,_,rfl⟩:=List.mem_map.1 t;exact m a) d;rw [List.getElem?_map] at k;obtain ⟨a,v,rfl⟩:=Option.map_eq_some_iff.1 k;rw [p,<- Nat.add_assoc];exact y _ _ _ (q i a v) r u z
theorem co.of_map {α:Type}{Pc:World->List Value->α->Prop}{s:Nat}{w:World}(f:α->List Value) (d:∀ a,(f a).length=s) (l:List α) (g:∀ a∈l,Pc w (f a) a):co Pc s w l (l.map f).flatten:=by
 refine ⟨l.map f,rfl,by simp,fun x h=>by obtain ⟨a,_,rfl⟩:=List.mem_map.1 h;exact d a,fun i a cs c b=>?_⟩;rw [List.getElem?_map,c] at b;injection b with b;subst b;exact g a (List.mem_of_getElem? c)
theorem lX {α:Type}{s:Nat}(f:α->List Value) (b:∀ a,(f a).length=s):∀ l:List α,(l.map f).flatten.length=l.length*s
 | []=>by simp
 | a::l=>by rw [List.map_cons,List.flatten_cons,List.length_append,b,lX f b l,List.length_cons,Nat.add_mul];omega
theorem gf {α:Type}(p:Value->Prop) (f:α->List Value) (l:List α) (h:∀ a,∀ u∈f a,p u):∀ u∈(l.map f).flatten,p u:=by
 intro u b;obtain ⟨x,c,b⟩:=List.mem_flatten.1 b;obtain ⟨a,_,rfl⟩:=List.mem_map.1 c;exact h a u b
def jtV (j:aD):List Value:=[aa j.name,.int .i64 j.kind,.int .i64 j.a,.int .i64 j.point,.int .i64 j.b,.int .i64 j.on,.int .i64 j.to_]
def drV (d:aE):List Value:=[aa d.name,.int .i64 d.body]
def edV (e:bL):List Value:=[.int .i64 e.kind,aa e.name,aa e.text]
theorem E5 {w:World}{g o:Nat}{a:aD}(h:ic w g o a) (r:Nat) (u:Value) (b:(jtV a)[r]?=some u):w.cell? ⟨g,o+r,none⟩=some u:=by
 obtain ⟨k,i,d,l,f,j,c,_⟩:=h
 match r,b with
 | 0,b=>injection b with b;subst b;exact k
 | 1,b=>injection b with b;subst b;exact i
 | 2,b=>injection b with b;subst b;exact d
 | 3,b=>injection b with b;subst b;exact l
 | 4,b=>injection b with b;subst b;exact f
 | 5,b=>injection b with b;subst b;exact j
 | 6,b=>injection b with b;subst b;exact c
theorem E6 {w:World}{g o:Nat}{a:aE}(h:ig w g o a) (r:Nat) (u:Value) (b:(drV a)[r]?=some u):w.cell? ⟨g,o+r,none⟩=some u:=by
 obtain ⟨d,c,_⟩:=h
 match r,b with
 | 0,b=>injection b with b;subst b;exact d
 | 1,b=>injection b with b;subst b;exact c
theorem E7 {w:World}{g o:Nat}{a:bL}(h:jz w g o a) (r:Nat) (u:Value) (b:(edV a)[r]?=some u):w.cell? ⟨g,o+r,none⟩=some u:=by
 obtain ⟨f,d,c⟩:=h
 match r,b with
 | 0,b=>injection b with b;subst b;exact f
 | 1,b=>injection b with b;subst b;exact d
 | 2,b=>injection b with b;subst b;exact c
theorem p8:(Tryz.prog.info? 39).map (fun i=>(i.zero,i.size,i.bytes))=some (some (.agg #[.int .i64 0,.string ⟨#[]⟩,.string ⟨#[]⟩]),3,40):=by kernel_rfl
theorem tF (w:World) (A:Option Addr) (n c:Nat) (l:List aD) (h:SlS ic 7 w A n c l) (S:n<=100000):Calls Tryz.prog 58 #[.slice A n c] w (fun e H=>∃ v,e=.returned v/\aq 81 JtC 7 H w.heap.size v n l/\Below w.heap.size w H):=by
 obtain ⟨L,G,B,D,E⟩:=info_parts pX;have T:∀ (w:World) (a:Option Addr) (n c y z:Nat),(binOp .eql 23 (.slice a n c) (.slice none y z)).run Tryz.prog w=.ok (.bool a.isNone) w:=fun w a n c y z=>Lib.run_eql_slice_nil w _ _ a n c y z Tryz.underlying23
 have t:=h.1
 cases A with
 | none =>
  have d:n=0:=by
   rcases Nat.eq_zero_or_pos n with d | d
   ·exact d
   obtain ⟨_,_,e,_⟩:=h.2.2 d;cases e
  subst d;obtain rfl:l=[]:=List.eq_nil_of_length_eq_zero t;clear h;go_in;go_wp2;go_ret;exact ⟨_,rfl,aq.nil,ae _⟩
 | some ad =>
  rcases Nat.eq_zero_or_pos n with d | d
  ·subst d
   obtain rfl:l=[]:=List.eq_nil_of_length_eq_zero t;clear h;go_in;go_wp2;go_ret;exact ⟨_,rfl,⟨rfl,[],⟨rfl,.inr ⟨w.heap.size,0,#[],rfl,Qr,heap_alloc_new w _,Qr,Nat.zero_le _,rfl,rfl,rfl⟩⟩,co.nil⟩,(ae w).alloc Qr _⟩
  obtain ⟨g,o,e,Q,_⟩:=h.2.2 d;injection e with e;subst e;have M:=Qh (h.news jtV (fun _=>rfl) fun _ _ _ p r u=>E5 p r u);have P:co JtC 7 w l (l.map jtV).flatten:=co.of_map jtV (fun _=>rfl) l fun a F=>by obtain ⟨_,_,F⟩:=h.all_ a F;exact ⟨rfl,F.2.2.2.2.2.2.2⟩
  have i:=lX (s:=7) jtV (fun _=>rfl) l;rw [t] at i;have J:=gf (fun u=>u.oneCell'=true) jtV l (fun a u m=>by simp [jtV] at m;rcases m with rfl | rfl | rfl | rfl | rfl | rfl | rfl <;> rfl);have I:(l.map jtV).flatten.all noW=true:=List.all_eq_true.2 (gf (fun u=>noW u=true) jtV l (fun a u m=>by simp [jtV] at m;rcases m with rfl | rfl | rfl | rfl | rfl | rfl | rfl <;> rfl));clear h;go_in;go_wp2_with (at_builtin;refine ce _ rfl noW _ _ _ rfl w.heap.size 81 L (.agg #[.string ⟨#[]⟩,.int .i64 0,.int .i64 0,.int .i64 0,.int .i64 0,.int .i64 0,.int .i64 0]) 7 64 Tryz.underlying23 G B D E rfl (by omega) rfl _ 0 [] rfl (⟨rfl,.inr ⟨w.heap.size,0,#[],rfl,Qr,heap_alloc_new w _,Qr,Nat.zero_le _,rfl,rfl,rfl⟩⟩) ⟨g,o,none⟩ n c (l.map jtV).flatten rfl i (fun j u O=>by rw [Addr.add_lit];exact Lib.cell?_alloc_some _ (M.out j u O)) J I d (by unfold maxLen;omega) (by omega) (by simp) ?_;intro R cap K b f N);have hB:Below w.heap.size w (w.alloc (.cells #[] 81)):=(ae w).alloc Qr _;have C:Below w.heap.size w K:=hB.grown f (by simp) (by intro k q;have q:some w.heap.size=some k:=q;injection q with q;omega);go_wp2;go_ret;rw [Nat.zero_add,List.nil_append] at b;exact ⟨_,rfl,⟨t,_,b,P.map_ fun _ _ x=>x⟩,C⟩
theorem tG (w:World) (A:Option Addr) (n c:Nat) (l:List aE) (h:SlS ig 2 w A n c l) (S:n<=100000):Calls Tryz.prog 59 #[.slice A n c] w (fun e H=>∃ v,e=.returned v/\aq 86 DrC 2 H w.heap.size v n l/\Below w.heap.size w H):=by
 obtain ⟨L,G,B,D,E⟩:=info_parts pY;have T:∀ (w:World) (a:Option Addr) (n c y z:Nat),(binOp .eql 24 (.slice a n c) (.slice none y z)).run Tryz.prog w=.ok (.bool a.isNone) w:=fun w a n c y z=>Lib.run_eql_slice_nil w _ _ a n c y z Tryz.underlying24
 have t:=h.1
 cases A with
 | none =>
  have d:n=0:=by
   rcases Nat.eq_zero_or_pos n with d | d
   ·exact d
   obtain ⟨_,_,e,_⟩:=h.2.2 d;cases e
  subst d;obtain rfl:l=[]:=List.eq_nil_of_length_eq_zero t;clear h;go_in;go_wp2;go_ret;exact ⟨_,rfl,aq.nil,ae _⟩
 | some ad =>
  rcases Nat.eq_zero_or_pos n with d | d
  ·subst d
   obtain rfl:l=[]:=List.eq_nil_of_length_eq_zero t;clear h;go_in;go_wp2;go_ret;exact ⟨_,rfl,⟨rfl,[],⟨rfl,.inr ⟨w.heap.size,0,#[],rfl,Qr,heap_alloc_new w _,Qr,Nat.zero_le _,rfl,rfl,rfl⟩⟩,co.nil⟩,(ae w).alloc Qr _⟩
  obtain ⟨g,o,e,Q,_⟩:=h.2.2 d;injection e with e;subst e;have M:=Qh (h.news drV (fun _=>rfl) fun _ _ _ p r u=>E6 p r u);have P:co DrC 2 w l (l.map drV).flatten:=co.of_map drV (fun _=>rfl) l fun a F=>by obtain ⟨_,_,F⟩:=h.all_ a F;exact ⟨rfl,F.2.2⟩
  have i:=lX (s:=2) drV (fun _=>rfl) l;rw [t] at i;have J:=gf (fun u=>u.oneCell'=true) drV l (fun a u m=>by simp [drV] at m;rcases m with rfl | rfl <;> rfl);have I:(l.map drV).flatten.all noW=true:=List.all_eq_true.2 (gf (fun u=>noW u=true) drV l (fun a u m=>by simp [drV] at m;rcases m with rfl | rfl <;> rfl));clear h;go_in;go_wp2_with (at_builtin;refine ce _ rfl noW _ _ _ rfl w.heap.size 86 L (.agg #[.string ⟨#[]⟩,.int .i64 0]) 2 24 Tryz.underlying24 G B D E rfl (by omega) rfl _ 0 [] rfl (⟨rfl,.inr ⟨w.heap.size,0,#[],rfl,Qr,heap_alloc_new w _,Qr,Nat.zero_le _,rfl,rfl,rfl⟩⟩) ⟨g,o,none⟩ n c (l.map drV).flatten rfl i (fun j u O=>by rw [Addr.add_lit];exact Lib.cell?_alloc_some _ (M.out j u O)) J I d (by unfold maxLen;omega) (by omega) (by simp) ?_;intro R cap K b f N);have hB:Below w.heap.size w (w.alloc (.cells #[] 86)):=(ae w).alloc Qr _;have C:Below w.heap.size w K:=hB.grown f (by simp) (by intro k q;have q:some w.heap.size=some k:=q;injection q with q;omega);go_wp2;go_ret;rw [Nat.zero_add,List.nil_append] at b;exact ⟨_,rfl,⟨t,_,b,P.map_ fun _ _ x=>x⟩,C⟩
theorem tH (w:World) (A:Option Addr) (n c:Nat) (l:List bL) (h:SlS jz 3 w A n c l) (R:n<=100000):Calls Tryz.prog 33 #[.slice A n c] w (fun e G=>∃ v,e=.returned v/\aq 39 EdC 3 G w.heap.size v n l/\Below w.heap.size w G):=by
 obtain ⟨K,F,B,D,E⟩:=info_parts p8;have T:∀ (w:World) (a:Option Addr) (n c y z:Nat),(binOp .eql 42 (.slice a n c) (.slice none y z)).run Tryz.prog w=.ok (.bool a.isNone) w:=fun w a n c y z=>Lib.run_eql_slice_nil w _ _ a n c y z Tryz.underlying42
 have t:=h.1
 cases A with
 | none =>
  have d:n=0:=by
   rcases Nat.eq_zero_or_pos n with d | d
   ·exact d
   obtain ⟨_,_,e,_⟩:=h.2.2 d;cases e
  subst d;obtain rfl:l=[]:=List.eq_nil_of_length_eq_zero t;clear h;go_in;go_wp2;go_ret;exact ⟨_,rfl,aq.nil,ae _⟩
 | some ad =>
  rcases Nat.eq_zero_or_pos n with d | d
  ·subst d
   obtain rfl:l=[]:=List.eq_nil_of_length_eq_zero t;clear h;go_in;go_wp2;go_ret;exact ⟨_,rfl,⟨rfl,[],⟨rfl,.inr ⟨w.heap.size,0,#[],rfl,Qr,heap_alloc_new w _,Qr,Nat.zero_le _,rfl,rfl,rfl⟩⟩,co.nil⟩,(ae w).alloc Qr _⟩
  obtain ⟨g,o,e,P,_⟩:=h.2.2 d;injection e with e;subst e;have L:=Qh (h.news edV (fun _=>rfl) fun _ _ _ p r u=>E7 p r u);have O:co EdC 3 w l (l.map edV).flatten:=co.of_map edV (fun _=>rfl) l fun a S=>rfl
  have i:=lX (s:=3) edV (fun _=>rfl) l;rw [t] at i;have I:=gf (fun u=>u.oneCell'=true) edV l (fun a u m=>by simp [edV] at m;rcases m with rfl | rfl | rfl <;> rfl);have H:(l.map edV).flatten.all noW=true:=List.all_eq_true.2 (gf (fun u=>noW u=true) edV l (fun a u m=>by simp [edV] at m;rcases m with rfl | rfl | rfl <;> rfl));clear h;go_in;go_wp2_with (at_builtin;refine ce _ rfl noW _ _ _ rfl w.heap.size 39 K (.agg #[.int .i64 0,.string ⟨#[]⟩,.string ⟨#[]⟩]) 3 40 Tryz.underlying42 F B D E rfl (by omega) rfl _ 0 [] rfl (⟨rfl,.inr ⟨w.heap.size,0,#[],rfl,Qr,heap_alloc_new w _,Qr,Nat.zero_le _,rfl,rfl,rfl⟩⟩) ⟨g,o,none⟩ n c (l.map edV).flatten rfl i (fun j u N=>by rw [Addr.add_lit];exact Lib.cell?_alloc_some _ (L.out j u N)) I H d (by unfold maxLen;omega) (by omega) (by simp) ?_;intro Q cap J b f M);have hB:Below w.heap.size w (w.alloc (.cells #[] 39)):=(ae w).alloc Qr _;have C:Below w.heap.size w J:=hB.grown f (by simp) (by intro k q;have q:some w.heap.size=some k:=q;injection q with q;omega);go_wp2;go_ret;rw [Nat.zero_add,List.nil_append] at b;exact ⟨_,rfl,⟨t,_,b,O.map_ fun _ _ x=>x⟩,C⟩
def nf (l:List Oper) (i:Nat):Nat->Nat->Bool
  | 0,m=>i==m
  | f+1,m=>i==m||match l[m]? with | some o=>o.after.any (fun e=>Region.binds .any e&&nf l i f e.on) | none=>false
theorem uJ {l:List Oper}{i:Nat}{L:Array Bool}(a:∀ i o,l.toArray[i]?=some o->L.getD i false=true->∀ e∈o.after,Region.binds .any e=true->L.getD e.on false=true):∀ (f m:Nat),nf l i f m=true->L.getD m false=true->L.getD i false=true
 | 0,m,h,hm=>by
  unfold nf at h;rw [beq_iff_eq] at h;subst h;exact hm
 | f+1,m,h,hm=>by
  unfold nf at h;rw [Bool.or_eq_true] at h;rcases h with h | h
  ·rw [beq_iff_eq] at h
   subst h;exact hm
  cases hl:l[m]? with
  | none=>rw [hl] at h;cases h
  | some o =>
   rw [hl] at h;obtain ⟨e,c,b⟩:=Array.any_eq_true'.1 h;rw [Bool.and_eq_true] at b;exact uJ a f e.on b.2 (a m o (by simpa using hl) hm e c b.1)
section
variable (P:Program) (ops:List Oper) (Q:Exit->Act->World->Prop) (fr:(Nat->Value)->Act) (R:Nat->Nat->Value->World->Prop) (T:Nat->World->Prop)
def FV (sl:List Nat) (L:Array Bool) (a:Act) (w:World):Prop :=
  ∃ x k,a=fr x/\k<=sl.length/\T k w/\(∀ i j,stl sl i=some j->(L.getD i false=true ↔ j<k))/\(∀ i,L.getD i false=true->R k i (x i) w) /\
  (∀ i o,ops.toArray[i]?=some o->L.getD i false=true->∀ e∈o.after,Region.binds .any e=true->L.getD e.on false=true)
def E8 (k i:Nat) (o:Oper):Prop :=
  ∀ x wq,T k wq->(∀ e∈o.after,Region.binds .any e=true->R k e.on (x e.on) wq)->∀ K':Act->World->Prop,Shut (∀ v w',R k i v w'->Below wq.heap.size wq w'->K' ((fr x).put o.dst v) w') ->
      if Region.wanted o (yielded ops.toArray (fr x).tmps)=true then Oper.wp P o (fr x) wq K' Q else K' ((fr x).put o.dst undef) wq
def DK (k i:Nat) (o:Oper):Prop :=
  ∀ x wq (D:Nat->Prop),¬ D i->T k wq->(∀ e∈o.after,Region.binds .any e=true->D e.on)->(∀ i,D i->R k i (x i) wq)->∀ K':Act->World->Prop,Shut (∀ v w',T (k+1) w'->R (k+1) i v w'->(∀ i',D i'->R (k+1) i' (x i') w')->K' ((fr x).put o.dst v) w') ->
      if Region.wanted o (yielded ops.toArray (fr x).tmps)=true then Oper.wp P o (fr x) wq K' Q else K' ((fr x).put o.dst undef) wq
end
section
variable {P:Program}{ops:List Oper}{Q:Exit->Act->World->Prop}{fr:(Nat->Value)->Act}{R:Nat->Nat->Value->World->Prop}{T:Nat->World->Prop}{id:Nat}{w:World}{x0:Nat->Value}
theorem cB (sl A:List Nat) (hm:P.follows .mixedOrders=true)
 (C:∀ i o,ops.toArray[i]?=some o->∀ x v,(fr x).put o.dst v=fr (upd x i v))
 (ad:∀ i o,ops.toArray[i]?=some o->∀ e∈o.after,Region.binds .any e=true->e.on<i)
 (an:∀ i∈sl,i<ops.length) (B:∀ j,j<sl.length->∃ i,sl[j]?=some i/\stl sl i=some j)
 (t:∀ i o j,ops.toArray[i]?=some o->sl[j+1]?=some i->∃ e∈o.after,Region.binds .any e=true/\stl sl e.on=some j)
 (E:∀ i,i<ops.length->i ∉ sl->i ∉ A->nf ops i ops.length (sl.headD 0)=true)
 (hR:∀ k i v w c,R k i v w->Below w.heap.size w c->R k i v c)
 (hT:∀ k w c,T k w->Below w.heap.size w c->T k c)
 (h0:T 0 w.drew)
 (H:∀ i o,ops.toArray[i]?=some o->i ∉ sl->∀ k,k<=sl.length->(i ∉ A->k=0)->E8 P ops Q fr R T k i o)
 (u:∀ k i o,sl[k]?=some i->ops.toArray[i]?=some o->DK P ops Q fr R T k i o)
 (I:∀ x c,T sl.length c->(∀ i,i<ops.length->R sl.length i (x i) c)->Q .normal (fr x) c) :
 (Code.region id ops.toArray true).wp P Q (fr x0) w:=by
 refine wp_region_any hm (fO (fun L a c=>FV ops fr R T sl L a c) ?_ ?_ _ _ _ _ (by simp) ?_ ?_)
 ·rintro L a V i hs N ⟨x,k,rfl,D,p,g,S,z⟩
  obtain ⟨y,o,r,b⟩:=mem_ready.1 N
  have m:i<L.size:=by
   rcases Nat.lt_or_ge i L.size with h | h
   ·exact h
   rw [Array.getD_eq_getD_getElem?,Array.getElem?_eq_none h] at y;cases y
  have q:L.getD i false=false:=by
   rw [Array.getD_eq_getD_getElem?,Array.getElem?_eq_getElem m] at y ⊢;exact y
  have ao:i<ops.length:=by
   rcases Nat.lt_or_ge i ops.length with h | h
   ·exact h
   rw [Array.getElem?_eq_none (by simpa using h)] at r;cases r
  refine wpOp_step r fun K' hK=>?_
  have J:∀ U v c,R U i v c->(∀ j,L.getD j false=true->R U j (x j) c)->∀ j,(L.setIfInBounds i true).getD j false=true->R U j (upd x i v j) c:=by
   intro U v c hv hx j d;by_cases h:j=i
   ·subst h;rw [dR];exact hv
   rw [bD _ _ h];rw [av m] at d;exact hx j (by simpa [h] using d)
  cases hsi:stl sl i with
  | none =>
   have O:=zy hsi;refine H i o r O k D ?_ x V p (fun e F f=>S _ (b e F f)) K' (fun v c G K=>hK _ _ ⟨upd x i v,k,C i o r x v,D,hT _ _ _ p K,fun l j d=>?_,J k v c G (fun j d=>hR _ _ _ _ _ (S j d) K),fS m r b z⟩)
   ·intro ac
    rcases Nat.eq_zero_or_pos k with h | h
    ·exact h
    exfalso;obtain ⟨l,s,X⟩:=B 0 (by omega);have h3:=(g l 0 X).2 h;have h4:sl.headD 0=l:=by cases sl <;> simp_all
    have:=uJ z _ _ (E i ao O ac) (by rw [h4];exact h3);rw [q] at this;cases this
   have W:l≠i:=by rintro rfl;rw [hsi] at d;cases d
   rw [av m,<- g l j d];simp [W]
  | some j0 =>
   have hk:k=j0:=by
    have s:¬ j0<k:=fun h=>by
     have:=(g i j0 hsi).2 h;rw [q] at this;cases this
    cases j0 with
    | zero=>omega
    | succ j =>
     obtain ⟨e,F,f,al⟩:=t i o j r (io hsi);have:=(g e.on j al).1 (b e F f);omega
   subst hk;refine u k i o (io hsi) r x V (fun i=>L.getD i false=true) (by simp [q]) p (fun e F f=>b e F f) S K' (fun v c aS G aC=>hK _ _ ⟨upd x i v,k+1,C i o r x v,ip (io hsi),aS,fun l j d=>?_,J (k+1) v c G aC,fS m r b z⟩);rw [av m];by_cases h:l=i
   ·subst h
    rw [hsi] at d;injection d with d;subst d;simp
   ·have aT:j≠k:=fun e=>h (by
     have s:=io d;have X:=io hsi;rw [e,X] at s;injection s with s
     exact s.symm)
    rw [show (decide (l=i)||L.getD l false)=L.getD l false by simp [h],g l j d];omega
 ·rintro L a V hs ab ⟨x,k,rfl,D,p,g,S,z⟩
  have n:∀ i,i<ops.length->L.getD i false=true:=by
   intro i
   induction i using Nat.strongRecOn with
   | ind i ih =>
    intro N;have M:i<ops.toArray.size:=by simpa using N
    cases h:L.getD i false
    ·exfalso
     have:i∈Region.ready .any ops.toArray L:=by
      refine mem_ready.2 ⟨?_,ops.toArray[i],Array.getElem?_eq_getElem M,fun e F f=>?_⟩
      ·rw [Array.getD_eq_getD_getElem?,Array.getElem?_eq_getElem (by omega)] at h ⊢;exact h
      have s:=ad i _ (Array.getElem?_eq_getElem M) e F f;exact ih e.on s (by omega)
     rw [ab] at this;cases this
    rfl
  have Y:k=sl.length:=by
   rcases Nat.lt_or_ge k sl.length with h | h
   ·obtain ⟨l,s,Z⟩:=B k h
    have:=(g l k Z).1 (n l (an l (List.mem_of_getElem? s)));omega
   omega
  subst Y;exact I x V p (fun i N=>S i (n i N))
 ·simp
 ·have hz:∀ j,(Array.replicate ops.toArray.size false).getD j false=false:=by
   intro j;rw [Array.getD_eq_getD_getElem?,Array.getElem?_replicate];split <;> rfl
  refine ⟨x0,0,rfl,Nat.zero_le _,h0,fun i j d=>?_,fun i h=>?_,fun i o _ h=>?_⟩
  ·rw [hz];simp
  ·rw [hz] at h;cases h
  rw [hz] at h;cases h
end
def FW (sl:List Nat):Bool:=(List.range sl.length).all fun j=>match sl[j]? with | some i=>stl sl i==some j | none=>false
theorem jA {sl:List Nat}(h:FW sl=true):∀ j,j<sl.length->∃ i,sl[j]?=some i/\stl sl i=some j:=by
 intro j b;have a:=(List.all_eq_true.1 h) j (List.mem_range.2 b);rw [List.getElem?_eq_getElem b] at a ⊢;exact ⟨_,rfl,by simpa using a⟩
def DL (ops:List Oper) (sl:List Nat):Bool:=(List.range sl.length).all fun j=>match sl[j+1]? with | some i=>(match ops[i]? with | some o=>o.after.any (fun e=>Region.binds .any e&&stl sl e.on==some j) | none=>true) | none=>true
theorem fe {ops:List Oper}{sl:List Nat}(h:DL ops sl=true):∀ i o j,ops.toArray[i]?=some o->sl[j+1]?=some i->∃ e∈o.after,Region.binds .any e=true/\stl sl e.on=some j:=by
 intro i o j a d;have g:=(List.getElem?_eq_some_iff.1 d).1;have b:=(List.all_eq_true.1 h) j (List.mem_range.2 (by omega));rw [d] at b;have a:ops[i]?=some o:=by simpa using a
 simp only [a] at b;obtain ⟨e,f,c⟩:=Array.any_eq_true'.1 b;rw [Bool.and_eq_true] at c;exact ⟨e,f,c.1,by simpa using c.2⟩
def DM (ops:List Oper) (sl late:List Nat):Bool:=(List.range ops.length).all fun i=>sl.contains i||late.contains i||nf ops i ops.length (sl.headD 0)
theorem ff {ops:List Oper}{sl a:List Nat}(h:DM ops sl a=true):∀ i,i<ops.length->i ∉ sl->i ∉ a->nf ops i ops.length (sl.headD 0)=true:=by
 intro i f c b;have d:=(List.all_eq_true.1 h) i (List.mem_range.2 f);simpa [c,b] using d
def jl (l:List (Value->World->Prop)):Nat->Value->World->Prop:=fun i=>l.getD i fi
def cj:List (Nat × (Value->World->Prop))->Nat->Value->World->Prop
  | [],_=>fi
  | p::r,i=>if i=p.1 then p.2 else cj r i
def E9 (D:Nat->Prop) (x:Nat->Value) (w:World):List (Nat × (Value->World->Prop))->Prop
  | []=>True
  | p::r=>(D p.1->p.2 (x p.1) w)/\E9 D x w r
theorem cj.all {D:Nat->Prop}{x:Nat->Value}{w:World}:∀ {l:List (Nat × (Value->World->Prop))},E9 D x w l->∀ i,D i->cj l i (x i) w
 | [],_,_,_=>trivial
 | p::r,h,i,hi=>by
  unfold cj;split
  ·rename_i e;subst e;exact h.1 hi
  exact cj.all (l:=r) h.2 i hi
def Fa:List (Nat × (Value->World->Prop))->Prop
  | []=>True
  | p::r=>Grw p.2/\Fa r
theorem jl.grw {l:List (Value->World->Prop)}(h:gy l) (i:Nat):Grw (jl l i):=fun v w a b hb=>gy.get l h i v w a b hb
theorem cj.grw:∀ {l:List (Nat × (Value->World->Prop))},Fa l->∀ i,Grw (cj l i)
 | [],_,_=>lF
 | p::r,h,i=>by
  unfold cj;split
  ·exact h.1
  exact cj.grw (l:=r) h.2 i
def R2 (LL:List (Nat->Value->World->Prop)):Nat->Nat->Value->World->Prop:=fun k=>LL.getD k fun _=>fi
def uK:List (Nat->Value->World->Prop)->Prop
  | []=>True
  | l::r=>(∀ i,Grw (l i))/\uK r
theorem R2.grw:∀ {LL:List (Nat->Value->World->Prop)},uK LL->∀ k i v w w',R2 LL k i v w->Below w.heap.size w w'->R2 LL k i v w'
 | [],_,k,i,v,w,w',_,_=>by
  have e:R2 [] k i=fi:=by unfold R2;simp
  rw [e];trivial
 | l::r,h,0,i,v,w,w',hx,hb=>h.1 i v w w' hx hb
 | l::r,h,k+1,i,v,w,w',hx,hb=>R2.grw (LL:=r) h.2 k i v w w' hx hb
def T2 (l:List (World->Prop)):Nat->World->Prop:=fun k=>l.getD k fun _=>True
def uL:List (World->Prop)->Prop
  | []=>True
  | p::r=>(∀ w w',p w->Below w.heap.size w w'->p w')/\uL r
theorem T2.grw:∀ {l:List (World->Prop)},uL l->∀ k w w',T2 l k w->Below w.heap.size w w'->T2 l k w'
 | [],_,k,w,w',_,_=>by
  have e:T2 [] k=fun _=>True:=by unfold T2;simp
  rw [e];trivial
 | p::r,h,0,w,w',hx,hb=>h.1 w w' hx hb
 | p::r,h,k+1,w,w',hx,hb=>T2.grw (l:=r) h.2 k w w' hx hb
section
variable {α:Type}{T0:TypeId}{Pc:World->List Value->α->Prop}{s:Nat}{w w':World}{B B':Nat}{v:Value}{n:Nat}{l:List α}
theorem OwJ.base {J:Value->Bool}{a:List Value}(h:OwJ J w B T0 s v n a) (hB:B'<=B):OwJ J w B' T0 s v n a:=⟨h.1,h.2.imp id fun ⟨g,cap,cur,d,b,c⟩=>⟨g,cap,cur,d,Nat.le_trans hB b,c⟩⟩
theorem aq.base (h:aq T0 Pc s w B v n l) (hB:B'<=B):aq T0 Pc s w B' v n l:=by
 obtain ⟨f,d,g,c⟩:=h;exact ⟨f,d,g.base hB,c⟩
class gK {α:Type}(Pc:World->List Value->α->Prop):Prop where
 grow:∀ {w b:World}{cs:List Value}{a:α},Tch (fun _=>false) w b->Pc w cs a->Pc b cs a
instance:gK JtC:=⟨fun _ x=>x⟩
instance:gK DrC:=⟨fun _ x=>x⟩
instance:gK EdC:=⟨fun _ x=>x⟩
instance {k:Nat}:gK (MkC k):=⟨fun h x=>x.tch h⟩
instance {k:Nat}:gK (BdC k):=⟨fun h x=>x.tch h rfl⟩
instance {k:Nat}:gK (LkC k):=⟨fun h x=>x.tch h rfl rfl rfl rfl⟩
theorem aq.blw [gK Pc] (h:aq T0 Pc s w B v n l) (hb:Below w.heap.size w w'):aq T0 Pc s w' B v n l:=h.tch (T:=fun _=>false) (Tch.below hb) rfl fun _ _ x=>gK.grow (Tch.below hb) x
def zF {α:Type}(T0:TypeId) (Pc:World->List Value->α->Prop) (s B n:Nat) (l:List α):Value->World->Prop:=fun v w=>aq T0 Pc s w B v n l/\True
theorem Fb [gK Pc] (l:List α):Grw (zF T0 Pc s B n l):=fun _ _ _ h hb=>⟨h.1.blw hb,trivial⟩
theorem OwJ.neb {J:Value->Bool}{b:List Value}(h:OwJ J w B T0 s v n b) {g:Nat}{a:TypeId}{cs:Array Value}(x:Blk w g a cs) (c:a≠T0):some g≠v.ownBlock:=by
 intro e;obtain ⟨_,cur,d,_⟩:=h.at_ e.symm;have:=x.symm.trans d;injection this with this;injection this with _ h4;exact c h4
theorem Blk.grw {g:Nat}{b:TypeId}{cs:Array Value}{row:Option Nat}(x:Blk w g b cs) (k:w.grownBy w' row) (a:some g≠row):Blk w' g b cs:=(k.block g x.lt a).trans x
theorem iZ {o:Value}{f:World}{i cs:List Value}{a:α}(q:l.length=n) (c:OwJ noW w B T0 s v n i) (h:co Pc s w l i)
 (t:Pc w cs a) (m:cs.length=s) (d:OwJ noW f B T0 s o (n+1) (i++cs)) (b:w.grownBy f v.ownBlock) (hB:B<=w.heap.size) (g:∀ w' cs a,Tch (bi T0) w w'->Pc w cs a->Pc w' cs a) :
 aq T0 Pc s f B o (n+1) (l++[a])/\Tch (bi T0) w f/\Below B w f:=by
 have j:Tch (bi T0) w f:=Tch.grown (fun _ r=>r) (by simp [bi]) c b;exact ⟨⟨by simp [q],i++cs,d,(h.map_ fun cs a x=>g _ _ _ j x).snoc (g _ _ _ j t) m⟩,j,(Below.refl B w).grown b hB (fun k p=>(c.at_ p).1)⟩
end
theorem Blk.s4 {w:World}{g t:Nat}{f i j k:Value}(h:Blk w g t #[f,i,j,k]) (c d a b:Value):Blk ((((w.setCell ⟨g,0,none⟩ c).setCell ⟨g,1,none⟩ d).setCell ⟨g,2,none⟩ a).setCell ⟨g,3,none⟩ b) g t #[c,d,a,b]:=(((h.set_ 0 c).set_ 1 d).set_ 2 a).set_ 3 b
theorem co.imp {α:Type}{Pc c:World->List Value->α->Prop}{s:Nat}{w f:World}{l:List α}{g:List Value}(h:co Pc s w l g) (o:∀ cs a,Pc w cs a->c f cs a):co c s f l g:=by
 obtain ⟨d,e,n,b,m⟩:=h;exact ⟨d,e,n,b,fun i a cs k j=>o _ _ (m i a cs k j)⟩
def uM (L:ag):Prop:=∀ b∈L.bodies,∀ m∈b.pts,m.x.ok=true/\m.y.ok=true
def BdO (B:Nat) (w:World) (cs:List Value) (b:BodyL):Prop:=∃ A n c,cs=[aa b.name,.slice A n c]/\aq 56 (MkC 130) 7 w B (.slice A n c) n b.pts/\NmL b.name
theorem BdO.bdc {B:Nat}{w:World}{cs:List Value}{b:BodyL}(h:BdO B w cs b):BdC 130 w cs b:=by
 obtain ⟨A,n,c,f,d,a⟩:=h;exact ⟨A,n,c,f,d.slT fun _ _ _ _ x g=>x.at_ g,a⟩
theorem BdO.tch {B:Nat}{w a:World}{cs:List Value}{b:BodyL}{T:TypeId->Bool}(h:BdO B w cs b) (t:Tch T w a) (f:T 56=false):BdO B a cs b:=by
 obtain ⟨A,n,c,i,g,d⟩:=h;exact ⟨A,n,c,i,g.tch t f fun _ _ x=>x.tch t,d⟩
def Dj (xs:List Value):Prop:=∀ i j g n c n' c',i<j->xs[i*2+1]?=some (.slice (some ⟨g,0,none⟩) n c)->xs[j*2+1]?=some (.slice (some ⟨g,0,none⟩) n' c')->False
theorem BdO.lt {B:Nat}{w:World}{l:List BodyL}{o:List Value}(h:co (BdO B) 2 w l o) {i g n c:Nat}(f:o[i*2+1]?=some (.slice (some ⟨g,0,none⟩) n c)):g<w.heap.size:=by
 obtain ⟨j,e,t,b,q⟩:=h
 have s:i<j.length:=by
  have p:=(List.getElem?_eq_some_iff.1 f).1
  have y:o.length=j.length*2:=by
   rw [e];clear q t f p e
   induction j with
   | nil=>rfl
   | cons a r ih =>
    rw [List.flatten_cons,List.length_append,b a (by simp),ih (fun x f=>b x (by simp [f])),List.length_cons];omega
  omega
 obtain ⟨A,m,d,u,p,_⟩:=q i l[i] j[i] (List.getElem?_eq_getElem (by omega)) (List.getElem?_eq_getElem s);rw [e,kg b (List.getElem?_eq_getElem s) 1 (by omega),u] at f;injection f with f;injection f with f _ _;subst f;obtain ⟨_,z,k,_⟩:=p;obtain ⟨_,cur,v,_⟩:=k.at_ (g:=g) rfl;exact lt_of_block v
def jm (B:Nat) (w:World) (v:Value) (n:Nat) (l:List BodyL):Prop:=l.length=n/\∃ xs,OwJ noW w B 51 2 v n xs/\co (BdO B) 2 w l xs/\Dj xs
theorem jm.nil {B:Nat}{w:World}:jm B w (.slice none 0 0) 0 []:=⟨rfl,[],OwJ.nil _ _ _ _ _,co.nil,fun _ _ _ _ _ _ _ _ h=>by simp at h⟩
theorem jm.row {B:Nat}{w:World}{v:Value}{n:Nat}{l:List BodyL}(h:jm B w v n l):aq 51 (BdC 130) 2 w B v n l:=by
 obtain ⟨a,d,c,b,_⟩:=h;exact ⟨a,d,c,b.imp fun _ _ x=>x.bdc⟩
theorem jm.tch {B:Nat}{w b:World}{v:Value}{n:Nat}{l:List BodyL}{T:TypeId->Bool}(h:jm B w v n l) (t:Tch T w b) (p:T 56=false) (a:T 51=false):jm B b v n l:=by
 obtain ⟨f,j,c,i,k⟩:=h;refine ⟨f,j,⟨c.1,c.2.imp id fun ⟨g,cap,cur,m,o,q,d⟩=>⟨g,cap,cur,m,o,t.2 g cur _ _ q (.inl a),d⟩⟩,i.map_ fun _ _ x=>x.tch t p,k⟩
theorem jm.blw {B:Nat}{w a:World}{v:Value}{n:Nat}{l:List BodyL}(h:jm B w v n l) (hb:Below w.heap.size w a):jm B a v n l:=h.tch (T:=fun _=>false) (Tch.below hb) rfl rfl
theorem Dj.snoc {B:Nat}{w:World}{l:List BodyL}{f:List Value}(m:co (BdO B) 2 w l f) (hd:Dj f) (b:f.length=l.length*2) {A:Option Addr}{n c:Nat}{nm:Value}(o:∀ g,A=some ⟨g,0,none⟩->w.heap.size<=g):Dj (f++[nm,.slice A n c]):=by
 intro i j g p c1 q c2 k h a;rcases Nat.lt_or_ge j l.length with d | d
 ·rw [List.getElem?_append_left (by omega)] at h a
  exact hd i j g _ _ _ _ k h a
 rcases Nat.eq_or_lt_of_le d with d | d
 ·subst d
  rw [List.getElem?_append_left (by omega)] at h;rw [List.getElem?_append_right (by omega),b,show l.length*2+1-l.length*2=1 by omega] at a;injection a with a;injection a with a _ _;have:=o g a;have:=BdO.lt m h;omega
 have:=(List.getElem?_eq_some_iff.1 a).1;rw [List.length_append,b] at this;simp at this;omega
structure CpO (B:Nat) (w:World) (A:Option Addr) (n c:Nat) (C:Option Addr) (p d:Nat) (D:Option Addr) (q e:Nat) (L:ag):Prop where
  bd:jm B w (.slice A n c) n L.bodies
  jt:aq 81 JtC 7 w B (.slice C p d) p L.joints
  dr:aq 86 DrC 2 w B (.slice D q e) q L.drivers
  nm:NmL L.name
theorem CpO.lkY {B:Nat}{w:World}{A C D:Option Addr}{n c p d q e:Nat}{L:ag}(h:CpO B w A n c C p d D q e L):LkY 130 w A n c C p d D q e L:=fun _ _ t f a g b =>
 ⟨h.nm,(h.bd.row.tch t f (fun _ _ x=>x.tch t b)).bds,(h.jt.tch t a (fun _ _ x=>x)).jts,(h.dr.tch t g (fun _ _ x=>x)).drs⟩
def sn (w:World) (L:ag) (e:Ending) (w':World):Prop:=∃ A n c C p d D q f,e=.returned (.agg #[aa L.name,.slice A n c,.slice C p d,.slice D q f])/\CpO w.heap.size w' A n c C p d D q f L/\Below w.heap.size w w'
theorem uN (w:World) {b:Bool}{A:Option Addr}{n c:Nat}{D:Option Addr}{m e:Nat}{a:RD}(h:QD w b A n c D m e a 130) (t:a.ok=true):Calls Tryz.prog 60 #[.agg #[.bool b,.slice A n c,.slice D m e],.agg #[.bool false,.slice none 0 0,.slice none 0 0]] w (fun k d=>∃ b A n c D m e,k=.returned (.agg #[.bool b,.slice A n c,.slice D m e])/\QD d b A n c D m e a 130/\Below w.heap.size w d):=by
 have v:=h.sz (by decide);have u:=eN h.2.1.1 h.2.2.1.1 t;refine (Dn w b A n c D m e a.q 130 h.qz false none 0 0 none 0 0 0 1 (QV.zero w 1).qz (by decide) (by decide) (by decide) (by decide)).mono ?_;rintro k d ⟨j,l,g,i,p,r,o,rfl,f,hb⟩;rw [Rat.add_zero] at f;have s:QV d j l g i p r o a.q 130:=QV.mk_ f.2.1 f.2.2.1 f.1 v;refine ⟨j,l,g,i,p,r,o,rfl,?_,hb⟩;unfold QV at s;rwa [u] at s
def VRd (a:RD):Value->World->Prop:=fun v w=>∃ b A n c D m e,v=.agg #[.bool b,.slice A n c,.slice D m e]/\QD w b A n c D m e a 130
theorem gRd (a:RD):Grw (VRd a):=fun _ _ _ ⟨b,A,n,c,D,m,e,d,h⟩ hb=>⟨b,A,n,c,D,m,e,d,h.belw hb⟩
def VMc (mk:MarkL):Value->World->Prop:=fun v w=>∃ b A n c D m e b' A' n' c' D' m' e',v=.agg #[aa mk.name,.bool b,.slice A n c,.slice D m e,.bool b',.slice A' n' c',.slice D' m' e']/\QD w b A n c D m e mk.x 130/\QD w b' A' n' c' D' m' e' mk.y 130
theorem gMc (mk:MarkL):Grw (VMc mk):=fun _ _ _ ⟨b,A,n,c,D,m,e,g,o,a,f,i,j,l,h,k,d⟩ hb=>⟨b,A,n,c,D,m,e,g,o,a,f,i,j,l,h,k.belw hb,d.belw hb⟩
def VMs (mk:MarkL):Value->World->Prop:=fun v w=>∃ g b A n c D m e b' A' n' c' D' m' e',v=.slice (some ⟨g,0,none⟩) 1 1/\Blk w g 56 #[aa mk.name,.bool b,.slice A n c,.slice D m e,.bool b',.slice A' n' c',.slice D' m' e']/\QD w b A n c D m e mk.x 130/\QD w b' A' n' c' D' m' e' mk.y 130
theorem gMs (mk:MarkL):Grw (VMs mk):=fun _ _ _ ⟨g,b,A,n,c,D,m,e,i,q,d,h,l,o,p,j,a,f,k⟩ hb=>⟨g,b,A,n,c,D,m,e,i,q,d,h,l,o,p,j,a.below hb a.lt,f.belw hb,k.belw hb⟩
def VCp (B p q:Nat) (L:ag):Value->World->Prop:=fun v w=>∃ A c A' c',v=.agg #[aa L.name,.slice none 0 0,.slice A p c,.slice A' q c']/\aq 81 JtC 7 w B (.slice A p c) p L.joints/\aq 86 DrC 2 w B (.slice A' q c') q L.drivers
theorem gCp {B p q:Nat}{L:ag}:Grw (VCp B p q L):=fun _ _ _ ⟨A,c,g,b,f,d,a⟩ hb=>⟨A,c,g,b,f,d.blw hb,a.blw hb⟩
abbrev ko (u0 u1 u2 u4 u5 u6 u7 u8 u18 u19 u20 u21 u22 u23 u24 u25 u26 u27 u28 u29 u30 u31 u32 u33 u34 u35 u36 u37 u38 u39 u40 u41 u42 u43 u44 u45 u46 u47 u48 u49 u50 u51 u52 u53 u54 u55 u56 u57 u58 u59:Value) (xf:Nat->Value):Act:=⟨List.toArray (u0::u1::u2::xf 9::u4::u5::u6::u7::u8::xf 0::xf 1::xf 2::xf 3::xf 4::xf 5::xf 6::xf 7::xf 8::u18::u19::u20::u21::u22::u23::u24::u25::u26::u27::u28::u29::u30::u31::u32::u33::u34::u35::u36::u37::u38::u39::u40::u41::u42::u43::u44::u45::u46::u47::u48::u49::u50::u51::u52::u53::u54::u55::u56::u57::u58::u59::[]),[]⟩
abbrev ks (u0 u1 u2 u3 u4 u5 u6 u7 u8 u9 u10 u11 u12 u13 u14 u15 u16 u17 u18 u19 u20 u21 u22 u23 u24 u25 u26 u27 u28 u29 u30 u31 u32 u33 u34 u51 u52 u53 u54 u55 u56 u57 u58 u59:Value) (xf:Nat->Value):Act:=⟨List.toArray (u0::u1::u2::u3::u4::u5::u6::u7::u8::u9::u10::u11::u12::u13::u14::u15::u16::u17::u18::u19::u20::u21::u22::u23::u24::u25::u26::u27::u28::u29::u30::u31::u32::u33::u34::xf 0::xf 1::xf 2::xf 3::xf 4::xf 5::xf 6::xf 7::xf 8::xf 9::xf 10::xf 11::xf 12::xf 13::xf 14::xf 15::u51::u52::u53::u54::u55::u56::u57::u58::u59::[]),[]⟩
theorem ng (F:FuncId) (hF:F=32\/F=74) (w:World) (A:Option Addr) (n c:Nat) (B:Option Addr) (p d:Nat) (C:Option Addr) (q e:Nat) (L:ag) (h:LkS 130 w A n c B p d C q e L) (W:uM L) (hn:n<=1000) (hp:p<=1000) (hq:q<=1000) (bz:∀ b∈L.bodies,b.pts.length<=1000):Calls Tryz.prog F #[.agg #[aa L.name,.slice A n c,.slice B p d,.slice C q e]] w (sn w L):=by
 obtain ⟨ib,ao,a0,a1,al⟩:=info_parts pW;have a2:=Qh (And.intro ao (And.intro a0 (And.intro a1 al)));clear ao a0 a1 al;obtain ⟨im,ao,a0,a1,al⟩:=info_parts uE;have a4:=Qh (And.intro ao (And.intro a0 (And.intro a1 al)));clear ao a0 a1 al;have H:=Qh h;have HO:=Qh W;have eb:=Qh bz;clear h W bz;rcases hF with rfl | rfl
 all_goals
  first
  | (go_in)
  | (go_in)
  go_wp2_with fail;have x0:Blk (w.alloc (.cells #[aa L.name,.slice A n c,.slice B p d,.slice C q e] 26)) w.heap.size 26 #[aa L.name,.slice A n c,.slice B p d,.slice C q e]:=Blk.new _ _ _;have XA:=Qh (x0.alloc (.cells #[.string ⟨#[]⟩,.slice none 0 0,.slice none 0 0,.slice none 0 0] 26));have XR:Hid (Blk ((w.alloc (.cells #[aa L.name,.slice A n c,.slice B p d,.slice C q e] 26)).alloc (.cells #[.string ⟨#[]⟩,.slice none 0 0,.slice none 0 0,.slice none 0 0] 26)) (w.heap.size+1) 26 #[.string ⟨#[]⟩,.slice none 0 0,.slice none 0 0,.slice none 0 0]):=Qh (ak _ _ _ (by simp));have Q0:=Qh (((ae w).alloc Qr (.cells #[aa L.name,.slice A n c,.slice B p d,.slice C q e] 26)).alloc (by simp) (.cells #[.string ⟨#[]⟩,.slice none 0 0,.slice none 0 0,.slice none 0 0] 26));generalize ((w.alloc (.cells #[aa L.name,.slice A n c,.slice B p d,.slice C q e] 26)).alloc (.cells #[.string ⟨#[]⟩,.slice none 0 0,.slice none 0 0,.slice none 0 0] 26))=w0 at XA XR Q0 ⊢;clear x0;change Code.wp _ _ _ (ko _ _ _ _ _ _ _ _ _ _ _ _ _ _ _ _ _ _ _ _ _ _ _ _ _ _ _ _ _ _ _ _ _ _ _ _ _ _ _ _ _ _ _ _ _ _ _ _ _ _ (fun _=>undef)) _;refine cB (x0:=(fun _=>undef)) [10] [] (R:=R2 ((jl ((PEq (.pointer (some ⟨w.heap.size,0,none⟩)))::(PEq (aa L.name))::(PEq (.pointer (some ⟨w.heap.size,2,none⟩)))::(PEq (.slice B p d))::(zF 81 JtC 7 w.heap.size p L.joints)::(PEq (.pointer (some ⟨w.heap.size,3,none⟩)))::(PEq (.slice C q e))::(zF 86 DrC 2 w.heap.size q L.drivers)::(VCp w.heap.size p q L)::(fun v N=>∃ g,v=.pointer (some ⟨g,0,none⟩)/\w0.heap.size<=g/\Blk N g 26 #[.string ⟨#[]⟩,.slice none 0 0,.slice none 0 0,.slice none 0 0])::fi::[]))::(cj ((9,(fun v N=>∃ g U c1 G c2,v=.pointer (some ⟨g,0,none⟩)/\w0.heap.size<=g/\Blk N g 26 #[aa L.name,.slice none 0 0,.slice U p c1,.slice G q c2]/\aq 81 JtC 7 N w.heap.size (.slice U p c1) p L.joints/\aq 86 DrC 2 N w.heap.size (.slice G q c2) q L.drivers))::[]))::[])) (T:=T2 ((fun N=>Below w0.heap.size w0 N)::(fun N=>Below w0.heap.size w0 N)::[])) (by kernel_rfl) ?_ ?_ (by decide) (jA (by decide)) (fe (by kernel_rfl)) (ff (by kernel_rfl)) (R2.grw ⟨jl.grw ⟨gEq _,gEq _,gEq _,gEq _,Fb _,gEq _,gEq _,Fb _,gCp,(fun _ _ _ ⟨g,h0,h1,h2⟩ hb=>⟨g,h0,h1,h2.below hb h2.lt⟩),lF,trivial⟩,cj.grw ⟨(fun _ _ _ ⟨g,U,c1,G,c2,h0,h1,h2,h3,h4⟩ hb=>⟨g,U,c1,G,c2,h0,h1,h2.below hb h2.lt,h3.blw hb,h4.blw hb⟩),trivial⟩,trivial⟩) (T2.grw ⟨fun _ _ h hb=>h.trans (hb.mono h.size),fun _ _ h hb=>h.trans (hb.mono h.size),trivial⟩) ?_ ?_ ?_ ?_
  ·exact aw ⟨(fun _ _=>rfl),(fun _ _=>rfl),(fun _ _=>rfl),(fun _ _=>rfl),(fun _ _=>rfl),(fun _ _=>rfl),(fun _ _=>rfl),(fun _ _=>rfl),(fun _ _=>rfl),(fun _ _=>rfl),(fun _ _=>rfl),trivial⟩
  ·exact aw (bF _ 0 (by kernel_rfl))
  ·exact (ae _).drew
  ·refine aw ⟨?_,?_,?_,?_,?_,?_,?_,?_,?_,?_,(fun h=>absurd (by decide) h),trivial⟩
   intro _ k _ l;obtain rfl:=l (by decide);intro r j f hd K t;have u:=trivial;rotate_left;intro _ k _ l;obtain rfl:=l (by decide);intro r j f hd K t;have u:r 0=_:=hd ⟨0,.data⟩ (by simp) rfl;have f:Below w0.heap.size w0 j:=f;have hc:j.cell? ⟨w.heap.size,0,none⟩=some (aa L.name):=(XA.out.below f XA.out.lt).cell 0;rotate_left;intro _ k _ l;obtain rfl:=l (by decide);intro r j f hd K t;have u:=trivial;rotate_left;intro _ k _ l;obtain rfl:=l (by decide);intro r j f hd K t;have u:r 2=_:=hd ⟨2,.data⟩ (by simp) rfl;have f:Below w0.heap.size w0 j:=f;have hc:j.cell? ⟨w.heap.size,2,none⟩=some (.slice B p d):=(XA.out.below f XA.out.lt).cell 2;rotate_left
   ·intro _ k _ l
    obtain rfl:=l (by decide);intro r j f hd K t;have f:Below w0.heap.size w0 j:=f;have an:r 3=.slice B p d:=hd ⟨3,.data⟩ (by simp) rfl;(try dsimp only [ko]);(try simp only [an]);go_simp;go_at_call 58;refine (tF j B p d L.joints ((H.out.joints.jt Q0.out).jt (f.mono Qr)) (by omega)).mono ?_;rintro e9 wr ⟨v,rfl,z,Z⟩;have s:=t.out _ _ ⟨z.base (by have:=Q0.out.size;have:=f.size;omega),trivial⟩ Z;dsimp only [ko] at s;simp only [an] at s;exact s
   intro _ k _ l;obtain rfl:=l (by decide);intro r j f hd K t;have u:=trivial;rotate_left;intro _ k _ l;obtain rfl:=l (by decide);intro r j f hd K t;have u:r 5=_:=hd ⟨5,.data⟩ (by simp) rfl;have f:Below w0.heap.size w0 j:=f;have hc:j.cell? ⟨w.heap.size,3,none⟩=some (.slice C q e):=(XA.out.below f XA.out.lt).cell 3;rotate_left
   ·intro _ k _ l
    obtain rfl:=l (by decide);intro r j f hd K t;have f:Below w0.heap.size w0 j:=f;have ad:r 6=.slice C q e:=hd ⟨6,.data⟩ (by simp) rfl;(try dsimp only [ko]);(try simp only [ad]);go_simp;go_at_call 59;refine (tG j C q e L.drivers ((H.out.drivers.dr Q0.out).dr (f.mono Qr)) (by omega)).mono ?_;rintro e9 wr ⟨v,rfl,z,Z⟩;have s:=t.out _ _ ⟨z.base (by have:=Q0.out.size;have:=f.size;omega),trivial⟩ Z;dsimp only [ko] at s;simp only [ad] at s;exact s
   ·intro _ k _ l
    obtain rfl:=l (by decide);intro r j f hd K t;have a5:r 1=aa L.name:=hd ⟨1,.data⟩ (by simp) rfl;have d4:zF 81 JtC 7 w.heap.size p L.joints (r 4) j:=hd ⟨4,.data⟩ (by simp) rfl;have d7:zF 86 DrC 2 w.heap.size q L.drivers (r 7) j:=hd ⟨7,.data⟩ (by simp) rfl;obtain ⟨A4,c4,e4⟩:=d4.1.form;obtain ⟨A7,c7,e7⟩:=d7.1.form;have d4:=d4.1;have d7:=d7.1;rw [e4.1] at d4;rw [e7.1] at d7;(try dsimp only [ko]);(try simp only [a5,e4.1,e7.1]);go_simp;have s:=t.out _ _ ⟨A4,c4,A7,c7,rfl,d4,d7⟩ (ae _);dsimp only [ko] at s;simp only [a5,e4.1,e7.1] at s;exact s
   ·intro _ k _ l
    obtain rfl:=l (by decide);intro r j f hd K t;have f:Below w0.heap.size w0 j:=f;(try dsimp only [ko]);go_simp;have s:=t.out (.pointer (some ⟨j.heap.size,0,none⟩)) (j.alloc (.cells #[.string ⟨#[]⟩,.slice none 0 0,.slice none 0 0,.slice none 0 0] 26)) ⟨j.heap.size,rfl,f.size,Blk.new _ _ _⟩ ((ae j).alloc Qr _);dsimp only [ko] at s;exact s
   all_goals
    (try dsimp only [ko]);(try simp only [u]);go_simp;have s:=t.out _ _ rfl (ae _);dsimp only [ko] at s;(try simp only [u] at s);exact s
  ·intro k i o l W
   obtain rfl:=(show k=0 by have:=ip l;have:k<1:=this;omega)
   ·injection l with l
    subst l;injection W with W;subst W;intro r j DD hn f hD hd K t;have f:Below w0.heap.size w0 j:=f;obtain ⟨g3,e9,a3,J⟩:∃ g,r 9=.pointer (some ⟨g,0,none⟩)/\w0.heap.size<=g/\Blk j g 26 #[.string ⟨#[]⟩,.slice none 0 0,.slice none 0 0,.slice none 0 0]:=hd 9 (hD ⟨9,.data⟩ (by simp) rfl);obtain ⟨U,c1,G,c2,e8,hj,Y⟩:VCp w.heap.size p q L (r 8) j:=hd 8 (hD ⟨8,.data⟩ (by simp) rfl);obtain ⟨ek,ec,ej,ev⟩:=J.c4;obtain ⟨eq,ed,eD,el⟩:=J.f4;(try dsimp only [ko]);(try simp only [e8,e9]);go_simp;have t1:=lm J ⟨rfl,rfl,rfl,rfl⟩ (aa L.name) (.slice none 0 0) (.slice U p c1) (.slice G q c2);have s:=t.out undef _ (show Below w0.heap.size w0 _ from cO f a3 (aa L.name) (.slice none 0 0) (.slice U p c1) (.slice G q c2)) trivial (cj.all ⟨fun _=>⟨g3,U,c1,G,c2,e9,a3,J.s4 _ _ _ _,hj.tch t1 (by decide) (fun _ _ x=>x),Y.tch t1 (by decide) (fun _ _ x=>x)⟩,trivial⟩);dsimp only [ko] at s;simp only [e8,e9] at s;exact s
  intro r w9 f hr;obtain ⟨g3,U,c1,G,c2,e9,a3,J,hj,Y⟩:∃ g U c1 G c2,r 9=.pointer (some ⟨g,0,none⟩)/\w0.heap.size<=g/\Blk w9 g 26 #[aa L.name,.slice none 0 0,.slice U p c1,.slice G q c2]/\aq 81 JtC 7 w9 w.heap.size (.slice U p c1) p L.joints/\aq 86 DrC 2 w9 w.heap.size (.slice G q c2) q L.drivers:=hr 9 (by decide);have f:Below w0.heap.size w0 w9:=f;have xa:=XA.out.below f XA.out.lt;have xr:=XR.out.below f XR.out.lt;have q9:=Q0.out.trans (f.mono Q0.out.size);clear hr f;dsimp only [ko];rw [e9];generalize r 0=v0;generalize r 1=v1;generalize r 2=v2;generalize r 3=v3;generalize r 4=v4;generalize r 5=v5;generalize r 6=v6;generalize r 7=v7;generalize r 8=v8;clear e9;have HJ:=Qh hj;have HD:=Qh Y;have em:=xr.lt;have cy:w.heap.size+1<g3:=by have:=XR.out.lt;omega
  have b7:=Qh cy;have dq:=xa.cell 1;clear hj Y a3;go_wp2_with fail;clear dq;go_loopw [21] (fun iv wr=>∃ (i:Nat) (P:Option Addr) (c3:Nat),iv=.int .i64 (i:Nat)/\i<=n/\Blk wr (w.heap.size+1) 26 #[.string ⟨#[]⟩,.slice none 0 0,.slice none 0 0,.slice none 0 0]/\Blk wr g3 26 #[aa L.name,.slice P i c3,.slice U p c1,.slice G q c2]/\jm w.heap.size wr (.slice P i c3) i (L.bodies.take i)/\aq 81 JtC 7 wr w.heap.size (.slice U p c1) p L.joints/\aq 86 DrC 2 wr w.heap.size (.slice G q c2) q L.drivers/\Below w.heap.size w wr) (fun iv _=>n-(intOf iv).toNat)
  case atStart=>exact ⟨0,none,0,rfl,Nat.zero_le _,xr,J,jm.nil,HJ.out,HD.out,q9⟩
  case round =>
   clear xa xr J q9 HJ HD;obtain ⟨i,P,c3,rfl,hi,xr,J,O,hj,Y,q9⟩:=hrel;rename World=>wb;have XR:=Qh xr;have X3:=Qh J;have cm:=Qh O;have HJ:=Qh hj;have HD:=Qh Y;have Q9:=Qh q9;have ei:=J.lt;clear xr J O hj Y q9;rcases Nat.lt_or_ge i n with cu | e5
   ·have cr:((i:Int)<(n:Int))=True:=by simp;omega
    obtain ⟨gb,ob,bd,eA,ex,es,bs,hB⟩:=(H.out.bodies.bd Q9.out).at_ cu;subst eA;obtain ⟨A',m,c',d0,d1,hM,bw⟩:=hB;have bn:bd∈L.bodies:=List.mem_of_getElem? bs;have eQ:m<=1000:=by rw [<- hM.1];exact eb.out bd bn
    have OB:=Qh (HO.out bd bn);have HM:=Qh hM;have ea:=Qh bs;have cx:=Qh bw;clear bs hM bn bw;go_wp2_with fail;clear d0 d1;have q4:Below wb.heap.size wb ((wb.alloc (.cells #[aa bd.name,.slice A' m c'] 51)).alloc (.cells #[aa bd.name,.slice none 0 0] 51)):=((ae wb).alloc Qr _).alloc (by simp) _;have S:Blk ((wb.alloc (.cells #[aa bd.name,.slice A' m c'] 51)).alloc (.cells #[aa bd.name,.slice none 0 0] 51)) (wb.heap.size+1) 51 #[aa bd.name,.slice none 0 0]:=ak _ _ _ (by simp);generalize ((wb.alloc (.cells #[aa bd.name,.slice A' m c'] 51)).alloc (.cells #[aa bd.name,.slice none 0 0] 51))=w4 at q4 S ⊢;generalize cL:wb.heap.size+1=g6 at S ⊢;have cn:=Qh (show wb.heap.size<=g6 by omega);clear cL;go_loopw [31] (fun iv wr=>∃ (k:Nat) (A4:Option Addr) (c4:Nat),iv=.int .i64 (k:Nat)/\k<=m/\Blk wr g6 51 #[aa bd.name,.slice A4 k c4]/\aq 56 (MkC 130) 7 wr wb.heap.size (.slice A4 k c4) k (bd.pts.take k)/\Below wb.heap.size wb wr) (fun iv _=>m-(intOf iv).toNat)
    case atStart=>exact ⟨0,none,0,rfl,Nat.zero_le _,S,aq.nil,q4⟩
    case round =>
     clear S q4;obtain ⟨k,G,c2,rfl,l,S,ac,qb⟩:=hrel;rename World=>w3;have a6:=Qh S;have br:=Qh ac;have M:=Qh qb;clear S ac qb;rcases Nat.lt_or_ge k m with ck | eh
     ·have c8:((k:Int)<(m:Int))=True:=by simp;omega
      obtain ⟨gk,ok,mk,eA,e6,ee,bf,t⟩:=(HM.out.mk_ M.out).at_ ck;subst eA;obtain ⟨d0,⟨b1,E1,n1,y1,F1,m1,z1,d1,d2,d3,hx⟩,⟨b2,E2,n2,y2,F2,m2,z2,d4,d5,d6,hy⟩,cb⟩:=t;have TK:=Qh (show bd.pts.take (k+1)=bd.pts.take k++[mk] by rw [List.take_add_one,bf];rfl);have OM:=Qh (OB.out mk (List.mem_of_getElem? bf));have ds:=Qh cb;clear bf cb;have cc:=Qh hx;have ca:=Qh hy;clear hx hy;rw [show ok+k*7+1+1=ok+k*7+2 by omega] at d2;rw [show ok+k*7+1+2=ok+k*7+3 by omega] at d3;rw [show ok+k*7+4+1=ok+k*7+5 by omega] at d5;rw [show ok+k*7+4+2=ok+k*7+6 by omega] at d6;go_wp2_with fail;clear d0 d1 d2 d3 d4 d5 d6;have qm:Below w3.heap.size w3 (w3.alloc (.cells #[aa mk.name,.bool b1,.slice E1 n1 y1,.slice F1 m1 z1,.bool b2,.slice E2 n2 y2,.slice F2 m2 z2] 56)):=(ae w3).alloc Qr _;have V:=Qh (Blk.new w3 56 #[aa mk.name,.bool b1,.slice E1 n1 y1,.slice F1 m1 z1,.bool b2,.slice E2 n2 y2,.slice F2 m2 z2]);have X6:=Qh (a6.out.below qm a6.out.lt);have RM:=Qh (br.out.blw qm);have QB:=Qh (M.out.trans (qm.mono M.out.size));have HX:=Qh (cc.out.belw qm);have HY:=Qh (ca.out.belw qm);have aS:=Qh (QB.out.size);generalize (w3.alloc (.cells #[aa mk.name,.bool b1,.slice E1 n1 y1,.slice F1 m1 z1,.bool b2,.slice E2 n2 y2,.slice F2 m2 z2] 56))=w5 at V X6 RM QB HX HY aS ⊢;generalize w3.heap.size=gm at V ⊢;clear qm a6 br M cc ca;change Code.wp _ _ _ (ks _ _ _ _ _ _ _ _ _ _ _ _ _ _ _ _ _ _ _ _ _ _ _ _ _ _ _ _ _ _ _ _ _ _ _ _ _ _ _ _ _ _ _ _ (fun ri=>List.getD (_::_::_::_::_::_::_::_::_::_::_::_::_::_::_::_::undef::[]) ri undef)) _;refine cB (x0:=_) [14,16] [15] (R:=R2 ((jl ((PEq (.pointer (some ⟨g6,1,none⟩)))::(PEq (.slice G k c2))::(PEq (.pointer (some ⟨gm,0,none⟩)))::(PEq (aa mk.name))::(PEq (.pointer (some ⟨gm,1,none⟩)))::(PEq (.agg #[.bool b1,.slice E1 n1 y1,.slice F1 m1 z1]))::(PEq (.agg #[.bool false,.slice none 0 0,.slice none 0 0]))::(VRd mk.x)::(PEq (.pointer (some ⟨gm,4,none⟩)))::(PEq (.agg #[.bool b2,.slice E2 n2 y2,.slice F2 m2 z2]))::(PEq (.agg #[.bool false,.slice none 0 0,.slice none 0 0]))::(VRd mk.y)::(VMc mk)::(VMs mk)::fi::(PEq (.pointer (some ⟨g6,1,none⟩)))::fi::[]))::(cj ((14,(fun v N=>∃ Q c5,v=.slice Q (k+1) c5/\aq 56 (MkC 130) 7 N wb.heap.size v (k+1) (bd.pts.take k++[mk])))::(15,(PEq (.pointer (some ⟨g6,1,none⟩))))::[]))::(cj ((15,(PEq (.pointer (some ⟨g6,1,none⟩))))::(16,(fun _ N=>∃ Q c5,Blk N g6 51 #[aa bd.name,.slice Q (k+1) c5]/\aq 56 (MkC 130) 7 N wb.heap.size (.slice Q (k+1) c5) (k+1) (bd.pts.take k++[mk])))::[]))::[])) (T:=T2 ((fun N=>Below w5.heap.size w5 N)::(fun N=>Blk N g6 51 #[aa bd.name,.slice G k c2]/\Below wb.heap.size w5 N)::(fun N=>Below wb.heap.size w5 N)::[])) (by kernel_rfl) ?_ ?_ (by decide) (jA (by decide)) (fe (by kernel_rfl)) (ff (by kernel_rfl)) (R2.grw ⟨jl.grw ⟨gEq _,gEq _,gEq _,gEq _,gEq _,gEq _,gEq _,gRd _,gEq _,gEq _,gEq _,gRd _,gMc _,gMs _,lF,gEq _,lF,trivial⟩,cj.grw ⟨(fun _ _ _ ⟨Q,c5,h0,h1⟩ hb=>⟨Q,c5,h0,h1.blw hb⟩),gEq _,trivial⟩,cj.grw ⟨gEq _,(fun _ _ _ ⟨Q,c5,h0,h1⟩ hb=>⟨Q,c5,h0.below hb h0.lt,h1.blw hb⟩),trivial⟩,trivial⟩) (T2.grw ⟨fun _ _ h hb=>h.trans (hb.mono h.size),fun _ _ h hb=>⟨h.1.below hb h.1.lt,h.2.trans (hb.mono (Nat.le_trans aS.out h.2.size))⟩,fun _ _ h hb=>h.trans (hb.mono (Nat.le_trans aS.out h.size)),trivial⟩) ?_ ?_ ?_ ?_
      ·exact aw ⟨(fun _ _=>rfl),(fun _ _=>rfl),(fun _ _=>rfl),(fun _ _=>rfl),(fun _ _=>rfl),(fun _ _=>rfl),(fun _ _=>rfl),(fun _ _=>rfl),(fun _ _=>rfl),(fun _ _=>rfl),(fun _ _=>rfl),(fun _ _=>rfl),(fun _ _=>rfl),(fun _ _=>rfl),(fun _ _=>rfl),(fun _ _=>rfl),(fun _ _=>rfl),trivial⟩
      ·exact aw (bF _ 0 (by kernel_rfl))
      ·exact (ae _).drew
      ·refine aw ⟨?_,?_,?_,?_,?_,?_,?_,?_,?_,?_,?_,?_,?_,?_,(fun h=>absurd (by decide) h),?_,(fun h=>absurd (by decide) h),trivial⟩
       intro _ k _ l;obtain rfl:=l (by decide);intro r j f hd K t;have u:=trivial;rotate_left;intro _ k _ l;obtain rfl:=l (by decide);intro r j f hd K t;have u:r 0=_:=hd ⟨0,.data⟩ (by simp) rfl;have f:Below w5.heap.size w5 j:=f;have hc:j.cell? ⟨g6,1,none⟩=some (.slice G k c2):=(X6.out.below f X6.out.lt).cell 1;rotate_left;intro _ k _ l;obtain rfl:=l (by decide);intro r j f hd K t;have u:=trivial;rotate_left;intro _ k _ l;obtain rfl:=l (by decide);intro r j f hd K t;have u:r 2=_:=hd ⟨2,.data⟩ (by simp) rfl;have f:Below w5.heap.size w5 j:=f;have hc:j.cell? ⟨gm,0,none⟩=some (aa mk.name):=(V.out.below f V.out.lt).cell 0;rotate_left;intro _ k _ l;obtain rfl:=l (by decide);intro r j f hd K t;have u:=trivial;rotate_left;intro _ k _ l;obtain rfl:=l (by decide);intro r j f hd K t;have u:r 4=_:=hd ⟨4,.data⟩ (by simp) rfl;have f:Below w5.heap.size w5 j:=f;have cz:j.cell? ⟨gm,1,none⟩=some (.bool b1):=(V.out.below f V.out.lt).cell 1;have db:j.cell? ⟨gm,2,none⟩=some (.slice E1 n1 y1):=(V.out.below f V.out.lt).cell 2;have d9:j.cell? ⟨gm,3,none⟩=some (.slice F1 m1 z1):=(V.out.below f V.out.lt).cell 3;rotate_left;intro _ k _ l;obtain rfl:=l (by decide);intro r j f hd K t;have u:=trivial;rotate_left
       ·intro _ k _ l
        obtain rfl:=l (by decide);intro r j f hd K t;have f:Below w5.heap.size w5 j:=f;have b5:r 5=.agg #[.bool b1,.slice E1 n1 y1,.slice F1 m1 z1]:=hd ⟨5,.data⟩ (by simp) rfl;have ad:r 6=.agg #[.bool false,.slice none 0 0,.slice none 0 0]:=hd ⟨6,.data⟩ (by simp) rfl;(try dsimp only [ks]);(try simp only [b5,ad]);go_simp;go_at_call 60;refine (uN j (HX.out.belw f) OM.out.1).mono ?_;rintro e9 wr ⟨b3,P,n3,c3,D3,m3,e3,rfl,h3,Z⟩;have s:=t.out _ _ ⟨b3,P,n3,c3,D3,m3,e3,rfl,h3⟩ Z;dsimp only [ks] at s;simp only [b5,ad] at s;exact s
       intro _ k _ l;obtain rfl:=l (by decide);intro r j f hd K t;have u:=trivial;rotate_left;intro _ k _ l;obtain rfl:=l (by decide);intro r j f hd K t;have u:r 8=_:=hd ⟨8,.data⟩ (by simp) rfl;have f:Below w5.heap.size w5 j:=f;have cz:j.cell? ⟨gm,4,none⟩=some (.bool b2):=(V.out.below f V.out.lt).cell 4;have db:j.cell? ⟨gm,5,none⟩=some (.slice E2 n2 y2):=(V.out.below f V.out.lt).cell 5;have d9:j.cell? ⟨gm,6,none⟩=some (.slice F2 m2 z2):=(V.out.below f V.out.lt).cell 6;rotate_left;intro _ k _ l;obtain rfl:=l (by decide);intro r j f hd K t;have u:=trivial;rotate_left
       ·intro _ k _ l
        obtain rfl:=l (by decide);intro r j f hd K t;have f:Below w5.heap.size w5 j:=f;have b8:r 9=.agg #[.bool b2,.slice E2 n2 y2,.slice F2 m2 z2]:=hd ⟨9,.data⟩ (by simp) rfl;have a8:r 10=.agg #[.bool false,.slice none 0 0,.slice none 0 0]:=hd ⟨10,.data⟩ (by simp) rfl;(try dsimp only [ks]);(try simp only [b8,a8]);go_simp;go_at_call 60;refine (uN j (HY.out.belw f) OM.out.2).mono ?_;rintro e9 wr ⟨b3,P,n3,c3,D3,m3,e3,rfl,h3,Z⟩;have s:=t.out _ _ ⟨b3,P,n3,c3,D3,m3,e3,rfl,h3⟩ Z;dsimp only [ks] at s;simp only [b8,a8] at s;exact s
       ·intro _ k _ l
        obtain rfl:=l (by decide);intro r j f hd K t;have an:r 3=aa mk.name:=hd ⟨3,.data⟩ (by simp) rfl;obtain ⟨b3,P,n3,c3,D3,m3,e3,e7,h3⟩:VRd mk.x (r 7) j:=hd ⟨7,.data⟩ (by simp) rfl;obtain ⟨b4,A4,n4,c4,D4,m4,e4,ch,h4⟩:VRd mk.y (r 11) j:=hd ⟨11,.data⟩ (by simp) rfl;(try dsimp only [ks]);(try simp only [an,e7,ch]);go_simp;have s:=t.out _ _ ⟨b3,P,n3,c3,D3,m3,e3,b4,A4,n4,c4,D4,m4,e4,rfl,h3,h4⟩ (ae _);dsimp only [ks] at s;simp only [an,e7,ch] at s;exact s
       ·intro _ k _ l
        obtain rfl:=l (by decide);intro r j f hd K t;obtain ⟨b3,P,n3,c3,D3,m3,e3,b4,A4,n4,c4,D4,m4,e4,b6,h3,h4⟩:VMc mk (r 12) j:=hd ⟨12,.data⟩ (by simp) rfl;(try dsimp only [ks]);(try simp only [b6]);go_simp;have hb:=(ae j).alloc Qr (.cells #[aa mk.name,.bool b3,.slice P n3 c3,.slice D3 m3 e3,.bool b4,.slice A4 n4 c4,.slice D4 m4 e4] 56);have s:=t.out (.slice (some ⟨j.heap.size,0,none⟩) 1 1) (j.alloc (.cells #[aa mk.name,.bool b3,.slice P n3 c3,.slice D3 m3 e3,.bool b4,.slice A4 n4 c4,.slice D4 m4 e4] 56)) ⟨j.heap.size,b3,P,n3,c3,D3,m3,e3,b4,A4,n4,c4,D4,m4,e4,rfl,Blk.new _ _ _,h3.belw hb,h4.belw hb⟩ hb;dsimp only [ks] at s;simp only [b6] at s;exact s
       intro _ k l _
       (obtain rfl | rfl | rfl:=(show k=0\/k=1\/k=2 by have l:k<=2:=l;omega)) <;> (intro r j f hd K t;have u:=trivial)
       rotate_left 3
       all_goals
        (try dsimp only [ks]);(try simp only [u]);go_simp;have s:=t.out _ _ rfl (ae _);dsimp only [ks] at s;(try simp only [u] at s);exact s
      ·intro k i o l W
       obtain rfl | rfl:=(show k=0\/k=1 by have:=ip l;have:k<2:=this;omega)
       ·injection l with l
        subst l;injection W with W;subst W;intro r j DD hn f hD hd K t;have f:Below w5.heap.size w5 j:=f;have a5:r 1=.slice G k c2:=hd 1 (hD ⟨1,.data⟩ (by simp) rfl);obtain ⟨gs,b3,P,n3,c3,D3,m3,e3,b4,A4,n4,c4,D4,m4,e4,dn,O,h3,h4⟩:VMs mk (r 13) j:=hd 13 (hD ⟨13,.data⟩ (by simp) rfl);obtain ⟨hl,xs,E,z⟩:=(RM.out.blw f);have en:=f.size;have eg:=X6.out.lt;have ez:=aS.out;rw [if_pos (show Region.wanted _ _=true from rfl)];refine cA _ noW _ _ _ rfl wb.heap.size 56 im (.agg #[.string ⟨#[]⟩,.bool false,.slice none 0 0,.slice none 0 0,.bool false,.slice none 0 0,.slice none 0 0]) 7 128 Tryz.underlying49 a4.out.1 a4.out.2.1 a4.out.2.2.1 a4.out.2.2.2 rfl (by omega) rfl (.slice G k c2) k xs a5 E ⟨gs,0,none⟩ 1 1 [aa mk.name,.bool b3,.slice P n3 c3,.slice D3 m3 e3,.bool b4,.slice A4 n4 c4,.slice D4 m4 e4] dn rfl (World.news_of_block O) (by simp [Value.oneCell']) rfl (by omega) (by unfold maxLen;omega) (by omega) (by omega) ?_;intro g5 cap w7 bl D _;have hp:=iZ hl E z (a:=mk) (cs:=[aa mk.name,.bool b3,.slice P n3 c3,.slice D3 m3 e3,.bool b4,.slice A4 n4 c4,.slice D4 m4 e4]) ⟨b3,P,n3,c3,D3,m3,e3,b4,A4,n4,c4,D4,m4,e4,rfl,h3,h4,ds.out⟩ rfl bl D (by omega) (fun _ _ _ ht x=>x.tch ht);have S:Blk w7 g6 51 #[aa bd.name,.slice G k c2]:=(X6.out.below f X6.out.lt).grw D (E.neb (X6.out.below f X6.out.lt) (by decide));exact t.out _ _ ⟨S,(f.mono aS.out).trans hp.2.2⟩ ⟨_,_,rfl,hp.1⟩ (cj.all ⟨fun h=>absurd h hn,fun h=>hd 15 h,trivial⟩)
       injection l with l;subst l;injection W with W;subst W;intro r j DD hn f hD hd K t;obtain ⟨S,f⟩:Blk j g6 51 #[aa bd.name,.slice G k c2]/\Below wb.heap.size w5 j:=f;obtain ⟨Q,c5,bk,z⟩:∃ Q c5,r 14=.slice Q (k+1) c5/\aq 56 (MkC 130) 7 j wb.heap.size (r 14) (k+1) (bd.pts.take k++[mk]):=hd 14 (hD ⟨14,.data⟩ (by simp) rfl);have aT:r 15=.pointer (some ⟨g6,1,none⟩):=hd 15 (hD ⟨15,.data⟩ (by simp) rfl);rw [bk] at z;have ec:=S.cell 1;have ed:=S.frozen 1;(try dsimp only [ks]);(try simp only [aT,bk]);go_simp;have t1:=Tch.set (T:=bi 51) S (by simp [bi]) rfl 1 (.slice Q (k+1) c5);have s:=t.out undef _ (show Below wb.heap.size w5 _ from f.setCell (p:=⟨g6,1,none⟩) cn.out (.slice Q (k+1) c5)) ⟨Q,c5,S.s21 _,z.tch t1 (by decide) (fun _ _ x=>x.tch t1)⟩ (cj.all ⟨fun _=>aT,fun h=>absurd h hn,trivial⟩);dsimp only [ks] at s;simp only [aT,bk] at s;exact s
      intro r w9 f hr;obtain ⟨Q,c5,S,z⟩:∃ Q c5,Blk w9 g6 51 #[aa bd.name,.slice Q (k+1) c5]/\aq 56 (MkC 130) 7 w9 wb.heap.size (.slice Q (k+1) c5) (k+1) (bd.pts.take k++[mk]):=hr 16 (by decide);have f:Below wb.heap.size w5 w9:=f;clear hr;dsimp only [ks];go_wp2_with fail;go_roundw
      case rel=>exact ⟨k+1,Q,c5,by go_num,by omega,S,by rw [TK.out];exact z,QB.out.trans f⟩
      case measure=>simp [intOf];omega
     have c8:((k:Int)<(m:Int))=False:=by simp;omega
     obtain rfl:k=m:=by omega
     have aC:bd.pts.take k=bd.pts:=List.take_of_length_le (by rw [HM.out.1];exact Qr);have ac:=br.out;rw [aC] at ac;have b9:=Qh ac;have x3:=X3.out.below M.out X3.out.lt;have a7:=XR.out.below M.out XR.out.lt;have e2:=x3.cell 1;have eW:=x3.frozen 1;have S:=a6.out;have e0:=S.cell 0;have fa:=S.cell 1;obtain ⟨a9,xs,ab,X,b0⟩:=cm.out
     have bb:Dj (xs++[aa bd.name,.slice G k c2]):=Dj.snoc X b0 (by rw [ab.1,a9]) fun g e=>by
      subst e;obtain ⟨_,ys,W,_⟩:=b9.out;exact (W.at_ (g:=g) rfl).1
     have c6:=Qh bb;have E:=ab.belw M.out;have z:=X.map_ fun _ _ x=>x.tch (Tch.below (T:=fun _=>false) M.out) rfl
     have q3:=Q9.out.trans (M.out.mono Q9.out.size);have cp:=q3.size;have bY:=Qh (show L.bodies.take (i+1)=L.bodies.take i++[bd] by rw [List.take_add_one,ea.out];rfl);have cv:Hid (BdO w.heap.size w3 [aa bd.name,.slice G k c2] bd):=Qh ⟨G,k,c2,rfl,b9.out.base Q9.out.size,cx.out⟩;clear aC ac ab X b0 bb;go_wp2_with (at_builtin;refine ce _ rfl noW _ _ _ rfl w.heap.size 51 ib (.agg #[.string ⟨#[]⟩,.slice none 0 0]) 2 40 Tryz.underlying22 a2.out.1 a2.out.2.1 a2.out.2.2.1 a2.out.2.2.2 rfl (by omega) rfl _ i xs rfl (E.belw ((Below.refl _ _).alloc Qr _)) ⟨w3.heap.size,0,none⟩ 1 1 [aa bd.name,.slice G k c2] rfl rfl (World.news_of_block (heap_alloc_new w3 _)) (by simp [Value.oneCell']) rfl (by omega) (by unfold maxLen;omega) (by omega) (by simp;omega) ?_;intro gx cap wz bg D ep;have I:=(ae w3).alloc Qr (.cells #[aa bd.name,.slice G k c2] 51);have bu:=E.belw I;have bv:=(x3.below I x3.lt).grw D (bu.neb (x3.below I x3.lt) (by decide));have e1:=bv.cell 1;have ew:=bv.frozen 1);have I:=(ae w3).alloc Qr (.cells #[aa bd.name,.slice G k c2] 51);have ht:Tch (bi 51) w3 wz:=(Tch.below I).trans (Tch.grown (fun _ hu=>hu) (by simp [bi]) (E.belw I) D);have di:Below w.heap.size w wz:=(q3.trans (I.mono cp)).grown D (by simp;omega) (fun k l=>((E.belw I).at_ l).1);have dv:=(a7.below I a7.lt).grw D ((E.belw I).neb (a7.below I a7.lt) (by decide));have O:jm w.heap.size wz (.slice (some ⟨gx,0,none⟩) (i+1) cap) (i+1) (L.bodies.take i++[bd]):=⟨by simp [a9],_,bg,(z.map_ fun _ _ x=>x.tch ht (by decide)).snoc (cv.out.tch ht (by decide)) rfl,c6.out⟩;have dO:=(HJ.out.blw M.out).tch ht (by decide) (fun _ _ x=>x);have c9:=(HD.out.blw M.out).tch ht (by decide) (fun _ _ x=>x);have bx:=(x3.below I x3.lt).grw D ((E.belw I).neb (x3.below I x3.lt) (by decide));have t3:=Tch.set (T:=bi 26) bx (by simp [bi]) rfl 1 (.slice (some ⟨gx,0,none⟩) (i+1) cap);go_roundw
     case rel=>exact ⟨i+1,_,_,by go_num,by omega,dv.far (p:=⟨g3,1,none⟩) (by show w.heap.size+1≠g3;have:=b7.out;omega) _,bx.set_ 1 _,by rw [bY.out];exact O.tch t3 (by decide) (by decide),dO.tch t3 (by decide) (fun _ _ x=>x),c9.tch t3 (by decide) (fun _ _ x=>x),di.setCell (p:=⟨g3,1,none⟩) (by show w.heap.size<=g3;have:=b7.out;omega) _⟩
     case measure=>simp [intOf];omega
   have cr:((i:Int)<(n:Int))=False:=by simp;omega
   obtain rfl:i=n:=by omega
   have aC:L.bodies.take i=L.bodies:=List.take_of_length_le (by rw [H.out.bodies.1];exact Qr);have O:=cm.out;rw [aC] at O;have x3:=X3.out;have xr:=XR.out;obtain ⟨c0,et,eo,ey⟩:=x3.c4;obtain ⟨d0,d1,d2,d3⟩:=xr.c4;have f0:=xr.f4;clear x3 aC;go_wp2_with fail;have t3:=lm xr ⟨rfl,rfl,rfl,rfl⟩ (aa L.name) (.slice P i c3) (.slice U p c1) (.slice G q c2);refine bodyPost_ret (v:=.agg #[aa L.name,.slice P i c3,.slice U p c1,.slice G q c2]) (by simp [results,Tryz.results32,Tryz.results74,go_sem, *] <;> trivial) rfl ?_;exact ⟨_,_,_,_,_,_,_,_,_,rfl,⟨O.tch t3 (by decide) (by decide),HJ.out.tch t3 (by decide) (fun _ _ x=>x),HD.out.tch t3 (by decide) (fun _ _ x=>x),H.out.name⟩,cO Q9.out (Nat.le_succ _) _ _ _ _⟩
theorem zG (w:World) (A:Option Addr) (n c:Nat) (B:Option Addr) (p d:Nat) (C:Option Addr) (q e:Nat) (L:ag) (h:LkS 130 w A n c B p d C q e L) (g:uM L) (j:n<=1000) (f:p<=1000) (i:q<=1000) (a:∀ b∈L.bodies,b.pts.length<=1000):Calls Tryz.prog 32 #[.agg #[aa L.name,.slice A n c,.slice B p d,.slice C q e]] w (sn w L):=ng _ (.inl rfl) w A n c B p d C q e L h g j f i a
theorem zH (w:World) (A:Option Addr) (n c:Nat) (B:Option Addr) (p d:Nat) (C:Option Addr) (q e:Nat) (L:ag) (h:LkS 130 w A n c B p d C q e L) (g:uM L) (j:n<=1000) (f:p<=1000) (i:q<=1000) (a:∀ b∈L.bodies,b.pts.length<=1000):Calls Tryz.prog 74 #[.agg #[aa L.name,.slice A n c,.slice B p d,.slice C q e]] w (sn w L):=ng _ (.inr rfl) w A n c B p d C q e L h g j f i a
def Fc:TypeId->Bool:=fun t=>t==73||t==26||t==39
structure LgR (N:Nat->Prop) (B:Nat) (w w':World):Prop where
  bel:Below B w w'
  tch:Tch Fc w w'
  kp:∀ x,N x->w'.heap[x]?=w.heap[x]?
section
variable {N:Nat->Prop}{B:Nat}{w w' w2:World}
theorem LgR.refl (N:Nat->Prop) (B:Nat) (w:World):LgR N B w w:=⟨Below.refl _ _,Tch.refl _,fun _ _=>rfl⟩
theorem LgR.trans (h:LgR N B w w') (k:LgR N B w' w2):LgR N B w w2:=⟨h.bel.trans k.bel,h.tch.trans k.tch,fun x a=>(k.kp x a).trans (h.kp x a)⟩
theorem LgR.below (hB:B<=w.heap.size) (hN:∀ x,N x->x<w.heap.size) (h:Below w.heap.size w w'):LgR N B w w':=⟨h.mono hB,Tch.below h,fun x a=>h.block x (hN x a)⟩
theorem LgR.grown {T0:TypeId}{size n:Nat}{v:Value}{d:List Value}(h:OwJ noW w B T0 size v n d) (c:Fc T0=true) (hB:B<=w.heap.size) (hN:∀ x,N x->x<w.heap.size) (b:∀ x,v.ownBlock=some x->¬ N x) (k:w.grownBy w' v.ownBlock):LgR N B w w' :=
 ⟨(Below.refl B w).grown k hB (fun _ e=>(h.at_ e).1),Tch.grown (fun _ f=>f) c h k,fun x a=>k.block x (hN x a) (fun e=>b x e.symm a)⟩
theorem LgR.set {g:Nat}{cs:Array Value}(h:Blk w g 73 cs) (b:cs.toList.all noW=true) (hB:B<=g) (hN:¬ N g) (i:Nat) (u:Value):LgR N B w (w.setCell ⟨g,i,none⟩ u) :=
 ⟨(Below.refl B w).setCell (p:=⟨g,i,none⟩) hB u,Tch.set h (by decide) b i u,fun x a=>Below.heap_setCell w ⟨g,i,none⟩ u x (fun e=>hN (by have e:x=g:=e;exact e ▸ a))⟩
end
section
variable {α:Type}{T0:TypeId}{Pc:World->List Value->α->Prop}{s:Nat}{w w':World}{B:Nat}{v:Value}{n:Nat}{l:List α}{N:Nat->Prop}
theorem aq.gr {row:Option Nat}(h:aq T0 Pc s w B v n l) (k:w.grownBy w' row) (b:∀ x,v.ownBlock=some x->row≠some x) (q:∀ cs a,Pc w cs a->Pc w' cs a):aq T0 Pc s w' B v n l:=by
 obtain ⟨i,o,c,j⟩:=h;refine ⟨i,o,⟨c.1,?_⟩,j.map_ q⟩;rcases c.2 with p | ⟨g,cap,cur,rfl,m,d,f⟩
 ·exact .inl p
 exact .inr ⟨g,cap,cur,rfl,m,(k.block g (lt_of_block d) (fun e=>b g rfl e.symm)).trans d,f⟩
theorem aq.neb (h:aq T0 Pc s w B v n l) {g:Nat}{a:TypeId}{cs:Array Value}(x:Blk w g a cs) (c:a≠T0):some g≠v.ownBlock:=by
 obtain ⟨_,d,b,_⟩:=h;exact b.neb x c
def bC (N:Nat->Prop) (T0:TypeId) (Pc:World->List Value->α->Prop) (s:Nat) (w:World) (B:Nat) (v:Value) (n:Nat) (l:List α):Prop:=aq T0 Pc s w B v n l/\∀ x,v.ownBlock=some x->¬ N x
theorem bC.nil:bC N T0 Pc s w B (.slice none 0 0) 0 ([]:List α):=⟨aq.nil,fun _ e=>by cases e⟩
theorem bC.tch {T:TypeId->Bool}(h:bC N T0 Pc s w B v n l) (d:Tch T w w') (c:T T0=false) (b:∀ cs a,Pc w cs a->Pc w' cs a):bC N T0 Pc s w' B v n l:=⟨h.1.tch d c b,h.2⟩
theorem bC.blw [gK Pc] (h:bC N T0 Pc s w B v n l) (hb:Below w.heap.size w w'):bC N T0 Pc s w' B v n l:=⟨h.1.blw hb,h.2⟩
theorem bC.form (h:bC N T0 Pc s w B v n l):∃ A c,v=.slice A n c/\n<=c:=h.1.form
theorem bC.cut {A:Option Addr}{c:Nat}(h:bC N T0 Pc s w B (.slice A n c) n l) {m:Nat}(k:m<=n):bC N T0 Pc s w B (.slice A m c) m (l.take m):=by
 cases A with
 | none =>
  obtain ⟨d,j,b,i⟩:=h.1;rcases b.2 with ⟨e,f⟩ | ⟨g,cap,cur,e,_⟩
  ·injection e with _ _ e
   subst e f;obtain rfl:m=0:=by omega
   obtain rfl:l=[]:=List.eq_nil_of_length_eq_zero d;exact bC.nil
  cases e
 | some a =>
  obtain ⟨g,o,p⟩:=a;obtain ⟨d,j,b,i⟩:=h.1;rcases b.2 with ⟨e,f⟩ | ⟨q,cap,cur,e,_⟩
  ·cases e
  injection e with e;injection e with e;injection e with e1 e2 e3;subst e1 e2 e3;exact ⟨h.1.cut k,fun x e=>h.2 x (by simpa [Value.ownBlock] using e)⟩
end
structure d8 (N:Nat->Prop) (B:Nat) (w:World) (gl:Nat) (c0 c1 c2 c3 v5 v6 v7:Value):Prop where
  blk:Blk w gl 73 #[c0,c1,c2,c3,v5,v6,v7]
  hB:B<=gl
  hN:∀ x,N x->x<w.heap.size
  n0:¬ N gl
  nw:noW c0=true/\noW c1=true/\noW c2=true/\noW c3=true/\noW v5=true/\noW v6=true/\noW v7=true
theorem d8.blw {N:Nat->Prop}{B:Nat}{w b:World}{a:Nat}{c0 c1 c2 c3 d c f:Value}(h:d8 N B w a c0 c1 c2 c3 d c f) (hb:Below w.heap.size w b):d8 N B b a c0 c1 c2 c3 d c f:=⟨h.blk.below hb h.blk.lt,h.hB,fun x g=>Nat.lt_of_lt_of_le (h.hN x g) hb.size,h.n0,h.nw⟩
theorem d8.grw {N:Nat->Prop}{B:Nat}{w c:World}{a:Nat}{c0 c1 c2 c3 f d g:Value}{row:Option Nat}(h:d8 N B w a c0 c1 c2 c3 f d g) (k:w.grownBy c row) (b:some a≠row):d8 N B c a c0 c1 c2 c3 f d g:=⟨h.blk.grw k b,h.hB,fun x i=>Nat.lt_of_lt_of_le (h.hN x i) k.size,h.n0,h.nw⟩
theorem d8.all {N:Nat->Prop}{B:Nat}{w:World}{f:Nat}{c0 c1 c2 c3 c a b:Value}(h:d8 N B w f c0 c1 c2 c3 c a b):(#[c0,c1,c2,c3,c,a,b]:Array Value).toList.all noW=true:=by
 obtain ⟨i,j,k,l,d,m,g⟩:=h.nw;simp [i,j,k,l,d,m,g]
theorem d8.put {N:Nat->Prop}{B:Nat}{w:World}{a:Nat}{c0 c1 c2 c3 d b c:Value}(h:d8 N B w a c0 c1 c2 c3 d b c) (i:Nat) (u:Value) {d0 d1 d2 d3 u5 u6 u7:Value}(e:(#[c0,c1,c2,c3,d,b,c]:Array Value).setIfInBounds i u=#[d0,d1,d2,d3,u5,u6,u7]) (hw:noW d0=true/\noW d1=true/\noW d2=true/\noW d3=true/\noW u5=true/\noW u6=true/\noW u7=true):d8 N B (w.setCell ⟨a,i,none⟩ u) a d0 d1 d2 d3 u5 u6 u7/\LgR N B w (w.setCell ⟨a,i,none⟩ u)/\Tch (bi 73) w (w.setCell ⟨a,i,none⟩ u) :=
 ⟨⟨h.blk.set_at i u _ e,h.hB,fun x f=>by simpa using h.hN x f,h.n0,hw⟩,LgR.set h.blk h.all h.hB h.n0 i u,Tch.set h.blk (by simp [bi]) h.all i u⟩
structure lI (N:Nat->Prop) (B:Nat) (w:World) (gl:Nat) (g:gc) (A:Option Addr) (n c:Nat) (C:Option Addr) (p d:Nat) (D:Option Addr) (q e:Nat) (v5 v6 v7:Value):Prop where
  core:d8 N B w gl (aa g.now.name) (.slice A n c) (.slice C p d) (.slice D q e) v5 v6 v7
  now:LkY 130 w A n c C p d D q e g.now
  bef:bC N 26 (LkC 130) 4 w B v5 g.done.length g.before
  don:bC N 39 EdC 3 w B v6 g.done.length g.done
  und:bC N 39 EdC 3 w B v7 g.undone.length g.undone
  dis:∀ x,v7.ownBlock=some x->v6.ownBlock≠some x
theorem LkY.blw {k:Nat}{w a:World}{A B C:Option Addr}{n c p d q e:Nat}{L:ag}(h:LkY k w A n c B p d C q e L) (hb:Below w.heap.size w a):LkY k a A n c B p d C q e L:=h.tch (T:=fun _=>false) (Tch.below hb) rfl rfl rfl rfl
theorem LkY.lg {k:Nat}{w a:World}{A B C:Option Addr}{n c p d q e:Nat}{L:ag}{N:Nat->Prop}{B0:Nat}(h:LkY k w A n c B p d C q e L) (t:LgR N B0 w a):LkY k a A n c B p d C q e L:=h.tch t.tch (by decide) (by decide) (by decide) (by decide)
section
variable {N:Nat->Prop}{B:Nat}{w w':World}{gl:Nat}{g:gc}{A C D:Option Addr}{n c p d q e:Nat}{v5 v6 v7:Value}
theorem lI.blw (h:lI N B w gl g A n c C p d D q e v5 v6 v7) (hb:Below w.heap.size w w'):lI N B w' gl g A n c C p d D q e v5 v6 v7:=⟨h.core.blw hb,h.now.blw hb,h.bef.blw hb,h.don.blw hb,h.und.blw hb,h.dis⟩
theorem lI.forms (h:lI N B w gl g A n c C p d D q e v5 v6 v7):∃ f c5 a c6 b c7,v5=.slice f g.done.length c5/\v6=.slice a g.done.length c6/\v7=.slice b g.undone.length c7/\g.done.length<=c5/\g.done.length<=c6/\g.undone.length<=c7:=by
 obtain ⟨f,c5,j,m⟩:=h.bef.form;obtain ⟨a,c6,k,i⟩:=h.don.form;obtain ⟨b,c7,o,l⟩:=h.und.form;exact ⟨f,c5,a,c6,b,c7,j,k,o,m,i,l⟩
end
def jB (N:Nat->Prop) (B:Nat) (w:World) (gl:Nat) (g:gc):Prop:=∃ A n c C p d D q e v5 v6 v7,lI N B w gl g A n c C p d D q e v5 v6 v7
theorem jB.blw {N:Nat->Prop}{B:Nat}{w b:World}{a:Nat}{g:gc}(h:jB N B w a g) (hb:Below w.heap.size w b):jB N B b a g:=by
 obtain ⟨A,n,c,C,p,d,D,q,e,j,f,i,h⟩:=h;exact ⟨A,n,c,C,p,d,D,q,e,j,f,i,h.blw hb⟩
theorem jB.more {N b:Nat->Prop}{B:Nat}{w i:World}{f:Nat}{g:gc}(h:jB N B w f g) (hb:Below w.heap.size w i) (hN:∀ x,b x->x<i.heap.size) (m:∀ x,b x->N x\/w.heap.size<=x):jB b B i f g:=by
 obtain ⟨A,n,c,C,p,d,D,q,e,E,t,u,h⟩:=h
 have r:∀ {α:Type}{T0:TypeId}{Pc:World->List Value->α->Prop}{s n:Nat}{v:Value}{l:List α},bC N T0 Pc s w B v n l->∀ x,v.ownBlock=some x->¬ b x:=by
  intro α T0 Pc s n v l o x e j;obtain ⟨_,F,y,_⟩:=o.1;obtain ⟨_,cur,z,_⟩:=y.at_ e;have:=lt_of_block z;rcases m x j with a | a
  ·exact o.2 x e a
  omega
 have k:=h.blw hb;refine ⟨A,n,c,C,p,d,D,q,e,E,t,u,⟨⟨k.core.blk,k.core.hB,hN,fun j=>?_,k.core.nw⟩,k.now,⟨k.bef.1,r h.bef⟩,⟨k.don.1,r h.don⟩,⟨k.und.1,r h.und⟩,k.dis⟩⟩;rcases m f j with a | a
 ·exact h.core.n0 a
 have:=h.core.blk.lt;omega
def ApC (L:ag) (ed:bL) (x:Int) (L':ag):Prop:=∀ (w:World) (A:Option Addr) (n c:Nat) (C:Option Addr) (p d:Nat) (D:Option Addr) (q e:Nat),Tab w->Mx w->LkS 130 w A n c C p d D q e L->Calls Tryz.prog 15 #[.agg #[aa L.name,.slice A n c,.slice C p d,.slice D q e],.agg #[.int .i64 ed.kind,aa ed.name,aa ed.text]] w (iq w (bo x) L')
theorem ApC.go {L f:ag}{ed:bL}{x:Int}(h:ApC L ed x f) (w:World) (A:Option Addr) (n c:Nat) (C:Option Addr) (p d:Nat) (D:Option Addr) (q e:Nat) (a:Tab w) (b:Mx w) (g:LkY 130 w A n c C p d D q e L):Calls Tryz.prog 15 #[.agg #[aa L.name,.slice A n c,.slice C p d,.slice D q e],.agg #[.int .i64 ed.kind,aa ed.name,aa ed.text]] w (iq w (bo x) f):=h w A n c C p d D q e a b g.out
def VAp (x:Int) (L:ag):Value->World->Prop:=fun v w=>∃ A n c C p d D q e,v=.tuple #[.agg #[aa L.name,.slice A n c,.slice C p d,.slice D q e],bo x]/\LkY 130 w A n c C p d D q e L
theorem gAp (x:Int) (L:ag):Grw (VAp x L):=fun _ _ _ ⟨A,n,c,C,p,d,D,q,e,a,h⟩ hb=>⟨A,n,c,C,p,d,D,q,e,a,h.blw hb⟩
theorem VAp.tch1 {x:Int}{L:ag}{v:Value}{w a:World}(h:VAp x L v w) (t:Tch (bi 26) w a):VAp x L v a:=by
 obtain ⟨A,n,c,C,p,d,D,q,e,b,h⟩:=h;exact ⟨A,n,c,C,p,d,D,q,e,b,h.tch t (by decide) (by decide) (by decide) (by decide)⟩
def VLv (L:ag):Value->World->Prop:=fun v w=>∃ A n c C p d D q e,v=.agg #[aa L.name,.slice A n c,.slice C p d,.slice D q e]/\LkY 130 w A n c C p d D q e L
theorem gLv (L:ag):Grw (VLv L):=fun _ _ _ ⟨A,n,c,C,p,d,D,q,e,a,h⟩ hb=>⟨A,n,c,C,p,d,D,q,e,a,h.blw hb⟩
def VPl (W:World) (L:ag):Value->World->Prop:=fun v w=>∃ x A n c C p d D q e,v=.pointer (some ⟨x,0,none⟩)/\W.heap.size<=x/\Blk w x 26 #[aa L.name,.slice A n c,.slice C p d,.slice D q e]/\LkY 130 w A n c C p d D q e L
theorem gPl (W:World) (L:ag):Grw (VPl W L):=fun _ _ _ ⟨x,A,n,c,C,p,d,D,q,e,b,g,a,f⟩ hb=>⟨x,A,n,c,C,p,d,D,q,e,b,g,a.below hb a.lt,f.blw hb⟩
theorem zI {w b d:World}{row:Option Nat}(h:Below w.heap.size w b) (k:b.grownBy d row):w.grownBy d row:=⟨k.os.trans h.os,k.tape.trans h.tape,k.output.trans h.output,Nat.le_trans h.size k.size,fun x c a=>(k.block x (Nat.lt_of_lt_of_le c h.size) a).trans (h.block x c)⟩
theorem qf {w a d:World}{row:Option Nat}(k:w.grownBy a row) (h:Below a.heap.size a d):w.grownBy d row:=⟨h.os.trans k.os,h.tape.trans k.tape,h.output.trans k.output,Nat.le_trans k.size h.size,fun x c b=>(h.block x (Nat.lt_of_lt_of_le c k.size)).trans (k.block x c b)⟩
theorem qg {N:Nat->Prop}{b w:World}{v:Value}{g n c:Nat}(a:v.ownBlock=some g\/g=w.heap.size) (h:∀ x,v.ownBlock=some x->¬ N x) (hN:∀ x,N x->x<b.heap.size) (i:b.heap.size<=w.heap.size):∀ x,(Value.slice (some ⟨g,0,none⟩) n c).ownBlock=some x->¬ N x:=by
 intro x e d;injection e with e;have e:g=x:=e;subst e;rcases a with f | f
 ·exact h _ f d
 have:=hN _ d;omega
def TLL:TypeId->Bool:=fun t=>t==73||t==26
def TLE:TypeId->Bool:=fun t=>t==73||t==39
theorem DN {t:TypeId}(h:bi 26 t=true):TLL t=true:=by
 have h:(t==26)=true:=h;unfold TLL;rw [h];simp
theorem DP {t:TypeId}(h:bi 73 t=true):TLL t=true:=by
 have h:(t==73)=true:=h;unfold TLL;rw [h];simp
theorem DQ {t:TypeId}(h:bi 39 t=true):TLE t=true:=by
 have h:(t==39)=true:=h;unfold TLE;rw [h];simp
theorem DS {t:TypeId}(h:bi 73 t=true):TLE t=true:=by
 have h:(t==73)=true:=h;unfold TLE;rw [h];simp
theorem LgR.more {N:Nat->Prop}{B:Nat}{w a b:World}{c:Nat}{c0 c1 c2 c3 f d g:Value}(h:LgR N B w a) (k:d8 N B a c c0 c1 c2 c3 f d g) (hb:Below a.heap.size a b):LgR N B w b:=h.trans (LgR.below (by have:=k.hB;have:=k.blk.lt;omega) k.hN hb)
theorem uO {N:Nat->Prop}{B:Nat}{w:World}{a:Nat}{c0 c1 c2 c3 s g f:Value}{L:ag}{v:List ag}{o un:List bL}{m k:Nat}{A C D:Option Addr}{n c p d q e:Nat}(h:d8 N B w a c0 c1 c2 c3 s g f) (Q:bC N 26 (LkC 130) 4 w B s m v) (y:bC N 39 EdC 3 w B g m o) (u:bC N 39 EdC 3 w B f k un) (dis:∀ x,f.ownBlock=some x->g.ownBlock≠some x) (R:LkY 130 w A n c C p d D q e L) :
 lI N B ((((w.setCell ⟨a,0,none⟩ (aa L.name)).setCell ⟨a,1,none⟩ (.slice A n c)).setCell ⟨a,2,none⟩ (.slice C p d)).setCell ⟨a,3,none⟩ (.slice D q e)) a ⟨L,v,o,un⟩ A n c C p d D q e s g f/\LgR N B w ((((w.setCell ⟨a,0,none⟩ (aa L.name)).setCell ⟨a,1,none⟩ (.slice A n c)).setCell ⟨a,2,none⟩ (.slice C p d)).setCell ⟨a,3,none⟩ (.slice D q e)):=by
 obtain ⟨T,I,z,l,j,i,b⟩:=h.nw;obtain ⟨p1,M,H⟩:=h.put 0 (aa L.name) (d0:=aa L.name) rfl ⟨rfl,I,z,l,j,i,b⟩;obtain ⟨p2,S,J⟩:=p1.put 1 (.slice A n c) (d1:=.slice A n c) rfl ⟨rfl,rfl,z,l,j,i,b⟩;obtain ⟨p3,E,K⟩:=p2.put 2 (.slice C p d) (d2:=.slice C p d) rfl ⟨rfl,rfl,rfl,l,j,i,b⟩;obtain ⟨p4,O,F⟩:=p3.put 3 (.slice D q e) (d3:=.slice D q e) rfl ⟨rfl,rfl,rfl,rfl,j,i,b⟩;have t:=((H.trans J).trans K).trans F;have r:=((M.trans S).trans E).trans O;have G:m=o.length:=y.1.1.symm;have P:k=un.length:=u.1.1.symm;subst G P;exact ⟨⟨p4,R.lg r,Q.tch t (by decide) (fun _ _ x=>x.tch t (by decide) (by decide) (by decide) (by decide)),y.tch t (by decide) (fun _ _ x=>x),u.tch t (by decide) (fun _ _ x=>x),dis⟩,r⟩
def lA (N:Nat->Prop) (B:Nat) (w:World) (gl:Nat) (x:Int) (g':gc) (e:Ending) (w':World):Prop:=e=.returned (bo x)/\(x≠0->Below w.heap.size w w')/\(x=0->LgR N B w w'/\jB N B w' gl g')
abbrev ku (u0 u1 u2 u3 u4 u16 u17 u18 u19 u20 u21 u22 u23 u24 u25 u26 u27 u28 u29 u30 u31 u32 u33 u34 u35 u36 u37 u38 u39 u40 u41 u42 u43 u44 u45:Value) (xf:Nat->Value):Act:=⟨List.toArray (u0::u1::u2::u3::u4::xf 9::xf 11::xf 6::xf 0::xf 1::xf 2::xf 3::xf 4::xf 5::xf 7::xf 8::u16::u17::u18::u19::u20::u21::u22::u23::u24::u25::u26::u27::u28::u29::u30::u31::u32::u33::u34::u35::u36::u37::u38::u39::u40::u41::u42::u43::u44::u45::[]),[]⟩
abbrev sq (u0 u1 u2 u3 u4 u5 u6 u7 u8 u9 u10 u11 u12 u13 u14 u15 u16 u17 u18 u32 u33 u34 u35 u36 u37 u38 u39 u40 u41 u42 u43 u44 u45:Value) (xf:Nat->Value):Act:=⟨List.toArray (u0::u1::u2::u3::u4::u5::u6::u7::u8::u9::u10::u11::u12::u13::u14::u15::u16::u17::u18::xf 0::xf 1::xf 2::xf 3::xf 4::xf 5::xf 6::xf 7::xf 8::xf 9::xf 10::xf 11::xf 12::u32::u33::u34::u35::u36::u37::u38::u39::u40::u41::u42::u43::u44::u45::[]),[]⟩
abbrev ss (u0 u1 u2 u3 u4 u5 u6 u7 u8 u9 u10 u11 u12 u13 u14 u15 u16 u17 u18 u19 u20 u21 u22 u23 u24 u25 u26 u27 u28 u29 u30 u31 u42 u43 u44 u45:Value) (xf:Nat->Value):Act:=⟨List.toArray (u0::u1::u2::u3::u4::u5::u6::u7::u8::u9::u10::u11::u12::u13::u14::u15::u16::u17::u18::u19::u20::u21::u22::u23::u24::u25::u26::u27::u28::u29::u30::u31::xf 0::xf 1::xf 2::xf 3::xf 4::xf 5::xf 6::xf 7::xf 8::xf 9::u42::u43::u44::u45::[]),[]⟩
theorem zJ (N:Nat->Prop) (B:Nat) (w:World) (t:Nat) (g:gc) (h:jB N B w t g) (ed:bL) (x:Int) (U:ag) (hA:ApC g.now ed x U) (hc:g.done.length<=1000) (a7:Tab w) (cc:Mx w):Calls Tryz.prog 48 #[.pointer (some ⟨t,0,none⟩),.agg #[.int .i64 ed.kind,aa ed.name,aa ed.text]] w (lA N B w t x ⟨U,g.before++[g.now],g.done++[ed],g.undone⟩):=by
 obtain ⟨A,n,c,C,p,d,D,q,e,v5,v6,v7,h⟩:=h;obtain ⟨A5,c5,A6,c6,S,c7,rfl,rfl,rfl,h5,h6,h7⟩:=h.forms;obtain ⟨ik,aT,an,a1,aC⟩:=info_parts Cb;have a5:=Qh (And.intro aT (And.intro an (And.intro a1 aC)));clear aT an a1 aC;obtain ⟨ie,aT,an,a1,aC⟩:=info_parts p8;have a4:=Qh (And.intro aT (And.intro an (And.intro a1 aC)));clear aT an a1 aC;have bn:=Qh h;have HA:=Qh hA;have aS:=Qh a7;have cm:=Qh cc;clear h hA a7 cc;go_in;go_wp2_with fail;have Q1:=Qh ((ae w).alloc Qr (.cells #[.int .i64 ed.kind,aa ed.name,aa ed.text] 39));have XE:=Qh (Blk.new w 39 #[.int .i64 ed.kind,aa ed.name,aa ed.text]);have HL:=Qh (bn.out.blw Q1.out);have a8:=Qh (aS.out.belw Q1.out);have HM:=Qh (cm.out.belw Q1.out);have Y:=Qh bn.out.core;generalize (w.alloc (.cells #[.int .i64 ed.kind,aa ed.name,aa ed.text] 39))=w1 at Q1 XE HL a8 HM ⊢;generalize w.heap.size=ge at XE ⊢;clear bn aS cm;change Code.wp _ _ _ (ku _ _ _ _ _ _ _ _ _ _ _ _ _ _ _ _ _ _ _ _ _ _ _ _ _ _ _ _ _ _ _ _ _ _ _ (fun _=>undef)) _;refine cB (x0:=(fun _=>undef)) [10] [8,11] (R:=R2 ((jl ((PEq (.pointer (some ⟨t,0,none⟩)))::(PEq (.pointer (some ⟨t,0,none⟩)))::(PEq (.pointer (some ⟨t,0,none⟩)))::(PEq (.agg #[aa g.now.name,.slice A n c,.slice C p d,.slice D q e]))::(PEq (.agg #[.int .i64 ed.kind,aa ed.name,aa ed.text]))::(VAp x U)::(VAp x U)::(VLv U)::(PEq (bo x))::(fun v w=>∃ x,v=.pointer (some ⟨x,0,none⟩)/\w1.heap.size<=x/\Blk w x 26 #[.string ⟨#[]⟩,.slice none 0 0,.slice none 0 0,.slice none 0 0])::fi::(PEq (bo x))::[]))::(cj ((6,(VAp x U))::(8,(PEq (bo x)))::(9,(VPl w1 U))::(11,(PEq (bo x)))::[]))::[])) (T:=T2 ((fun w=>Below w1.heap.size w1 w)::(fun w=>Below w1.heap.size w1 w)::[])) (by kernel_rfl) ?_ ?_ (by decide) (jA (by decide)) (fe (by kernel_rfl)) (ff (by kernel_rfl)) (R2.grw ⟨jl.grw ⟨gEq _,gEq _,gEq _,gEq _,gEq _,gAp _ _,gAp _ _,gLv _,gEq _,(fun _ _ _ ⟨x,h0,P,h2⟩ hb=>⟨x,h0,P,h2.below hb h2.lt⟩),lF,gEq _,trivial⟩,cj.grw ⟨gAp _ _,gEq _,gPl _ _,gEq _,trivial⟩,trivial⟩) (T2.grw ⟨fun _ _ h hb=>h.trans (hb.mono h.size),fun _ _ h hb=>h.trans (hb.mono h.size),trivial⟩) ?_ ?_ ?_ ?_
 ·exact aw ⟨(fun _ _=>rfl),(fun _ _=>rfl),(fun _ _=>rfl),(fun _ _=>rfl),(fun _ _=>rfl),(fun _ _=>rfl),(fun _ _=>rfl),(fun _ _=>rfl),(fun _ _=>rfl),(fun _ _=>rfl),(fun _ _=>rfl),(fun _ _=>rfl),trivial⟩
 ·exact aw (bF _ 0 (by kernel_rfl))
 ·exact (ae _).drew
 ·refine aw ⟨?_,?_,?_,?_,?_,?_,?_,?_,?_,?_,(fun h=>absurd (by decide) h),?_,trivial⟩
  intro _ k _ j;obtain rfl:=j (by decide);intro b l f hd K r;have m:=trivial;rotate_left;intro _ k _ j;obtain rfl:=j (by decide);intro b l f hd K r;have m:b 0=_:=hd ⟨0,.data⟩ (by simp) rfl;rotate_left;intro _ k _ j;obtain rfl:=j (by decide);intro b l f hd K r;have m:b 1=_:=hd ⟨1,.data⟩ (by simp) rfl;rotate_left;intro _ k _ j;obtain rfl:=j (by decide);intro b l f hd K r;have m:b 2=_:=hd ⟨2,.data⟩ (by simp) rfl;have f:Below w1.heap.size w1 l:=f;have I:=HL.out.core.blk.below f HL.out.core.blk.lt;have bv:=I.cell 0;have bz:=I.cell 1;have bs:=I.cell 2;have di:=I.cell 3;rotate_left;intro _ k _ j;obtain rfl:=j (by decide);intro b l f hd K r;have f:Below w1.heap.size w1 l:=f;have I:=XE.out.below f XE.out.lt;have bv:=I.cell 0;have bz:=I.cell 1;have bs:=I.cell 2;have m:=trivial;rotate_left
  ·intro _ k _ j
   obtain rfl:=j (by decide);intro b l f hd K r;have f:Below w1.heap.size w1 l:=f;have ck:b 3=.agg #[aa g.now.name,.slice A n c,.slice C p d,.slice D q e]:=hd ⟨3,.data⟩ (by simp) rfl;have ad:b 4=.agg #[.int .i64 ed.kind,aa ed.name,aa ed.text]:=hd ⟨4,.data⟩ (by simp) rfl;(try dsimp only [ku]);(try simp only [ck,ad]);go_simp;go_at_call 15;refine (HA.out.go l A n c C p d D q e (a8.out.belw f) (HM.out.belw f) (HL.out.now.blw f)).mono ?_;rintro e9 wr ⟨A1,n1,c1,B1,m1,d1,C1,k1,e1,rfl,hY,c2⟩;have s:=r.out _ _ ⟨A1,n1,c1,B1,m1,d1,C1,k1,e1,rfl,hY⟩ c2;dsimp only [ku] at s;simp only [ck,ad] at s;exact s
  ·intro _ k _ j
   obtain rfl:=j (by decide);intro b l f hd K r;obtain ⟨A1,n1,c1,B1,m1,d1,C1,k1,e1,e5,hY⟩:VAp x U (b 5) l:=hd ⟨5,.data⟩ (by simp) rfl;(try dsimp only [ku]);(try simp only [e5]);go_simp;have s:=r.out _ _ ⟨A1,n1,c1,B1,m1,d1,C1,k1,e1,rfl,hY⟩ (ae _);dsimp only [ku] at s;simp only [e5] at s;exact s
  ·intro _ k _ j
   obtain rfl:=j (by decide);intro b l f hd K r;obtain ⟨A1,n1,c1,B1,m1,d1,C1,k1,e1,e6,hY⟩:VAp x U (b 6) l:=hd ⟨6,.data⟩ (by simp) rfl;(try dsimp only [ku]);(try simp only [e6]);go_simp;have s:=r.out _ _ ⟨A1,n1,c1,B1,m1,d1,C1,k1,e1,rfl,hY⟩ (ae _);dsimp only [ku] at s;simp only [e6] at s;exact s
  intro _ k j _
  (obtain rfl | rfl:=(show k=0\/k=1 by have j:k<=1:=j;omega)) <;> (intro b l f hd K r;obtain ⟨A1,n1,c1,B1,m1,d1,C1,k1,e1,e6,hY⟩:VAp x U (b 6) l:=hd ⟨6,.data⟩ (by simp) rfl;have m:=e6)
  rotate_left 2
  ·intro _ k _ j
   obtain rfl:=j (by decide);intro b l f hd K r;have f:Below w1.heap.size w1 l:=f;(try dsimp only [ku]);go_simp;have s:=r.out (.pointer (some ⟨l.heap.size,0,none⟩)) (l.alloc (.cells #[.string ⟨#[]⟩,.slice none 0 0,.slice none 0 0,.slice none 0 0] 26)) ⟨l.heap.size,rfl,f.size,Blk.new _ _ _⟩ ((ae l).alloc Qr _);dsimp only [ku] at s;exact s
  intro _ k j _
  (obtain rfl | rfl:=(show k=0\/k=1 by have j:k<=1:=j;omega)) <;> (intro b l f hd K r;have m:b 8=_:=hd ⟨8,.data⟩ (by simp) rfl)
  rotate_left 2
  all_goals
   (try dsimp only [ku]);(try simp only [m]);go_simp;have s:=r.out _ _ rfl (ae _);dsimp only [ku] at s;(try simp only [m] at s);exact s
 ·intro k i o j Q
  obtain rfl:=(show k=0 by have:=ip j;have:k<1:=this;omega)
  ·injection j with j
   subst j;injection Q with Q;subst Q;intro b l DD hn f hD hd K r;have f:Below w1.heap.size w1 l:=f;obtain ⟨g5,e9,bx,ab⟩:∃ x,b 9=.pointer (some ⟨x,0,none⟩)/\w1.heap.size<=x/\Blk l x 26 #[.string ⟨#[]⟩,.slice none 0 0,.slice none 0 0,.slice none 0 0]:=hd 9 (hD ⟨9,.data⟩ (by simp) rfl);obtain ⟨A1,n1,c1,B1,m1,d1,C1,k1,e1,e7,hY⟩:VLv U (b 7) l:=hd 7 (hD ⟨7,.data⟩ (by simp) rfl);obtain ⟨dv,ch,dr,eb⟩:=ab.c4;obtain ⟨d7,cz,ee,dO⟩:=ab.f4;(try dsimp only [ku]);(try simp only [e7,e9]);go_simp;have t1:=lm ab ⟨rfl,rfl,rfl,rfl⟩ (aa U.name) (.slice A1 n1 c1) (.slice B1 m1 d1) (.slice C1 k1 e1);have s:=r.out undef _ (show Below w1.heap.size w1 _ from cO f bx (aa U.name) (.slice A1 n1 c1) (.slice B1 m1 d1) (.slice C1 k1 e1)) trivial (cj.all ⟨fun h=>(hd 6 h:VAp x U (b 6) l).tch1 t1,fun h=>hd 8 h,fun _=>⟨g5,A1,n1,c1,B1,m1,d1,C1,k1,e1,e9,bx,ab.s4 _ _ _ _,hY.tch t1 (by decide) (by decide) (by decide) (by decide)⟩,fun h=>hd 11 h,trivial⟩);dsimp only [ku] at s;simp only [e7,e9] at s;exact s
 intro b M f hr;obtain ⟨g5,A1,n1,c1,B1,m1,d1,C1,k1,e1,e9,bx,ab,hY⟩:VPl w1 U (b 9) M:=hr 9 (by decide);have cu:b 11=bo x:=hr 11 (by decide);have f:Below w1.heap.size w1 M:=f;have Q9:=Qh (Q1.out.trans (f.mono Q1.out.size));have F:=Qh (HL.out.blw f);have dn:=Qh (XE.out.below f XE.out.lt);have X5:=Qh ab;have HY:=Qh hY;clear hr f ab hY HA;dsimp only [ku];rw [e9,cu];generalize b 0=z0;generalize b 1=z1;generalize b 2=z2;generalize b 3=z3;generalize b 4=z4;generalize b 5=z5;generalize b 6=z6;generalize b 7=z7;generalize b 8=z8;generalize b 10=z10;clear e9 cu;by_cases I:x=0;rotate_left
 ·have bY:=I
  rw [eVp I];go_wp2_with fail;refine bodyPost_ret (v:=.iface 58 (.int .i64 x)) (by simp [results,Tryz.results48,go_sem, *] <;> trivial) rfl ?_;exact ⟨by rw [eVp bY],fun _=>Q9.out,fun h=>absurd h bY⟩
 subst I;rw [aO];have ao:=Qh F.out.bef;have b9:=Qh F.out.don;have cx:=Qh F.out.und;have b5:=Qh F.out.dis
 have N5:=Qh (show ¬ (g5=t\/(Value.slice A5 g.done.length c5).ownBlock=some g5) from by
  rintro (h | h)
  ·have:=HL.out.core.blk.lt;omega
  obtain ⟨_,ys,Q,_⟩:=HL.out.bef.1;obtain ⟨_,cur,h4,_⟩:=Q.at_ h;have:=lt_of_block h4
  omega)
 go_wp2_with fail;change Code.wp _ _ _ (sq _ _ _ _ _ _ _ _ _ _ _ _ _ _ _ _ _ _ _ _ _ _ _ _ _ _ _ _ _ _ _ _ _ (fun _=>undef)) _;refine cB (x0:=(fun _=>undef)) [10,13] [0,11,12] (R:=R2 ((jl ((PEq (.pointer (some ⟨t,0,none⟩)))::(PEq (.pointer (some ⟨t,0,none⟩)))::(PEq (.pointer (some ⟨t,0,none⟩)))::(PEq (.pointer (some ⟨t,4,none⟩)))::(PEq (.slice A5 g.done.length c5))::(PEq (.pointer (some ⟨t,0,none⟩)))::(PEq (.pointer (some ⟨t,0,none⟩)))::(PEq (.pointer (some ⟨t,0,none⟩)))::(PEq (.agg #[aa g.now.name,.slice A n c,.slice C p d,.slice D q e]))::(fun v w=>∃ W,v=.slice (some ⟨W,0,none⟩) 1 1/\Blk w W 26 #[aa g.now.name,.slice A n c,.slice C p d,.slice D q e])::fi::(PEq (.pointer (some ⟨t,0,none⟩)))::(PEq (.pointer (some ⟨t,4,none⟩)))::fi::[]))::(cj ((0,(PEq (.pointer (some ⟨t,0,none⟩))))::(10,(fun v w=>∃ y u,v=.slice y (g.done.length+1) u/\bC N 26 (LkC 130) 4 w B v (g.done.length+1) (g.before++[g.now])))::(11,(PEq (.pointer (some ⟨t,0,none⟩))))::(12,(PEq (.pointer (some ⟨t,4,none⟩))))::[]))::(cj ((0,(PEq (.pointer (some ⟨t,0,none⟩))))::(11,(PEq (.pointer (some ⟨t,0,none⟩))))::(12,(PEq (.pointer (some ⟨t,4,none⟩))))::[]))::[])) (T:=T2 ((fun w=>Below M.heap.size M w)::(fun w=>M.grownBy w (Value.slice A5 g.done.length c5).ownBlock)::(fun w=>∃ y u,d8 N B w t (aa g.now.name) (.slice A n c) (.slice C p d) (.slice D q e) (.slice y (g.done.length+1) u) (.slice A6 g.done.length c6) (.slice S g.undone.length c7)/\bC N 26 (LkC 130) 4 w B (.slice y (g.done.length+1) u) (g.done.length+1) (g.before++[g.now])/\LgR N B M w/\Tch TLL M w/\(∀ x,x<M.heap.size->¬ (x=t\/(Value.slice A5 g.done.length c5).ownBlock=some x)->w.heap[x]?=M.heap[x]?))::[])) (by kernel_rfl) ?_ ?_ (by decide) (jA (by decide)) (fe (by kernel_rfl)) (ff (by kernel_rfl)) (R2.grw ⟨jl.grw ⟨gEq _,gEq _,gEq _,gEq _,gEq _,gEq _,gEq _,gEq _,gEq _,(fun _ _ _ ⟨x,h0,P⟩ hb=>⟨x,h0,P.below hb P.lt⟩),lF,gEq _,gEq _,lF,trivial⟩,cj.grw ⟨gEq _,(fun _ _ _ ⟨y,u,h0,P⟩ hb=>⟨y,u,h0,P.blw hb⟩),gEq _,gEq _,trivial⟩,cj.grw ⟨gEq _,gEq _,gEq _,trivial⟩,trivial⟩) (T2.grw ⟨fun _ _ h hb=>h.trans (hb.mono h.size),fun _ _ h hb=>qf h hb,fun _ _ ⟨y,u,h0,P,h2,h3,h4⟩ hb=>⟨y,u,h0.blw hb,P.blw hb,h2.more h0 hb,h3.more hb,fun x h5 h6=>(hb.block x (Nat.lt_of_lt_of_le h5 h2.bel.size)).trans (h4 x h5 h6)⟩,trivial⟩) ?_ ?_ ?_ ?_
 ·exact aw ⟨(fun _ _=>rfl),(fun _ _=>rfl),(fun _ _=>rfl),(fun _ _=>rfl),(fun _ _=>rfl),(fun _ _=>rfl),(fun _ _=>rfl),(fun _ _=>rfl),(fun _ _=>rfl),(fun _ _=>rfl),(fun _ _=>rfl),(fun _ _=>rfl),(fun _ _=>rfl),(fun _ _=>rfl),trivial⟩
 ·exact aw (bF _ 0 (by kernel_rfl))
 ·exact (ae _).drew
 ·refine aw ⟨?_,?_,?_,?_,?_,?_,?_,?_,?_,?_,(fun h=>absurd (by decide) h),?_,?_,(fun h=>absurd (by decide) h),trivial⟩
  intro _ k j _
  (obtain rfl | rfl | rfl:=(show k=0\/k=1\/k=2 by have j:k<=2:=j;omega)) <;> (intro b l f hd K r;have m:=trivial)
  rotate_left 3;intro _ k _ j;obtain rfl:=j (by decide);intro b l f hd K r;have m:=trivial;rotate_left;intro _ k _ j;obtain rfl:=j (by decide);intro b l f hd K r;have m:b 1=_:=hd ⟨1,.data⟩ (by simp) rfl;rotate_left;intro _ k _ j;obtain rfl:=j (by decide);intro b l f hd K r;have m:b 2=_:=hd ⟨2,.data⟩ (by simp) rfl;rotate_left;intro _ k _ j;obtain rfl:=j (by decide);intro b l f hd K r;have m:b 3=_:=hd ⟨3,.data⟩ (by simp) rfl;have f:Below M.heap.size M l:=f;have I:=F.out.core.blk.below f F.out.core.blk.lt;have d6:=I.cell 4;rotate_left;intro _ k _ j;obtain rfl:=j (by decide);intro b l f hd K r;have m:=trivial;rotate_left;intro _ k _ j;obtain rfl:=j (by decide);intro b l f hd K r;have m:b 5=_:=hd ⟨5,.data⟩ (by simp) rfl;rotate_left;intro _ k _ j;obtain rfl:=j (by decide);intro b l f hd K r;have m:b 6=_:=hd ⟨6,.data⟩ (by simp) rfl;rotate_left;intro _ k _ j;obtain rfl:=j (by decide);intro b l f hd K r;have m:b 7=_:=hd ⟨7,.data⟩ (by simp) rfl;have f:Below M.heap.size M l:=f;have I:=F.out.core.blk.below f F.out.core.blk.lt;have bv:=I.cell 0;have bz:=I.cell 1;have bs:=I.cell 2;have di:=I.cell 3;rotate_left
  ·intro _ k _ j
   obtain rfl:=j (by decide);intro b l f hd K r;have b6:b 8=.agg #[aa g.now.name,.slice A n c,.slice C p d,.slice D q e]:=hd ⟨8,.data⟩ (by simp) rfl;(try dsimp only [sq]);(try simp only [b6]);go_simp;have s:=r.out (.slice (some ⟨l.heap.size,0,none⟩) 1 1) (l.alloc (.cells #[aa g.now.name,.slice A n c,.slice C p d,.slice D q e] 26)) ⟨l.heap.size,rfl,Blk.new _ _ _⟩ ((ae l).alloc Qr _);dsimp only [sq] at s;simp only [b6] at s;exact s
  intro _ k j _
  (obtain rfl | rfl | rfl:=(show k=0\/k=1\/k=2 by have j:k<=2:=j;omega)) <;> (intro b l f hd K r;have m:b 0=_:=hd ⟨0,.data⟩ (by simp) rfl)
  rotate_left 3;intro _ k j _
  (obtain rfl | rfl | rfl:=(show k=0\/k=1\/k=2 by have j:k<=2:=j;omega)) <;> (intro b l f hd K r;have m:b 11=_:=hd ⟨11,.data⟩ (by simp) rfl)
  rotate_left 3
  all_goals
   (try dsimp only [sq]);(try simp only [m]);go_simp;have s:=r.out _ _ rfl (ae _);dsimp only [sq] at s;(try simp only [m] at s);exact s
 ·intro k i o j Q
  obtain rfl | rfl:=(show k=0\/k=1 by have:=ip j;have:k<2:=this;omega)
  ·injection j with j
   subst j;injection Q with Q;subst Q;intro b l DD hn f hD hd K r;have f:Below M.heap.size M l:=f;have ad:b 4=.slice A5 g.done.length c5:=hd 4 (hD ⟨4,.data⟩ (by simp) rfl);obtain ⟨W,e9,bk⟩:∃ W,b 9=.slice (some ⟨W,0,none⟩) 1 1/\Blk l W 26 #[aa g.now.name,.slice A n c,.slice C p d,.slice D q e]:=hd 9 (hD ⟨9,.data⟩ (by simp) rfl);obtain ⟨hl,xs,V,J⟩:=(ao.out.1.blw f);have a6:=f.size;have a3:B<=M.heap.size:=by have:=F.out.core.hB;have:=F.out.core.blk.lt;omega
   rw [if_pos (show Region.wanted _ _=true from rfl)];refine cA _ noW _ _ _ rfl B 26 ik (.agg #[.string ⟨#[]⟩,.slice none 0 0,.slice none 0 0,.slice none 0 0]) 4 88 Tryz.underlying71 a5.out.1 a5.out.2.1 a5.out.2.2.1 a5.out.2.2.2 rfl (by omega) rfl (.slice A5 g.done.length c5) g.done.length xs ad V ⟨W,0,none⟩ 1 1 [aa g.now.name,.slice A n c,.slice C p d,.slice D q e] e9 rfl (World.news_of_block bk) (by simp [Value.oneCell']) rfl (by omega) (by unfold maxLen;omega) (by omega) (by omega) ?_;intro gz cap w7 Z O X;have hp:=iZ hl V J (a:=g.now) (cs:=[aa g.now.name,.slice A n c,.slice C p d,.slice D q e]) ⟨A,n,c,C,p,d,D,q,e,rfl,F.out.now.blw f⟩ rfl Z O (by omega) (fun _ _ _ ht x=>x.tch ht (by decide) (by decide) (by decide) (by decide));exact r.out _ _ (show M.grownBy w7 _ from zI f O) ⟨_,_,rfl,hp.1,qg X ao.out.2 F.out.core.hN a6⟩ (cj.all ⟨fun h=>hd 0 h,fun h=>absurd h hn,fun h=>hd 11 h,fun h=>hd 12 h,trivial⟩)
  injection j with j;subst j;injection Q with Q;subst Q;intro b l DD hn f hD hd K r;have f:M.grownBy l (Value.slice A5 g.done.length c5).ownBlock:=f;obtain ⟨y,u,bw,J⟩:∃ y u,b 10=.slice y (g.done.length+1) u/\bC N 26 (LkC 130) 4 l B (b 10) (g.done.length+1) (g.before++[g.now]):=hd 10 (hD ⟨10,.data⟩ (by simp) rfl);have bg:b 12=.pointer (some ⟨t,4,none⟩):=hd 12 (hD ⟨12,.data⟩ (by simp) rfl);rw [bw] at J;obtain ⟨_,dq,H,_⟩:=ao.out.1;have bl:=H.neb F.out.core.blk (by decide);have G:=F.out.core.grw f bl;have ch:=G.blk.cell 4;have cz:=G.blk.frozen 4;obtain ⟨p1,p2,p3⟩:=G.put 4 (.slice y (g.done.length+1) u) (d0:=aa g.now.name) (d1:=.slice A n c) (d2:=.slice C p d) (d3:=.slice D q e) (u5:=.slice y (g.done.length+1) u) (u6:=.slice A6 g.done.length c6) (u7:=.slice S g.undone.length c7) rfl ⟨rfl,rfl,rfl,rfl,rfl,rfl,rfl⟩;have a3:B<=M.heap.size:=by have:=F.out.core.hB;have:=F.out.core.blk.lt;omega
  have r1:=LgR.grown H (by decide) a3 F.out.core.hN ao.out.2 f;have t1:Tch (bi 26) M l:=Tch.grown (fun _ hu=>hu) (by simp [bi]) H f;(try dsimp only [sq]);(try simp only [bg,bw]);go_simp;have s:=r.out undef _ (show ∃ y u,d8 N B _ t (aa g.now.name) (.slice A n c) (.slice C p d) (.slice D q e) (.slice y (g.done.length+1) u) (.slice A6 g.done.length c6) (.slice S g.undone.length c7)/\bC N 26 (LkC 130) 4 _ B (.slice y (g.done.length+1) u) (g.done.length+1) (g.before++[g.now])/\LgR N B M _/\Tch TLL M _/\(∀ x,x<M.heap.size->¬ (x=t\/(Value.slice A5 g.done.length c5).ownBlock=some x)->(World.heap _)[x]?=M.heap[x]?) from ⟨y,u,p1,J.tch p3 (by decide) (fun _ _ x=>x.tch p3 (by decide) (by decide) (by decide) (by decide)),r1.trans p2,(t1.mono (fun _ h=>DN h)).trans (p3.mono (fun _ h=>DP h)),fun x h5 h6=>(Below.heap_setCell l ⟨t,4,none⟩ _ x (fun e=>h6 (.inl e))).trans (f.block x h5 (fun e=>h6 (.inr e.symm)))⟩) trivial (cj.all ⟨fun h=>hd 0 h,fun h=>hd 11 h,fun h=>hd 12 h,trivial⟩);dsimp only [sq] at s;simp only [bg,bw] at s;exact s
 intro b L f hr;obtain ⟨A8,c8,al,bd,r8,t8,k8⟩:∃ y u,d8 N B L t (aa g.now.name) (.slice A n c) (.slice C p d) (.slice D q e) (.slice y (g.done.length+1) u) (.slice A6 g.done.length c6) (.slice S g.undone.length c7)/\bC N 26 (LkC 130) 4 L B (.slice y (g.done.length+1) u) (g.done.length+1) (g.before++[g.now])/\LgR N B M L/\Tch TLL M L/\(∀ x,x<M.heap.size->¬ (x=t\/(Value.slice A5 g.done.length c5).ownBlock=some x)->L.heap[x]?=M.heap[x]?):=f;have z:=Qh al;have cb:=Qh bd;have R8:=Qh r8;have ac:=Qh (b9.out.tch t8 (by decide) (fun _ _ x=>x));have a2:=Qh (cx.out.tch t8 (by decide) (fun _ _ x=>x));have b7:Hid (Blk L ge 39 #[.int .i64 ed.kind,aa ed.name,aa ed.text]):=Qh (t8.2 _ _ _ _ dn.out (.inl (by decide)));have c0:Hid (Blk L g5 26 #[aa U.name,.slice A1 n1 c1,.slice B1 m1 d1,.slice C1 k1 e1]):=Qh ((k8 g5 X5.out.lt N5.out).trans X5.out);have c3:=Qh (HY.out.lg r8);clear hr al bd r8 t8 b9 cx ao;dsimp only [sq];generalize b 0=y0;generalize b 1=y1;generalize b 2=y2;generalize b 3=y3;generalize b 4=y4;generalize b 5=y5;generalize b 6=y6;generalize b 7=y7;generalize b 8=y8;generalize b 9=y9;generalize b 10=y10;generalize b 11=y11;generalize b 12=y12;go_wp2_with fail;change Code.wp _ _ _ (ss _ _ _ _ _ _ _ _ _ _ _ _ _ _ _ _ _ _ _ _ _ _ _ _ _ _ _ _ _ _ _ _ _ _ _ _ (fun _=>undef)) _;refine cB (x0:=(fun _=>undef)) [7,10] [0,8,9] (R:=R2 ((jl ((PEq (.pointer (some ⟨t,0,none⟩)))::(PEq (.pointer (some ⟨t,0,none⟩)))::(PEq (.pointer (some ⟨t,0,none⟩)))::(PEq (.pointer (some ⟨t,5,none⟩)))::(PEq (.slice A6 g.done.length c6))::(PEq (.agg #[.int .i64 ed.kind,aa ed.name,aa ed.text]))::(fun v w=>∃ W,v=.slice (some ⟨W,0,none⟩) 1 1/\Blk w W 39 #[.int .i64 ed.kind,aa ed.name,aa ed.text])::fi::(PEq (.pointer (some ⟨t,0,none⟩)))::(PEq (.pointer (some ⟨t,5,none⟩)))::fi::[]))::(cj ((0,(PEq (.pointer (some ⟨t,0,none⟩))))::(7,(fun v w=>∃ y u,v=.slice y (g.done.length+1) u/\(∀ x,v.ownBlock=some x->(Value.slice A6 g.done.length c6).ownBlock=some x\/L.heap.size<=x)/\bC N 39 EdC 3 w B v (g.done.length+1) (g.done++[ed])))::(8,(PEq (.pointer (some ⟨t,0,none⟩))))::(9,(PEq (.pointer (some ⟨t,5,none⟩))))::[]))::(cj ((0,(PEq (.pointer (some ⟨t,0,none⟩))))::(8,(PEq (.pointer (some ⟨t,0,none⟩))))::(9,(PEq (.pointer (some ⟨t,5,none⟩))))::[]))::[])) (T:=T2 ((fun w=>Below L.heap.size L w)::(fun w=>L.grownBy w (Value.slice A6 g.done.length c6).ownBlock)::(fun w=>∃ y u,d8 N B w t (aa g.now.name) (.slice A n c) (.slice C p d) (.slice D q e) (.slice A8 (g.done.length+1) c8) (.slice y (g.done.length+1) u) (.slice S g.undone.length c7)/\bC N 26 (LkC 130) 4 w B (.slice A8 (g.done.length+1) c8) (g.done.length+1) (g.before++[g.now])/\bC N 39 EdC 3 w B (.slice y (g.done.length+1) u) (g.done.length+1) (g.done++[ed])/\bC N 39 EdC 3 w B (.slice S g.undone.length c7) g.undone.length g.undone/\(∀ x,(Value.slice S g.undone.length c7).ownBlock=some x->(Value.slice y (g.done.length+1) u).ownBlock≠some x)/\LgR N B L w/\Tch TLE L w)::[])) (by kernel_rfl) ?_ ?_ (by decide) (jA (by decide)) (fe (by kernel_rfl)) (ff (by kernel_rfl)) (R2.grw ⟨jl.grw ⟨gEq _,gEq _,gEq _,gEq _,gEq _,gEq _,(fun _ _ _ ⟨x,h0,P⟩ hb=>⟨x,h0,P.below hb P.lt⟩),lF,gEq _,gEq _,lF,trivial⟩,cj.grw ⟨gEq _,(fun _ _ _ ⟨y,u,h0,h2,P⟩ hb=>⟨y,u,h0,h2,P.blw hb⟩),gEq _,gEq _,trivial⟩,cj.grw ⟨gEq _,gEq _,gEq _,trivial⟩,trivial⟩) (T2.grw ⟨fun _ _ h hb=>h.trans (hb.mono h.size),fun _ _ h hb=>qf h hb,fun _ _ ⟨y,u,h0,P,h2,h3,h4,h5,h6⟩ hb=>⟨y,u,h0.blw hb,P.blw hb,h2.blw hb,h3.blw hb,h4,h5.more h0 hb,h6.more hb⟩,trivial⟩) ?_ ?_ ?_ ?_
 ·exact aw ⟨(fun _ _=>rfl),(fun _ _=>rfl),(fun _ _=>rfl),(fun _ _=>rfl),(fun _ _=>rfl),(fun _ _=>rfl),(fun _ _=>rfl),(fun _ _=>rfl),(fun _ _=>rfl),(fun _ _=>rfl),(fun _ _=>rfl),trivial⟩
 ·exact aw (bF _ 0 (by kernel_rfl))
 ·exact (ae _).drew
 ·refine aw ⟨?_,?_,?_,?_,?_,?_,?_,(fun h=>absurd (by decide) h),?_,?_,(fun h=>absurd (by decide) h),trivial⟩
  intro _ k j _
  (obtain rfl | rfl | rfl:=(show k=0\/k=1\/k=2 by have j:k<=2:=j;omega)) <;> (intro b l f hd K r;have m:=trivial)
  rotate_left 3;intro _ k _ j;obtain rfl:=j (by decide);intro b l f hd K r;have m:=trivial;rotate_left;intro _ k _ j;obtain rfl:=j (by decide);intro b l f hd K r;have m:b 1=_:=hd ⟨1,.data⟩ (by simp) rfl;rotate_left;intro _ k _ j;obtain rfl:=j (by decide);intro b l f hd K r;have m:b 2=_:=hd ⟨2,.data⟩ (by simp) rfl;rotate_left;intro _ k _ j;obtain rfl:=j (by decide);intro b l f hd K r;have m:b 3=_:=hd ⟨3,.data⟩ (by simp) rfl;have f:Below L.heap.size L l:=f;have I:=z.out.blk.below f z.out.blk.lt;have ea:=I.cell 5;rotate_left;intro _ k _ j;obtain rfl:=j (by decide);intro b l f hd K r;have f:Below L.heap.size L l:=f;have I:=b7.out.below f b7.out.lt;have bv:=I.cell 0;have bz:=I.cell 1;have bs:=I.cell 2;have m:=trivial;rotate_left
  ·intro _ k _ j
   obtain rfl:=j (by decide);intro b l f hd K r;have cp:b 5=.agg #[.int .i64 ed.kind,aa ed.name,aa ed.text]:=hd ⟨5,.data⟩ (by simp) rfl;(try dsimp only [ss]);(try simp only [cp]);go_simp;have s:=r.out (.slice (some ⟨l.heap.size,0,none⟩) 1 1) (l.alloc (.cells #[.int .i64 ed.kind,aa ed.name,aa ed.text] 39)) ⟨l.heap.size,rfl,Blk.new _ _ _⟩ ((ae l).alloc Qr _);dsimp only [ss] at s;simp only [cp] at s;exact s
  intro _ k j _
  (obtain rfl | rfl | rfl:=(show k=0\/k=1\/k=2 by have j:k<=2:=j;omega)) <;> (intro b l f hd K r;have m:b 0=_:=hd ⟨0,.data⟩ (by simp) rfl)
  rotate_left 3;intro _ k j _
  (obtain rfl | rfl | rfl:=(show k=0\/k=1\/k=2 by have j:k<=2:=j;omega)) <;> (intro b l f hd K r;have m:b 8=_:=hd ⟨8,.data⟩ (by simp) rfl)
  rotate_left 3
  all_goals
   (try dsimp only [ss]);(try simp only [m]);go_simp;have s:=r.out _ _ rfl (ae _);dsimp only [ss] at s;(try simp only [m] at s);exact s
 ·intro k i o j Q
  obtain rfl | rfl:=(show k=0\/k=1 by have:=ip j;have:k<2:=this;omega)
  ·injection j with j
   subst j;injection Q with Q;subst Q;intro b l DD hn f hD hd K r;have f:Below L.heap.size L l:=f;have ad:b 4=.slice A6 g.done.length c6:=hd 4 (hD ⟨4,.data⟩ (by simp) rfl);obtain ⟨W,e9,bk⟩:∃ W,b 6=.slice (some ⟨W,0,none⟩) 1 1/\Blk l W 39 #[.int .i64 ed.kind,aa ed.name,aa ed.text]:=hd 6 (hD ⟨6,.data⟩ (by simp) rfl);obtain ⟨hl,xs,V,J⟩:=(ac.out.1.blw f);have a6:=f.size;have a3:B<=L.heap.size:=by have:=z.out.hB;have:=z.out.blk.lt;omega
   rw [if_pos (show Region.wanted _ _=true from rfl)];refine cA _ noW _ _ _ rfl B 39 ie (.agg #[.int .i64 0,.string ⟨#[]⟩,.string ⟨#[]⟩]) 3 40 Tryz.underlying42 a4.out.1 a4.out.2.1 a4.out.2.2.1 a4.out.2.2.2 rfl (by omega) rfl (.slice A6 g.done.length c6) g.done.length xs ad V ⟨W,0,none⟩ 1 1 [.int .i64 ed.kind,aa ed.name,aa ed.text] e9 rfl (World.news_of_block bk) (by simp [Value.oneCell']) rfl (by omega) (by unfold maxLen;omega) (by omega) (by omega) ?_;intro gz cap w7 Z O X;have hp:=iZ hl V J (a:=ed) (cs:=[.int .i64 ed.kind,aa ed.name,aa ed.text]) rfl rfl Z O (by omega) (fun _ _ _ _ x=>x)
   exact r.out _ _ (show L.grownBy w7 _ from zI f O) ⟨_,_,rfl,fun x I=>by
    injection I with I;subst I;rcases X with h | h
    ·exact .inl h
    exact .inr (by rw [h];exact a6),hp.1,qg X ac.out.2 z.out.hN a6⟩ (cj.all ⟨fun h=>hd 0 h,fun h=>absurd h hn,fun h=>hd 8 h,fun h=>hd 9 h,trivial⟩)
  injection j with j;subst j;injection Q with Q;subst Q;intro b l DD hn f hD hd K r;have f:L.grownBy l (Value.slice A6 g.done.length c6).ownBlock:=f;obtain ⟨y,u,e7,X,J⟩:∃ y u,b 7=.slice y (g.done.length+1) u/\(∀ x,(b 7).ownBlock=some x->(Value.slice A6 g.done.length c6).ownBlock=some x\/L.heap.size<=x)/\bC N 39 EdC 3 l B (b 7) (g.done.length+1) (g.done++[ed]):=hd 7 (hD ⟨7,.data⟩ (by simp) rfl);have cy:b 9=.pointer (some ⟨t,5,none⟩):=hd 9 (hD ⟨9,.data⟩ (by simp) rfl);rw [e7] at J X;obtain ⟨_,dq,H,_⟩:=ac.out.1;have bl:=H.neb z.out.blk (by decide);have G:=z.out.grw f bl;have ch:=G.blk.cell 5;have cz:=G.blk.frozen 5;obtain ⟨p1,p2,p3⟩:=G.put 5 (.slice y (g.done.length+1) u) (d0:=aa g.now.name) (d1:=.slice A n c) (d2:=.slice C p d) (d3:=.slice D q e) (u5:=.slice A8 (g.done.length+1) c8) (u6:=.slice y (g.done.length+1) u) (u7:=.slice S g.undone.length c7) rfl ⟨rfl,rfl,rfl,rfl,rfl,rfl,rfl⟩;have a3:B<=L.heap.size:=by have:=z.out.hB;have:=z.out.blk.lt;omega
  have r1:=LgR.grown H (by decide) a3 z.out.hN ac.out.2 f;have t1:Tch (bi 39) L l:=Tch.grown (fun _ hu=>hu) (by simp [bi]) H f;have u1:aq 39 EdC 3 l B (.slice S g.undone.length c7) g.undone.length g.undone:=a2.out.1.gr f (fun x P h2=>b5.out x P h2) (fun _ _ x=>x);have u2:bC N 39 EdC 3 _ B (.slice S g.undone.length c7) g.undone.length g.undone:=⟨u1.tch p3 (by decide) (fun _ _ x=>x),a2.out.2⟩;have b2:=(cb.out.tch t1 (by decide) (fun _ _ x=>x.tch t1 (by decide) (by decide) (by decide) (by decide))).tch p3 (by decide) (fun _ _ x=>x.tch p3 (by decide) (by decide) (by decide) (by decide))
  have ca:∀ x,(Value.slice S g.undone.length c7).ownBlock=some x->(Value.slice y (g.done.length+1) u).ownBlock≠some x:=by
   intro x P h2;rcases X x h2 with h3 | h3
   ·exact b5.out x P h3
   obtain ⟨_,d9,br,_⟩:=a2.out.1;obtain ⟨_,cur,h4,_⟩:=br.at_ P;have:=lt_of_block h4;omega
  (try dsimp only [ss]);(try simp only [cy,e7]);go_simp;have s:=r.out undef _ (show ∃ y u,d8 N B _ t (aa g.now.name) (.slice A n c) (.slice C p d) (.slice D q e) (.slice A8 (g.done.length+1) c8) (.slice y (g.done.length+1) u) (.slice S g.undone.length c7)/\bC N 26 (LkC 130) 4 _ B (.slice A8 (g.done.length+1) c8) (g.done.length+1) (g.before++[g.now])/\bC N 39 EdC 3 _ B (.slice y (g.done.length+1) u) (g.done.length+1) (g.done++[ed])/\bC N 39 EdC 3 _ B (.slice S g.undone.length c7) g.undone.length g.undone/\(∀ x,(Value.slice S g.undone.length c7).ownBlock=some x->(Value.slice y (g.done.length+1) u).ownBlock≠some x)/\LgR N B L _/\Tch TLE L _ from ⟨y,u,p1,b2,J.tch p3 (by decide) (fun _ _ x=>x),u2,ca,r1.trans p2,(t1.mono (fun _ h=>DQ h)).trans (p3.mono (fun _ h=>DS h))⟩) trivial (cj.all ⟨fun h=>hd 0 h,fun h=>hd 8 h,fun h=>hd 9 h,trivial⟩);dsimp only [ss] at s;simp only [cy,e7] at s;exact s
 intro b wb f hr;obtain ⟨A9,c9,E,bb,a9,bf,cL,r9,t9⟩:∃ y u,d8 N B wb t (aa g.now.name) (.slice A n c) (.slice C p d) (.slice D q e) (.slice A8 (g.done.length+1) c8) (.slice y (g.done.length+1) u) (.slice S g.undone.length c7)/\bC N 26 (LkC 130) 4 wb B (.slice A8 (g.done.length+1) c8) (g.done.length+1) (g.before++[g.now])/\bC N 39 EdC 3 wb B (.slice y (g.done.length+1) u) (g.done.length+1) (g.done++[ed])/\bC N 39 EdC 3 wb B (.slice S g.undone.length c7) g.undone.length g.undone/\(∀ x,(Value.slice S g.undone.length c7).ownBlock=some x->(Value.slice y (g.done.length+1) u).ownBlock≠some x)/\LgR N B L wb/\Tch TLE L wb:=f;have b8:Blk wb g5 26 #[aa U.name,.slice A1 n1 c1,.slice B1 m1 d1,.slice C1 k1 e1]:=t9.2 _ _ _ _ c0.out (.inl (by decide));have cv:=c3.out.lg r9;clear hr;dsimp only [ss];have a0:=b8.c4;have b0:=E.blk.frozen 0;have b1:=E.blk.frozen 1;have b2:=E.blk.frozen 2;have b3:=E.blk.frozen 3;have ds:=E.blk.cell 0;have d4:=E.blk.cell 1;have ec:=E.blk.cell 2;have d5:=E.blk.cell 3;have bu:=Qh E;have cr:=Qh bb;have cn:=Qh a9;have b4:=Qh bf;have db:=Qh cv;have R9:=Qh r9;clear E bb a9 bf cv r9 t9 b8;go_wp2_with fail;refine bodyPost_ret (v:=.nilIface) (by simp [results,Tryz.results48,go_sem, *] <;> trivial) rfl ?_;have hs:=uO bu.out cr.out cn.out b4.out cL db.out;refine ⟨by rw [aO],fun h=>absurd rfl h,fun _=>⟨((LgR.below (by have:=Y.out.hB;have:=Y.out.blk.lt;omega) Y.out.hN Q9.out).trans (R8.out.trans R9.out)).trans hs.2,_,_,_,_,_,_,_,_,_,_,_,_,hs.1⟩⟩
theorem aq.at_ {α:Type}{T0:TypeId}{Pc:World->List Value->α->Prop}{s:Nat}{w:World}{B n c i:Nat}{A:Option Addr}{l:List α}{a:α}(h:aq T0 Pc s w B (.slice A n c) n l) (p:l[i]?=some a):∃ g cs,A=some ⟨g,0,none⟩/\Pc w cs a/\∀ j u,cs[j]?=some u->w.cell? ⟨g,i*s+j,none⟩=some u:=by
 obtain ⟨r,E,x,b,e,C,d,z⟩:=h;have q:i<n:=by rw [<- r];exact (List.getElem?_eq_some_iff.1 p).1
 rcases x.2 with ⟨m,F⟩ | ⟨g,cap,cur,m,_,t,D,_,G,y,_⟩
 ·omega
 injection m with a1 _ a3;subst a1 a3;have f:b[i]?=some b[i]:=List.getElem?_eq_getElem (by omega);refine ⟨g,b[i],rfl,z i a _ p f,fun j u o=>?_⟩;have v:j<s:=by rw [<- d b[i] (List.getElem_mem _)];exact (List.getElem?_eq_some_iff.1 o).1
 have k:=kg d f j v;rw [o,<- e,<- y,List.getElem?_take] at k;split at k
 ·unfold World.cell?
  rw [t];simpa using k
 cases k
theorem Cc {N:Nat->Prop}{B:Nat}{w:World}{f:Nat}{i:Value}{L:ag}{s:List ag}{g un:List bL}{m k:Nat}{A C D:Option Addr}{n c p d q e:Nat}{b a:Option Addr}{c5 c6:Nat}(h:d8 N B w f (aa L.name) (.slice A n c) (.slice C p d) (.slice D q e) (.slice b (m+1) c5) (.slice a (m+1) c6) i) (H:bC N 26 (LkC 130) 4 w B (.slice b (m+1) c5) (m+1) s) (u:bC N 39 EdC 3 w B (.slice a (m+1) c6) (m+1) g) (o:bC N 39 EdC 3 w B i k un) (dis:∀ x,i.ownBlock=some x->(Value.slice a (m+1) c6).ownBlock≠some x) (I:LkY 130 w A n c C p d D q e L):lI N B ((w.setCell ⟨f,4,none⟩ (.slice b m c5)).setCell ⟨f,5,none⟩ (.slice a m c6)) f ⟨L,s.take m,g.take m,un⟩ A n c C p d D q e (.slice b m c5) (.slice a m c6) i/\LgR N B w ((w.setCell ⟨f,4,none⟩ (.slice b m c5)).setCell ⟨f,5,none⟩ (.slice a m c6)):=by
 obtain ⟨P,K,Q,M,R,O,j⟩:=h.nw;obtain ⟨p1,F,y⟩:=h.put 4 (.slice b m c5) (d0:=aa L.name) (d1:=.slice A n c) (d2:=.slice C p d) (d3:=.slice D q e) (u5:=.slice b m c5) (u6:=.slice a (m+1) c6) rfl ⟨rfl,rfl,rfl,rfl,rfl,rfl,j⟩;obtain ⟨p2,J,E⟩:=p1.put 5 (.slice a m c6) (d0:=aa L.name) (d1:=.slice A n c) (d2:=.slice C p d) (d3:=.slice D q e) (u5:=.slice b m c5) (u6:=.slice a m c6) rfl ⟨rfl,rfl,rfl,rfl,rfl,rfl,j⟩;have t:=y.trans E;have r:=F.trans J;have l:(g.take m).length=m:=by rw [List.length_take,u.1.1];omega
 have G:k=un.length:=o.1.1.symm;subst G;refine ⟨⟨p2,I.lg r,?_,?_,o.tch t (by decide) (fun _ _ x=>x),fun x z v=>dis x z (by rw [<- v];cases a <;> rfl)⟩,r⟩
 ·show bC _ _ _ _ _ _ _ (g.take m).length _
  rw [l];exact (H.cut (Nat.le_succ m)).tch t (by decide) (fun _ _ x=>x.tch t (by decide) (by decide) (by decide) (by decide))
 show bC _ _ _ _ _ _ _ (g.take m).length _;rw [l];exact (u.cut (Nat.le_succ m)).tch t (by decide) (fun _ _ x=>x)
theorem zK {N:Nat->Prop}{B:Nat}{w:World}{f:Nat}{i:Value}{L:ag}{s:List ag}{g un:List bL}{m k:Nat}{A C D:Option Addr}{n c p d q e:Nat}{b a:Option Addr}{c5 c6:Nat}(h:d8 N B w f (aa L.name) (.slice A n c) (.slice C p d) (.slice D q e) (.slice b (m+1) c5) (.slice a (m+1) c6) i) (H:bC N 26 (LkC 130) 4 w B (.slice b (m+1) c5) (m+1) s) (u:bC N 39 EdC 3 w B (.slice a (m+1) c6) (m+1) g) (o:bC N 39 EdC 3 w B i k un) (dis:∀ x,i.ownBlock=some x->(Value.slice a (m+1) c6).ownBlock≠some x) (I:LkY 130 w A n c C p d D q e L):lI N B ((w.setCell ⟨f,5,none⟩ (.slice a m c6)).setCell ⟨f,4,none⟩ (.slice b m c5)) f ⟨L,s.take m,g.take m,un⟩ A n c C p d D q e (.slice b m c5) (.slice a m c6) i/\LgR N B w ((w.setCell ⟨f,5,none⟩ (.slice a m c6)).setCell ⟨f,4,none⟩ (.slice b m c5)):=by
 obtain ⟨P,K,Q,M,R,O,j⟩:=h.nw;obtain ⟨p1,F,y⟩:=h.put 5 (.slice a m c6) (d0:=aa L.name) (d1:=.slice A n c) (d2:=.slice C p d) (d3:=.slice D q e) (u5:=.slice b (m+1) c5) (u6:=.slice a m c6) rfl ⟨rfl,rfl,rfl,rfl,rfl,rfl,j⟩;obtain ⟨p2,J,E⟩:=p1.put 4 (.slice b m c5) (d0:=aa L.name) (d1:=.slice A n c) (d2:=.slice C p d) (d3:=.slice D q e) (u5:=.slice b m c5) (u6:=.slice a m c6) rfl ⟨rfl,rfl,rfl,rfl,rfl,rfl,j⟩;have t:=y.trans E;have r:=F.trans J;have l:(g.take m).length=m:=by rw [List.length_take,u.1.1];omega
 have G:k=un.length:=o.1.1.symm;subst G;refine ⟨⟨p2,I.lg r,?_,?_,o.tch t (by decide) (fun _ _ x=>x),fun x z v=>dis x z (by rw [<- v];cases a <;> rfl)⟩,r⟩
 ·show bC _ _ _ _ _ _ _ (g.take m).length _
  rw [l];exact (H.cut (Nat.le_succ m)).tch t (by decide) (fun _ _ x=>x.tch t (by decide) (by decide) (by decide) (by decide))
 show bC _ _ _ _ _ _ _ (g.take m).length _;rw [l];exact (u.cut (Nat.le_succ m)).tch t (by decide) (fun _ _ x=>x)
theorem su {N:Nat->Prop}{B:Nat}{w f a:World}{b:Nat}{g:gc}{A C D:Option Addr}{n c p d q e:Nat}{l j k v:Value}(i:bo 0=v) (r:LgR N B w f) (h:lI N B a b g A n c C p d D q e l j k/\LgR N B f a):lA N B w b 0 g (.returned v) a.drew:=by
 have hb:Below a.heap.size a a.drew:=(ae a).drew;exact ⟨by rw [i],fun h=>absurd rfl h,fun _=>⟨(r.trans h.2).trans (LgR.below (by have:=h.1.core.hB;have:=h.1.core.blk.lt;omega) h.1.core.hN hb),_,_,_,_,_,_,_,_,_,_,_,_,h.1.blw hb⟩⟩
abbrev sw (u0 u1 u2 u3 u4 u5 u6 u7 u8 u9 u10 u11 u12 u13 u14 u15 u16 u17 u18 u19 u20 u21 u22 u23 u24 u25 u42 u43 u44 u45 u46 u47 u48 u49 u50 u51 u52 u53 u54 u55 u56 u57 u58 u59:Value) (xf:Nat->Value):Act:=⟨List.toArray (u0::u1::u2::u3::u4::u5::u6::u7::u8::u9::u10::u11::u12::u13::u14::u15::u16::u17::u18::u19::u20::u21::u22::u23::u24::u25::xf 0::xf 1::xf 2::xf 3::xf 4::xf 5::xf 6::xf 7::xf 8::xf 9::xf 10::xf 11::xf 12::xf 13::xf 14::xf 15::u42::u43::u44::u45::u46::u47::u48::u49::u50::u51::u52::u53::u54::u55::u56::u57::u58::u59::[]),[]⟩
theorem DU (N:Nat->Prop) (B:Nat) (w:World) (s:Nat) (g:gc) (h:jB N B w s g) (m:Nat) (hm:g.done.length=m+1) (L1:ag) (hL:g.before[m]?=some L1) (u:bL) (he:g.done[m]?=some u) (hc:g.done.length<=1000) (hu:g.undone.length<=1000):Calls Tryz.prog 21 #[.pointer (some ⟨s,0,none⟩)] w (lA N B w s 0 ⟨L1,g.before.take m,g.done.take m,g.undone++[u]⟩):=by
 obtain ⟨A,n,c,C,p,d,D,q,e,v5,v6,v7,h⟩:=h;obtain ⟨A5,c5,A6,c6,A7,c7,rfl,rfl,rfl,h5,h6,h7⟩:=h.forms;obtain ⟨ie,b4,bv,b6,bY⟩:=info_parts p8;have ad:=Qh (And.intro b4 (And.intro bv (And.intro b6 bY)));clear b4 bv b6 bY;obtain ⟨gb,cs,eA,⟨A1,n1,c1,B1,m1,d1,C1,k1,f1,e0,hY⟩,V⟩:=h.bef.1.at_ hL;subst eA e0;obtain ⟨L,cs,eA,e0,J⟩:=h.don.1.at_ he;subst eA e0;have z:=h.core.blk;have ac:=h.bef;have bg:=h.don;have b7:=h.und;have bk:=h.dis;have Z:=h.core;rw [hm] at z ac bg bk Z h5 h6;have d0:=V 0 _ rfl;have ca:=V 1 _ rfl;have d2:=V 2 _ rfl;have d3:=V 3 _ rfl;simp only [Nat.add_zero] at d0;have cb:=Qh (And.intro (J 0 _ rfl) (And.intro (J 1 _ rfl) (J 2 _ rfl)));obtain ⟨a0,a1,a2,a3⟩:w.cell? ⟨s,4,none⟩=_/\w.cell? ⟨s,5,none⟩=_/\w.cell? ⟨s,6,none⟩=_/\w.cell? ⟨s,0,none⟩=_:=⟨z.cell 4,z.cell 5,z.cell 6,z.cell 0⟩;have a4:=z.cell 1;have a5:=z.cell 2;have a6:=z.cell 3;have b0:=z.frozen 0;have b1:=z.frozen 1;have b2:=z.frozen 2;have b3:=z.frozen 3
 have bs:¬ s=gb:=fun e=>by
  obtain ⟨_,xs,ho,_⟩:=ac.1;exact ho.neb z (by decide) (by rw [e];rfl)
 have cr:((m:Int)<0)=False:=by simp
 have cm:((m:Int)<((m+1:Nat):Int)):=by omega
 have hs:=uO Z ac bg b7 bk hY;have HS:=Qh hs;have ch:=Qh Z;have cu:=Qh h.core.blk.lt;clear h V J z ac bg b7 bk Z hs;go_in;have c3:((g.done.length:Nat):Int)=(m:Int)+1:=by omega
 go_wp2_with fail;clear a0 a1 a2 a3 a4 a5 a6 b0 b1 b2 b3 d0 ca d2 d3;generalize ((((w.setCell ⟨s,0,none⟩ (aa L1.name)).setCell ⟨s,1,none⟩ (.slice A1 n1 c1)).setCell ⟨s,2,none⟩ (.slice B1 m1 d1)).setCell ⟨s,3,none⟩ (.slice C1 k1 f1))=H at HS;have L5:=HS.out.1;have l:=Qh L5.core;have ab:=L5.don;have br:=L5.bef;rw [hm] at ab br;obtain ⟨cp,cs,eA,e0,J⟩:=ab.1.at_ he;injection eA with eA;injection eA with eA;subst eA e0;have EC:=Qh (And.intro (show H.cell? ⟨L,m*3,none⟩=_ from J 0 _ rfl) (And.intro (J 1 _ rfl) (J 2 _ rfl)));have bx:=Qh br;have al:=Qh ab;have Y:=Qh L5.und;have bu:=Qh L5.dis;have bw:=Qh L5.now;have RS:=Qh HS.out.2;clear L5 ab br J cb HS ch;change Code.wp _ _ _ _ H;change Code.wp _ _ _ (sw _ _ _ _ _ _ _ _ _ _ _ _ _ _ _ _ _ _ _ _ _ _ _ _ _ _ _ _ _ _ _ _ _ _ _ _ _ _ _ _ _ _ _ _ (fun _=>undef)) _;refine cB (x0:=(fun _=>undef)) [13,16] [0,14,15] (R:=R2 ((jl ((PEq (.pointer (some ⟨s,0,none⟩)))::(PEq (.pointer (some ⟨s,0,none⟩)))::(PEq (.pointer (some ⟨s,0,none⟩)))::(PEq (.pointer (some ⟨s,6,none⟩)))::(PEq (.slice A7 g.undone.length c7))::(PEq (.pointer (some ⟨s,0,none⟩)))::(PEq (.pointer (some ⟨s,0,none⟩)))::(PEq (.pointer (some ⟨s,5,none⟩)))::(PEq (.slice (some ⟨L,0,none⟩) (m+1) c6))::(PEq (.int .i64 (m:Nat)))::(PEq (.pointer (some ⟨L,m*3,none⟩)))::(PEq (.agg #[.int .i64 u.kind,aa u.name,aa u.text]))::(fun v w=>∃ gs,v=.slice (some ⟨gs,0,none⟩) 1 1/\Blk w gs 39 #[.int .i64 u.kind,aa u.name,aa u.text])::fi::(PEq (.pointer (some ⟨s,0,none⟩)))::(PEq (.pointer (some ⟨s,6,none⟩)))::fi::[]))::(cj ((0,(PEq (.pointer (some ⟨s,0,none⟩))))::(13,(fun v w=>∃ G F,v=.slice G (g.undone.length+1) F/\(∀ x,v.ownBlock=some x->(Value.slice A7 g.undone.length c7).ownBlock=some x\/H.heap.size<=x)/\bC N 39 EdC 3 w B v (g.undone.length+1) (g.undone++[u])))::(14,(PEq (.pointer (some ⟨s,0,none⟩))))::(15,(PEq (.pointer (some ⟨s,6,none⟩))))::[]))::(cj ((0,(PEq (.pointer (some ⟨s,0,none⟩))))::(14,(PEq (.pointer (some ⟨s,0,none⟩))))::(15,(PEq (.pointer (some ⟨s,6,none⟩))))::[]))::[])) (T:=T2 ((fun w=>Below H.heap.size H w)::(fun w=>H.grownBy w (Value.slice A7 g.undone.length c7).ownBlock)::(fun w=>∃ G F,d8 N B w s (aa L1.name) (.slice A1 n1 c1) (.slice B1 m1 d1) (.slice C1 k1 f1) (.slice (some ⟨gb,0,none⟩) (m+1) c5) (.slice (some ⟨L,0,none⟩) (m+1) c6) (.slice G (g.undone.length+1) F)/\bC N 26 (LkC 130) 4 w B (.slice (some ⟨gb,0,none⟩) (m+1) c5) (m+1) g.before/\bC N 39 EdC 3 w B (.slice (some ⟨L,0,none⟩) (m+1) c6) (m+1) g.done/\bC N 39 EdC 3 w B (.slice G (g.undone.length+1) F) (g.undone.length+1) (g.undone++[u])/\(∀ x,(Value.slice G (g.undone.length+1) F).ownBlock=some x->(Value.slice (some ⟨L,0,none⟩) (m+1) c6).ownBlock≠some x)/\LgR N B H w)::[])) (by kernel_rfl) ?_ ?_ (by decide) (jA (by decide)) (fe (by kernel_rfl)) (ff (by kernel_rfl)) (R2.grw ⟨jl.grw ⟨gEq _,gEq _,gEq _,gEq _,gEq _,gEq _,gEq _,gEq _,gEq _,gEq _,gEq _,gEq _,(fun _ _ _ ⟨x,h0,X⟩ hb=>⟨x,h0,X.below hb X.lt⟩),lF,gEq _,gEq _,lF,trivial⟩,cj.grw ⟨gEq _,(fun _ _ _ ⟨G,F,h0,h2,X⟩ hb=>⟨G,F,h0,h2,X.blw hb⟩),gEq _,gEq _,trivial⟩,cj.grw ⟨gEq _,gEq _,gEq _,trivial⟩,trivial⟩) (T2.grw ⟨fun _ _ h hb=>h.trans (hb.mono h.size),fun _ _ h hb=>qf h hb,fun _ _ ⟨G,F,h0,X,h2,h3,h4,h5⟩ hb=>⟨G,F,h0.blw hb,X.blw hb,h2.blw hb,h3.blw hb,h4,h5.more h0 hb⟩,trivial⟩) ?_ ?_ ?_ ?_
 ·exact aw ⟨(fun _ _=>rfl),(fun _ _=>rfl),(fun _ _=>rfl),(fun _ _=>rfl),(fun _ _=>rfl),(fun _ _=>rfl),(fun _ _=>rfl),(fun _ _=>rfl),(fun _ _=>rfl),(fun _ _=>rfl),(fun _ _=>rfl),(fun _ _=>rfl),(fun _ _=>rfl),(fun _ _=>rfl),(fun _ _=>rfl),(fun _ _=>rfl),(fun _ _=>rfl),trivial⟩
 ·exact aw (bF _ 0 (by kernel_rfl))
 ·exact (ae _).drew
 ·refine aw ⟨?_,?_,?_,?_,?_,?_,?_,?_,?_,?_,?_,?_,?_,(fun h=>absurd (by decide) h),?_,?_,(fun h=>absurd (by decide) h),trivial⟩
  intro _ k f _
  (obtain rfl | rfl | rfl:=(show k=0\/k=1\/k=2 by have f:k<=2:=f;omega)) <;> (intro b y j hd K I;have r:=trivial;have t:=trivial)
  rotate_left 3;intro _ k _ f;obtain rfl:=f (by decide);intro b y j hd K I;have r:=trivial;have t:=trivial;rotate_left;intro _ k _ f;obtain rfl:=f (by decide);intro b y j hd K I;have r:b 1=_:=hd ⟨1,.data⟩ (by simp) rfl;have t:=trivial;rotate_left;intro _ k _ f;obtain rfl:=f (by decide);intro b y j hd K I;have r:b 2=_:=hd ⟨2,.data⟩ (by simp) rfl;have t:=trivial;rotate_left;intro _ k _ f;obtain rfl:=f (by decide);intro b y j hd K I;have r:b 3=_:=hd ⟨3,.data⟩ (by simp) rfl;have j:Below H.heap.size H y:=j;have hc:=(l.out.blk.below j l.out.blk.lt).cell 6;have t:=trivial;rotate_left;intro _ k _ f;obtain rfl:=f (by decide);intro b y j hd K I;have r:=trivial;have t:=trivial;rotate_left;intro _ k _ f;obtain rfl:=f (by decide);intro b y j hd K I;have r:b 5=_:=hd ⟨5,.data⟩ (by simp) rfl;have t:=trivial;rotate_left;intro _ k _ f;obtain rfl:=f (by decide);intro b y j hd K I;have r:b 6=_:=hd ⟨6,.data⟩ (by simp) rfl;have t:=trivial;rotate_left;intro _ k _ f;obtain rfl:=f (by decide);intro b y j hd K I;have r:b 7=_:=hd ⟨7,.data⟩ (by simp) rfl;have j:Below H.heap.size H y:=j;have hc:=(l.out.blk.below j l.out.blk.lt).cell 5;have t:=trivial;rotate_left;intro _ k _ f;obtain rfl:=f (by decide);intro b y j hd K I;have r:=trivial;have t:=trivial;rotate_left;intro _ k _ f;obtain rfl:=f (by decide);intro b y j hd K I;have r:b 8=_:=hd ⟨8,.data⟩ (by simp) rfl;have t:b 9=_:=hd ⟨9,.data⟩ (by simp) rfl;have c4:((m:Int)<(m:Int)+1)=True:=eq_true (by omega);rotate_left;intro _ k _ f;obtain rfl:=f (by decide);intro b y j hd K I;have r:b 10=_:=hd ⟨10,.data⟩ (by simp) rfl;have j:Below H.heap.size H y:=j;have cL:=ai EC.out.1 j;have di:=ai EC.out.2.1 j;have cy:=ai EC.out.2.2 j;have t:=trivial;rotate_left
  ·intro _ k _ f
   obtain rfl:=f (by decide);intro b y j hd K I;have aS:b 11=.agg #[.int .i64 u.kind,aa u.name,aa u.text]:=hd ⟨11,.data⟩ (by simp) rfl;(try dsimp only [sw]);(try simp only [aS]);go_simp;have Q:=I.out (.slice (some ⟨y.heap.size,0,none⟩) 1 1) (y.alloc (.cells #[.int .i64 u.kind,aa u.name,aa u.text] 39)) ⟨y.heap.size,rfl,Blk.new _ _ _⟩ ((ae y).alloc Qr _);dsimp only [sw] at Q;simp only [aS] at Q;exact Q
  intro _ k f _
  (obtain rfl | rfl | rfl:=(show k=0\/k=1\/k=2 by have f:k<=2:=f;omega)) <;> (intro b y j hd K I;have r:b 0=_:=hd ⟨0,.data⟩ (by simp) rfl;have t:=trivial)
  rotate_left 3;intro _ k f _
  (obtain rfl | rfl | rfl:=(show k=0\/k=1\/k=2 by have f:k<=2:=f;omega)) <;> (intro b y j hd K I;have r:b 14=_:=hd ⟨14,.data⟩ (by simp) rfl;have t:=trivial)
  rotate_left 3
  all_goals
   (try dsimp only [sw]);(try simp only [r,t]);go_simp;have Q:=I.out _ _ rfl (ae _);dsimp only [sw] at Q;(try simp only [r,t] at Q);exact Q
 ·intro k i o f ho
  obtain rfl | rfl:=(show k=0\/k=1 by have:=ip f;have:k<2:=this;omega)
  ·injection f with f
   subst f;injection ho with ho;subst ho;intro b y DD hn j hD hd K I;have j:Below H.heap.size H y:=j;have cc:b 4=.slice A7 g.undone.length c7:=hd 4 (hD ⟨4,.data⟩ (by simp) rfl);obtain ⟨gs,e9,b9⟩:∃ gs,b 12=.slice (some ⟨gs,0,none⟩) 1 1/\Blk y gs 39 #[.int .i64 u.kind,aa u.name,aa u.text]:=hd 12 (hD ⟨12,.data⟩ (by simp) rfl);obtain ⟨hl,xs,a9,P⟩:=(Y.out.1.blw j);have b5:=j.size;have b8:B<=H.heap.size:=by have:=l.out.hB;have:=l.out.blk.lt;omega
   rw [if_pos (show Region.wanted _ _=true from rfl)];refine cA _ noW _ _ _ rfl B 39 ie (.agg #[.int .i64 0,.string ⟨#[]⟩,.string ⟨#[]⟩]) 3 40 Tryz.underlying42 ad.out.1 ad.out.2.1 ad.out.2.2.1 ad.out.2.2.2 rfl (by omega) rfl (.slice A7 g.undone.length c7) g.undone.length xs cc a9 ⟨gs,0,none⟩ 1 1 [.int .i64 u.kind,aa u.name,aa u.text] e9 rfl (World.news_of_block b9) (by simp [Value.oneCell']) rfl (by omega) (by unfold maxLen;omega) (by omega) (by omega) ?_;intro gz cap w7 bn W U;have hp:=iZ hl a9 P (a:=u) (cs:=[.int .i64 u.kind,aa u.name,aa u.text]) rfl rfl bn W (by omega) (fun _ _ _ _ x=>x)
   exact I.out _ _ (show H.grownBy w7 _ from zI j W) ⟨_,_,rfl,fun x hx=>by
    injection hx with hx;subst hx;rcases U with h | h
    ·exact .inl h
    exact .inr (by rw [h];exact b5),hp.1,qg U Y.out.2 l.out.hN b5⟩ (cj.all ⟨fun h=>hd 0 h,fun h=>absurd h hn,fun h=>hd 14 h,fun h=>hd 15 h,trivial⟩)
  injection f with f;subst f;injection ho with ho;subst ho;intro b y DD hn j hD hd K I;have j:H.grownBy y (Value.slice A7 g.undone.length c7).ownBlock:=j;obtain ⟨G,F,e7,U,P⟩:∃ G F,b 13=.slice G (g.undone.length+1) F/\(∀ x,(b 13).ownBlock=some x->(Value.slice A7 g.undone.length c7).ownBlock=some x\/H.heap.size<=x)/\bC N 39 EdC 3 y B (b 13) (g.undone.length+1) (g.undone++[u]):=hd 13 (hD ⟨13,.data⟩ (by simp) rfl);have bb:b 15=.pointer (some ⟨s,6,none⟩):=hd 15 (hD ⟨15,.data⟩ (by simp) rfl);rw [e7] at P U;obtain ⟨_,c9,O,_⟩:=Y.out.1;have bs:=O.neb l.out.blk (by decide);have M:=l.out.grw j bs;have c0:=M.blk.cell 6;have db:=M.blk.frozen 6;obtain ⟨p1,p2,p3⟩:=M.put 6 (.slice G (g.undone.length+1) F) (d0:=aa L1.name) (d1:=.slice A1 n1 c1) (d2:=.slice B1 m1 d1) (d3:=.slice C1 k1 f1) (u5:=.slice (some ⟨gb,0,none⟩) (m+1) c5) (u6:=.slice (some ⟨L,0,none⟩) (m+1) c6) (u7:=.slice G (g.undone.length+1) F) rfl ⟨rfl,rfl,rfl,rfl,rfl,rfl,rfl⟩;have b8:B<=H.heap.size:=by have:=l.out.hB;have:=l.out.blk.lt;omega
  have r1:=LgR.grown O (by decide) b8 l.out.hN Y.out.2 j;have t1:Tch (bi 39) H y:=Tch.grown (fun _ hu=>hu) (by simp [bi]) O j;have u1:aq 39 EdC 3 y B (.slice (some ⟨L,0,none⟩) (m+1) c6) (m+1) g.done:=al.out.1.gr j (fun x X h2=>bu.out x h2 X) (fun _ _ x=>x);have u2:bC N 39 EdC 3 _ B (.slice (some ⟨L,0,none⟩) (m+1) c6) (m+1) g.done:=⟨u1.tch p3 (by decide) (fun _ _ x=>x),al.out.2⟩;have b2:=(bx.out.tch t1 (by decide) (fun _ _ x=>x.tch t1 (by decide) (by decide) (by decide) (by decide))).tch p3 (by decide) (fun _ _ x=>x.tch p3 (by decide) (by decide) (by decide) (by decide))
  have bz:∀ x,(Value.slice G (g.undone.length+1) F).ownBlock=some x->(Value.slice (some ⟨L,0,none⟩) (m+1) c6).ownBlock≠some x:=by
   intro x h2 X;rcases U x h2 with h3 | h3
   ·exact bu.out x h3 X
   obtain ⟨_,c2,bl,_⟩:=al.out.1;obtain ⟨_,cur,h4,_⟩:=bl.at_ X;have:=lt_of_block h4;omega
  (try dsimp only [sw]);(try simp only [bb,e7]);go_simp;have Q:=I.out undef _ (show ∃ G F,d8 N B _ s (aa L1.name) (.slice A1 n1 c1) (.slice B1 m1 d1) (.slice C1 k1 f1) (.slice (some ⟨gb,0,none⟩) (m+1) c5) (.slice (some ⟨L,0,none⟩) (m+1) c6) (.slice G (g.undone.length+1) F)/\bC N 26 (LkC 130) 4 _ B (.slice (some ⟨gb,0,none⟩) (m+1) c5) (m+1) g.before/\bC N 39 EdC 3 _ B (.slice (some ⟨L,0,none⟩) (m+1) c6) (m+1) g.done/\bC N 39 EdC 3 _ B (.slice G (g.undone.length+1) F) (g.undone.length+1) (g.undone++[u])/\(∀ x,(Value.slice G (g.undone.length+1) F).ownBlock=some x->(Value.slice (some ⟨L,0,none⟩) (m+1) c6).ownBlock≠some x)/\LgR N B H _ from ⟨G,F,p1,b2,u2,P.tch p3 (by decide) (fun _ _ x=>x),bz,r1.trans p2⟩) trivial (cj.all ⟨fun h=>hd 0 h,fun h=>hd 14 h,fun h=>hd 15 h,trivial⟩);dsimp only [sw] at Q;simp only [bb,e7] at Q;exact Q
 intro b wa j hr;obtain ⟨A8,c8,E,aT,aC,a8,bd,r8⟩:∃ G F,d8 N B wa s (aa L1.name) (.slice A1 n1 c1) (.slice B1 m1 d1) (.slice C1 k1 f1) (.slice (some ⟨gb,0,none⟩) (m+1) c5) (.slice (some ⟨L,0,none⟩) (m+1) c6) (.slice G (g.undone.length+1) F)/\bC N 26 (LkC 130) 4 wa B (.slice (some ⟨gb,0,none⟩) (m+1) c5) (m+1) g.before/\bC N 39 EdC 3 wa B (.slice (some ⟨L,0,none⟩) (m+1) c6) (m+1) g.done/\bC N 39 EdC 3 wa B (.slice G (g.undone.length+1) F) (g.undone.length+1) (g.undone++[u])/\(∀ x,(Value.slice G (g.undone.length+1) F).ownBlock=some x->(Value.slice (some ⟨L,0,none⟩) (m+1) c6).ownBlock≠some x)/\LgR N B H wa:=j;have S:=Qh E;have a7:=Qh aT;have an:=Qh aC;have bf:=Qh a8;have R8:=Qh r8;have ao:=Qh bd;have cv:=E.blk.cell 4;have cn:=E.blk.cell 5;have cx:=E.blk.frozen 4;have ck:=E.blk.frozen 5;have cz:((m:Int)<=(c5:Int))=True:=by simp;omega
 clear hr E aT aC a8 r8 bd Y al bx;dsimp only [sw];generalize b 0=y0;generalize b 1=y1;generalize b 2=y2;generalize b 3=y3;generalize b 4=y4;generalize b 5=y5;generalize b 6=y6;generalize b 7=y7;generalize b 8=y8;generalize b 9=y9;generalize b 10=y10;generalize b 11=y11;generalize b 12=y12;generalize b 13=y13;generalize b 14=y14;generalize b 15=y15;go_wp2_with fail;go_region
 all_goals
  go_wp2_with fail;refine bodyPost_ret (v:=.nilIface) (by simp [results,Tryz.results21,go_sem, *] <;> trivial) rfl ?_
  first
  | (have hs:=Cc S.out a7.out an.out bf.out ao.out (bw.out.lg R8.out);exact su aO (RS.out.trans R8.out) hs)
  | (have hs:=zK S.out a7.out an.out bf.out ao.out (bw.out.lg R8.out);exact su aO (RS.out.trans R8.out) hs)
structure tI (L:ag):Prop where
  ok:uM L
  nb:L.bodies.length<=1000
  nj:L.joints.length<=1000
  nd:L.drivers.length<=1000
  np:∀ b∈L.bodies,b.pts.length<=1000
theorem LkY.len {k:Nat}{w:World}{A B C:Option Addr}{n c p d q e:Nat}{L:ag}(h:LkY k w A n c B p d C q e L):L.bodies.length=n/\L.joints.length=p/\L.drivers.length=q:=⟨h.out.bodies.1,h.out.joints.1,h.out.drivers.1⟩
theorem DV (w:World) (A:Option Addr) (n c:Nat) (B:Option Addr) (p d:Nat) (C:Option Addr) (q e:Nat) (L:ag) (h:LkS 130 w A n c B p d C q e L) (a:tI L):Calls Tryz.prog 32 #[.agg #[aa L.name,.slice A n c,.slice B p d,.slice C q e]] w (sn w L) :=
 zG w A n c B p d C q e L h a.ok (by rw [<- h.bodies.1];exact a.nb) (by rw [<- h.joints.1];exact a.nj) (by rw [<- h.drivers.1];exact a.nd) a.np
def FX (w:World) (L:ag) (e:Ending) (w':World):Prop:=∃ A n c C p d D q f,e=.returned (.agg #[aa L.name,.slice A n c,.slice C p d,.slice D q f])/\LkY 130 w' A n c C p d D q f L/\Below w.heap.size w w'
theorem zL (N:Nat->Prop) (B:Nat) (w:World) (i:Nat) (g:gc) (h:jB N B w i g) (o:tI g.now):Calls Tryz.prog 17 #[.pointer (some ⟨i,0,none⟩)] w (FX w g.now):=by
 obtain ⟨A,n,c,C,p,d,D,q,e,G,F,I,h⟩:=h;have hb:=h.core.blk;have z:=Qh h.now;have u:=Qh o;have r:=hb.lt;have b:=(ae w).alloc Qr (.cells #[.string ⟨#[]⟩,.slice none 0 0,.slice none 0 0,.slice none 0 0] 26);have x0:Blk (w.alloc (.cells #[.string ⟨#[]⟩,.slice none 0 0,.slice none 0 0,.slice none 0 0] 26)) w.heap.size 26 #[.string ⟨#[]⟩,.slice none 0 0,.slice none 0 0,.slice none 0 0]:=Blk.new _ _ _;have c0:=hb.cell 0;have c1:=hb.cell 1;have c2:=hb.cell 2;have c3:=hb.cell 3;have k:¬ i=w.heap.size:=by omega
 have f:=Qh (z.out.blw b);clear h hb o;go_in;go_wp2_with fail;clear c0 c1 c2 c3 k;generalize (w.alloc (.cells #[.string ⟨#[]⟩,.slice none 0 0,.slice none 0 0,.slice none 0 0] 26))=w1 at b x0 f ⊢;refine (DV w1 A n c C p d D q e g.now f.out.out u.out).mono ?_;rintro H K ⟨E,x,l,s,p2,d2,y,q2,f2,rfl,j,a⟩;have m:=x0.below a x0.lt;have J:=m.c4;have b0:=m.f4;have t:=b.trans (a.mono b.size);clear a x0 b;go_wp2_with fail;refine bodyPost_ret (v:=.agg #[aa g.now.name,.slice E x l,.slice s p2 d2,.slice y q2 f2]) (by simp [results,Tryz.results17,go_sem, *] <;> trivial) rfl ?_;exact ⟨_,_,_,_,_,_,_,_,_,rfl,j.lkY.tch (lm m ⟨rfl,rfl,rfl,rfl⟩ _ _ _ _) (by decide) (by decide) (by decide) (by decide),cO t Qr _ _ _ _⟩
def Fd (w:World) (l:List bL) (e:Ending) (w':World):Prop:=∃ A c,e=.returned (.slice A l.length c)/\SlS jz 3 w' A l.length c l/\Below w.heap.size w w'
def DW (w:World) (l:List bL) (e:Ending) (w':World):Prop:=∃ A c,e=.returned (.slice A l.length c)/\aq 39 EdC 3 w' w.heap.size (.slice A l.length c) l.length l/\Below w.heap.size w w'
theorem Cd (N:Nat->Prop) (B:Nat) (w:World) (f:Nat) (g:gc) (h:jB N B w f g) (F:g.done.length<=1000):Calls Tryz.prog 14 #[.pointer (some ⟨f,0,none⟩)] w (DW w g.done):=by
 obtain ⟨A,n,c,C,p,d,D,q,e,E,m,x,h⟩:=h;obtain ⟨u,c5,i,c6,r,c7,rfl,rfl,rfl,s,y,o⟩:=h.forms;have c1:=h.core.blk.cell 5;have j:=Qh h.don.1.eds;clear h;go_in;go_wp2_with fail;refine (tH w i g.done.length c6 g.done j.out (by omega)).mono ?_;rintro t z ⟨v,rfl,a,b⟩;obtain ⟨k,c2,rfl,l⟩:=a.form;go_wp2;go_ret;exact ⟨k,c2,rfl,a,b⟩
theorem DX (N:Nat->Prop) (B:Nat) (w:World) (a:Nat) (g:gc) (h:jB N B w a g) (i:g.done.length<=1000):Calls Tryz.prog 14 #[.pointer (some ⟨a,0,none⟩)] w (Fd w g.done):=(Cd N B w a g h i).mono fun _ _ ⟨A,c,d,b,f⟩=>⟨A,c,d,b.eds,f⟩
theorem uP {N:Nat->Prop}{B:Nat}{w:World}{a:Nat}{g:gc}{A C D:Option Addr}{n c p d q e:Nat}{i b o u7:Value}{un:List bL}(h:lI N B w a g A n c C p d D q e i b o) (s:bC N 39 EdC 3 w B u7 un.length un) (hd:∀ x,u7.ownBlock=some x->b.ownBlock≠some x) (hw:noW u7=true):lI N B (w.setCell ⟨a,6,none⟩ u7) a ⟨g.now,g.before,g.done,un⟩ A n c C p d D q e i b u7/\LgR N B w (w.setCell ⟨a,6,none⟩ u7):=by
 obtain ⟨r,k,t,l,u,m,v⟩:=h.core.nw;obtain ⟨p1,j,f⟩:=h.core.put 6 u7 (d0:=aa g.now.name) (d1:=.slice A n c) (d2:=.slice C p d) (d3:=.slice D q e) (u5:=i) (u6:=b) (u7:=u7) rfl ⟨r,k,t,l,u,m,hw⟩;exact ⟨⟨p1,h.now.lg j,h.bef.tch f (by decide) (fun _ _ x=>x.tch f (by decide) (by decide) (by decide) (by decide)),h.don.tch f (by decide) (fun _ _ x=>x),s.tch f (by decide) (fun _ _ x=>x),hd⟩,j⟩
theorem lA.base {N:Nat->Prop}{B:Nat}{w a:World}{c:Nat}{x:Int}{f:gc}{e:Ending}{d:World}(h:lA N B w c x f e d) (hb:Below a.heap.size a w) (hB:B<=a.heap.size) (hN:∀ x,N x->x<a.heap.size):lA N B a c x f e d :=
 ⟨h.1,fun b=>hb.trans ((h.2.1 b).mono hb.size),fun b=>⟨(LgR.below hB hN hb).trans (h.2.2 b).1,(h.2.2 b).2⟩⟩
theorem FY (N:Nat->Prop) (B:Nat) (w:World) (k:Nat) (g:gc) (h:jB N B w k g) (ed:bL) (x:Int) (v:ag) (G:ApC g.now ed x v) (U:g.done.length<256) (a:Tab w) (l:Mx w):Calls Tryz.prog 20 #[.pointer (some ⟨k,0,none⟩),.agg #[.int .i64 ed.kind,aa ed.name,aa ed.text]] w (lA N B w k x ⟨v,g.before++[g.now],g.done++[ed],[]⟩):=by
 have O:=Qh h;have K:=Qh G;obtain ⟨A,n,c,C,p,d,D,q,e,v5,Z,Q,h⟩:=h;obtain ⟨A5,c5,P,c6,A7,c7,rfl,rfl,rfl,h5,h6,h7⟩:=h.forms;have o:=(ae w).alloc Qr (.cells #[.int .i64 ed.kind,aa ed.name,aa ed.text] 39);have j:w.cell? ⟨k,5,none⟩=some (.slice P g.done.length c6):=h.core.blk.cell 5;have M:=h.core.blk.lt;have H:¬ k=w.heap.size:=by omega
 have F:=Qh (And.intro h.core.hB (And.intro h.core.hN h.core.blk.lt));have b:=Qh (a.belw o);have z:=Qh (l.belw o);have s:=Qh (O.out.blw o);have L:((256:Int)<=(g.done.length:Nat))=False:=eq_false (by omega);have u:=Qh o;clear h G a l;go_in;clear o;go_wp2_with fail;generalize (w.alloc (.cells #[.int .i64 ed.kind,aa ed.name,aa ed.text] 39))=w1 at u b z s ⊢;refine (zJ N B w1 k g s.out ed x v K.out (by omega) b.out z.out).mono ?_;rintro e' w2 ⟨rfl,f,i⟩;clear j;by_cases m:x=0
 ·subst m
  obtain ⟨I,A',V,Y,X,p',R,D',T,S,u5,u6,u7,t⟩:=i rfl;rw [aO];have E:=uP (un:=[]) t bC.nil (fun x e=>by cases e) rfl;have b0:=t.core.blk.cell 6;have W:=t.core.blk.frozen 6;have r:=Qh E;have R2:=Qh I;clear t E I i f;go_wp2;go_ret;exact ⟨by rw [aO];rfl,fun h=>absurd rfl h,fun _=>⟨((LgR.below (by have:=F.out;omega) F.out.2.1 u.out).trans R2.out).trans r.out.2,_,_,_,_,_,_,_,_,_,_,_,_,r.out.1⟩⟩
 have y:=f m;have J:=Qh m;rw [eVp m];clear f i m;go_wp2;go_ret;exact ⟨by rw [eVp J.out];rfl,fun _=>u.out.trans (y.mono u.out.size),fun h=>absurd h J.out⟩
theorem DY (N:Nat->Prop) (B:Nat) (w:World) (s:Nat) (g:gc) (h:jB N B w s g) (m:Nat) (H:g.undone.length=m+1) (ed:bL) (V:g.undone[m]?=some ed) (x:Int) (y:ag) (J:ApC g.now ed x y) (W:g.done.length<=1000) (hu:g.undone.length<=1000) (f:Tab w) (o:Mx w):Calls Tryz.prog 23 #[.pointer (some ⟨s,0,none⟩)] w (lA N B w s x ⟨y,g.before++[g.now],g.done++[ed],g.undone.take m⟩):=by
 have G:=Qh h;have R:=Qh J;have u:=Qh f;have O:=Qh o;obtain ⟨A,n,c,C,p,d,D,q,e,v5,v6,v7,h⟩:=h;obtain ⟨A5,c5,A6,c6,A7,c7,rfl,rfl,rfl,h5,h6,h7⟩:=h.forms;obtain ⟨Q,cs,Z,M,b⟩:=h.und.1.at_ V;subst Z M;have a:=h.core.blk.cell 6;rw [H] at a h7;have d0:w.cell? ⟨Q,m*3,none⟩=_:=b 0 _ rfl;have d1:=b 1 _ rfl;have d2:=b 2 _ rfl;have Y:((g.undone.length:Nat):Int)=(m:Int)+1:=by omega
 have P:((m:Int)<(m:Int)+1)=True:=eq_true (by omega);have X:((m:Int)<0)=False:=by simp
 clear h J f o b;go_in;go_wp2_with fail;refine (zJ N B w s g G.out ed x y R.out W u.out O.out).mono ?_;rintro e' w2 ⟨rfl,j,k⟩;clear d0 d1 d2 a;by_cases r:x=0
 ·subst r
  obtain ⟨K,A',n',c',C',p',d',D',q',f',u5,u6,u7,l⟩:=k rfl;obtain ⟨B5,k5,B6,k6,z,v,rfl,rfl,rfl,l5,l6,E⟩:=l.forms;rw [aO];have E:g.undone.length<=v:=E;rw [H] at E;have b0:=l.core.blk.cell 6;have b1:=l.core.blk.frozen 6;have i:=l.und.cut (m:=m) (by show m<=g.undone.length;omega);have T:(g.undone.take m).length=m:=by rw [List.length_take];omega
  have I:=uP (un:=g.undone.take m) (u7:=.slice z m v) l (by rw [T];exact i) (fun x U S=>l.dis x (by rw [<- U];cases z <;> rfl) S) rfl;have t:=Qh I;have R2:=Qh K;have b0:w2.cell? ⟨s,6,none⟩=some (.slice z (m+1) v):=by rw [<- H];exact b0
  have ab:((m:Int)<=(v:Int))=True:=by simp;omega
  clear l I K k j i;go_wp2;go_ret;exact ⟨by rw [aO];rfl,fun h=>absurd rfl h,fun _=>⟨R2.out.trans t.out.2,_,_,_,_,_,_,_,_,_,_,_,_,t.out.1⟩⟩
 have F:=j r;have L:=Qh r;rw [eVp r];clear j k r;go_wp2;go_ret;exact ⟨by rw [eVp L.out];rfl,fun _=>F,fun h=>absurd h L.out⟩
/-! A log that does not exist. -/
theorem Fe:Tryz.prog.eqGuardType Tryz.prog.depth 39=false:=by kernel_rfl
theorem Ff:Tryz.prog.stoodInHeld 39=false:=by kernel_rfl
theorem SlS.ed {w a:World}{A:Option Addr}{n c:Nat}{l:List bL}(h:SlS jz 3 w A n c l) (hb:Below w.heap.size w a):SlS jz 3 a A n c l:=h.belw (fun _ _ _ h=>h.belw hb) hb
theorem zM (w:World) (A:Option Addr) (n c:Nat) (l:List bL) (h:SlS jz 3 w A n c l) (r:Option Addr) (p:Nat) (q:SlS jz 3 w r n p l) (L:n<=100000):Calls Tryz.prog 24 #[.slice A n c,.slice r n p] w (ax w (.bool true)):=by
 have H:=Qh h;have E:=Qh q;clear h q;go_in;go_wp2_with fail;go_loopw [5] (fun m wr=>∃ i:Nat,m=.int .i64 (i:Nat)/\i<=n/\Below w.heap.size w wr) (fun m _=>n-(intOf m).toNat)
 case atStart=>exact ⟨0,rfl,Nat.zero_le _,ae w⟩
 case round =>
  obtain ⟨i,rfl,K,a⟩:=hrel;rename World=>wi;rcases Nat.lt_or_ge i n with d | s
  ·have j:((i:Int)<(n:Int))=True:=by simp;omega
   have D:((i:Int)<(n:Int)):=by omega
   obtain ⟨g,o,x,k,G,M,f,t⟩:=(H.out.ed a).at_ d;subst k;obtain ⟨F,J,y,k,C,B,b,z⟩:=(E.out.ed a).at_ d;subst k;rw [f] at b;injection b with b;subst b;obtain ⟨d0,d1,d2⟩:=t;obtain ⟨I,f1,f2⟩:=z;have u:=Fe;have v:=Ff;clear f;go_wp2_with fail;go_quiet (fail);go_wp2_with fail;go_roundw
   case rel=>exact ⟨i+1,by go_num,by omega,by first | exact a | exact af a _⟩
   case measure=>simp [intOf];omega
  have j:((i:Int)<(n:Int))=False:=by simp;omega
  go_wp2;go_ret;exact ⟨rfl,a⟩
theorem ef {P:Program}{ops:Array Oper}{o:Oper}{a:Act}{w:World}{K:Act->World->Prop}{Q:Exit->Act->World->Prop}{E:Prop}
 (r:o.guard=none) (s x:Operand) (t:TypeId) (h:o.op=Op.call { callee:=Callee.builtin Builtin.append,args:=#[s,x],argTypes:=#[t,t] })
 (e:TypeId) (i:TypeInfo) (size:Nat) (y:P.underlying t=some (.slice e)) (q:P.info? e=some i) (v:i.size=size)
 (b n cap:Nat) (z:a.eval s=.slice (some ⟨b,0,none⟩) n cap) (cur:Array Value) (hb:w.heap[b]?=some (.cells cur e (0,0)))
 (k:Addr) (m c:Nat) (news:List Value) (A:a.eval x=.slice (some k) m c) (B:news.length=m*size) (C:∀ j u,news[j]?=some u->w.cell? (k.add j)=some u) (l:∀ u∈news,u.oneCell'=true)
 (d:n+m<=cap) (g:n*size+news.length<=cur.size)
 (p:K (a.put o.dst (.slice (some ⟨b,0,none⟩) (n+m) cap)) (w.setRow b (cur.toList.take (n*size)++news++cur.toList.drop (n*size+news.length)).toArray)) :
 if Region.wanted o (yielded ops a.tmps)=true then Oper.wp P o a w K Q else E:=by
 have hw:Region.wanted o (yielded ops a.tmps)=true:=by simp [Region.wanted,r]
 rw [if_pos hw];subst v;have f:=run_append_room (P:=P) w t o.type e i y q b n cap cur hb k m c news B C l d g;unfold Oper.wp;simp [execOp,h,resolve,invoke,builtin,z,A,f,Result.andThen];simp only [List.append_assoc] at p;exact p
theorem fG {P:Program}{w:World}(t j e:TypeId) (z:Value) (i:P.underlying t=some (.slice e)) (k:∀ w,(zeroValue e).run P w=.ok z w) (zs:List Value) (d:(Builtin.zeroCells z.cells 1).toList=zs)
 (g off c:Nat) (cur:Array Value) (h:w.heap[g]?=some (.cells cur e (0,0))) (b:off+zs.length<=cur.size) (f:∀ u∈zs,u.oneCell'=true) :
 (Builtin.clear_ #[t] j #[.slice (some ⟨g,off,none⟩) 1 c]).run P w=.ok (.tuple #[]) (w.setRow g (cur.toList.take off++zs++cur.toList.drop (off+zs.length)).toArray):=by
 have a:=run_storeCells_at P g off e zs 0 cur w h (by simpa using b) f;simp only [Nat.add_zero] at a;unfold Builtin.clear_;simp [run_underlying i,k,d,a]
theorem o5 {s:Nat}:∀ (a:List (List Value)) (m:Nat),(∀ cs∈a,cs.length=s)->a.flatten.take (m*s)=(a.take m).flatten
 | [],m,_=>by simp
 | c::a,0,_=>by simp
 | c::a,m+1,hc=>by
  rw [List.take_succ_cons,List.flatten_cons,List.flatten_cons,List.take_append,hc c (by simp),<- o5 a m fun x b=>hc x (by simp [b]),List.take_of_length_le (by rw [hc c (by simp),Nat.succ_mul];omega),show (m+1)*s-s=m*s by rw [Nat.succ_mul];omega]
theorem pd {s:Nat}:∀ (a:List (List Value)) (m:Nat),(∀ cs∈a,cs.length=s)->a.flatten.drop (m*s)=(a.drop m).flatten
 | [],m,_=>by simp
 | c::a,0,_=>by simp
 | c::a,m+1,hc=>by
  rw [List.drop_succ_cons,List.flatten_cons,List.drop_append,hc c (by simp),<- pd a m fun x b=>hc x (by simp [b]),List.drop_eq_nil_of_le (by rw [hc c (by simp),Nat.succ_mul];omega),show (m+1)*s-s=m*s by rw [Nat.succ_mul];omega,List.nil_append]
theorem co.del {α:Type}{Pc:World->List Value->α->Prop}{s:Nat}{w:World}{l:List α}{g:List Value}(h:co Pc s w l g) (i:Nat):co Pc s w (l.eraseIdx i) (g.take (i*s)++g.drop ((i+1)*s)):=by
 obtain ⟨c,e,o,b,n⟩:=h;refine ⟨c.eraseIdx i,?_,by rw [List.length_eraseIdx,List.length_eraseIdx,o],fun cs k=>b cs (List.mem_of_mem_eraseIdx k),fun j a cs f d=>?_⟩
 ·rw [e,o5 c i b,pd c (i+1) b,<- List.flatten_append,List.eraseIdx_eq_take_drop_succ]
 rw [List.getElem?_eraseIdx] at f d;split at f
 ·rename_i m
  rw [if_pos m] at d;exact n j a cs f d
 rename_i m;rw [if_neg m] at d;exact n (j+1) a cs f d
def gL (cur:Array Value) (xs:List Value) (s i n:Nat) (zs:List Value):Array Value :=
  ((cur.toList.take (i*s)++(xs.drop ((i+1)*s)++cur.toList.drop (i*s+(n*s-(i+1)*s)))).toArray.toList.take ((n-1)*s)++zs++(cur.toList.take (i*s)++(xs.drop ((i+1)*s)++cur.toList.drop (i*s+(n*s-(i+1)*s)))).toArray.toList.drop ((n-1)*s+zs.length)).toArray
theorem jC {cur:Array Value}{s i n cap:Nat}{zs:List Value}(k:cur.size=cap*s) (m:n<=cap) (r:i<n) (o:zs.length=s):(gL cur (cur.toList.take (n*s)) s i n zs).size=cap*s/\(gL cur (cur.toList.take (n*s)) s i n zs).toList.take ((n-1)*s)=(cur.toList.take (n*s)).take (i*s)++(cur.toList.take (n*s)).drop ((i+1)*s) /\
 (cur.toList.all noW=true->zs.all noW=true->(gL cur (cur.toList.take (n*s)) s i n zs).toList.all noW=true):=by
 have f:n*s-(i+1)*s=(n-(i+1))*s:=(Nat.sub_mul _ _ _).symm;have u:i*s+(n-(i+1))*s=(n-1)*s:=by rw [<- Nat.add_mul];congr 1;omega
 have p:(n-1)*s+s=n*s:=by rw [<- Nat.succ_mul];congr 1;omega
 have q:n*s<=cap*s:=Nat.mul_le_mul_right _ m;have t:(i+1)*s+(n-(i+1))*s=n*s:=by rw [<- Nat.add_mul];congr 1;omega
 have h:cur.toList.length=cap*s:=by simpa using k
 have l1:(cur.toList.take (i*s)).length=i*s:=by rw [List.length_take,h];omega
 have l2:((cur.toList.take (n*s)).drop ((i+1)*s)).length=(n-(i+1))*s:=by rw [List.length_drop,List.length_take,h];omega
 have g:(cur.toList.take (i*s)++((cur.toList.take (n*s)).drop ((i+1)*s)++cur.toList.drop (i*s+(n-(i+1))*s))).take ((n-1)*s)=cur.toList.take (i*s)++(cur.toList.take (n*s)).drop ((i+1)*s):=by
  rw [<- List.append_assoc,List.take_append_of_le_length (by rw [List.length_append,l1,l2];omega),List.take_of_length_le (by rw [List.length_append,l1,l2];omega)]
 have l:cur.toList.take (i*s)=(cur.toList.take (n*s)).take (i*s):=by
  rw [List.take_take];congr 1;have:i*s<=n*s:=Nat.mul_le_mul_right _ (by omega);omega
 refine ⟨?_,?_,fun d j=>?_⟩
 ·unfold gL
  rw [f];have d:(i+1)*s=i*s+s:=Nat.succ_mul i s;simp only [List.size_toArray,List.length_append,List.length_take,List.length_drop,Array.length_toList,o,k];omega
 ·unfold gL
  rw [f];simp only;rw [List.append_assoc,List.take_append_of_le_length (by rw [g,List.length_append,l1,l2];omega),List.take_of_length_le (by rw [g,List.length_append,l1,l2];omega),g,<- l]
 unfold gL;rw [f];rw [List.all_eq_true] at d j ⊢;intro x a;simp only at a
 have c:∀ y,y∈(cur.toList.take (i*s)++((cur.toList.take (n*s)).drop ((i+1)*s)++cur.toList.drop (i*s+(n-(i+1))*s)))->noW y=true:=by
  intro y b;rcases List.mem_append.1 b with b | b
  ·exact d y (List.mem_of_mem_take b)
  rcases List.mem_append.1 b with b | b
  ·exact d y (List.mem_of_mem_take (List.mem_of_mem_drop b))
  exact d y (List.mem_of_mem_drop b)
 rcases List.mem_append.1 a with a | a
 ·rcases List.mem_append.1 a with a | a
  ·exact c x (List.mem_of_mem_take a)
  exact j x a
 exact c x (List.mem_of_mem_drop a)
theorem Fg:∀ w,(zeroValue 51).run Tryz.prog w=.ok (.agg #[.string ⟨#[]⟩,.slice none 0 0]) w:=fun w=>by kernel_rfl
theorem zN {α:Type}{Pc:World->List Value->α->Prop}(w:World) (B g n cap i:Nat) (l:List α) (h:aq 51 Pc 2 w B (.slice (some ⟨g,0,none⟩) n cap) n l) (E:∀ w cs a,Pc w cs a->∀ u∈cs,u.oneCell'=true) (U:i<n) (hn:n<=1000) (hP:∀ J cs a,Tch (bi 51) w J->Pc w cs a->Pc J cs a) :
 Calls Tryz.prog 80 #[.slice (some ⟨g,0,none⟩) n cap,.int .i64 (i:Nat),.int .i64 ((i:Int)+1)] w (fun e J=>e=.returned (.slice (some ⟨g,0,none⟩) (n-1) cap)/\aq 51 Pc 2 J B (.slice (some ⟨g,0,none⟩) (n-1) cap) (n-1) (l.eraseIdx i)/\w.grownBy J (some g)):=by
 obtain ⟨i0,W,an,X,al⟩:=info_parts pW;obtain ⟨hl,c,I,o⟩:=h;obtain ⟨v,m⟩:=I
 obtain ⟨cur,hB,hb,T,C,M,y,q⟩:∃ cur,B<=g/\w.heap[g]?=some (.cells cur 51 (0,0))/\n<=cap/\cap<=maxLen/\cur.size=cap*2/\cur.toList.take (n*2)=c/\cur.toList.all noW=true:=by
  rcases m with ⟨e,_⟩ | ⟨g',ac,cur,e,h2,h3,h4,h5,h6,h7,h8⟩
  ·cases e
  injection e with p _ e3;injection p with p;injection p with p;subst p e3;exact ⟨cur,h2,h3,h4,h5,h6,h7,h8⟩
 have ab:cap<=9223372036854775807:=by unfold maxLen at C;omega
 have b:(c.drop ((i+1)*2)).length=(n-(i+1))*2:=by rw [List.length_drop,v];omega
 obtain ⟨A,hA,r⟩:∃ A:Addr,(if cap=i+1 then some (⟨g,0,none⟩:Addr) else some ⟨g,(i+1)*2,none⟩)=some A/\Hid (∀ t u,(c.drop ((i+1)*2))[t]?=some u->w.drew.cell? (A.add t)=some u):=by
  by_cases hc:cap=i+1
  ·refine ⟨⟨g,0,none⟩,by simp [hc],fun t u d=>?_⟩
   have h0:(c.drop ((i+1)*2)).length=0:=by rw [b];omega
   rw [List.length_eq_zero_iff.1 h0] at d;simp at d
  refine ⟨⟨g,(i+1)*2,none⟩,by simp [hc],fun t u d=>?_⟩;rw [Addr.add_lit];rw [List.getElem?_drop,<- y,List.getElem?_take] at d;split at d
  ·show w.cell? _=_
   unfold World.cell?;rw [hb];simpa using d
  cases d
 have HS:=Qh r;have f1:((i:Int)<=(i:Int)+1)=True:=eq_true (by omega);have f2:((i:Int)+1<=(n:Int))=True:=eq_true (by omega);have f3:((n:Int)<=(cap:Int))=True:=eq_true (by omega);have f4:((i:Int)=(i:Int)+1)=False:=eq_false (by omega);have f7:(0<=(i:Int)+1)=True:=eq_true (by omega);have f5:((i:Int)<=(cap:Int))=True:=eq_true (by omega);have f6:((i:Int)+1<=(cap:Int))=True:=eq_true (by omega);have L:w.drew.heap[g]?=some (.cells cur 51 (0,0)):=hb;have Q:=Qh L
 have O:∀ u∈c.drop ((i+1)*2),u.oneCell'=true:=by
  intro u d;obtain ⟨ad,e,N,V,hp⟩:=o;rw [e] at d;obtain ⟨cs,G,d⟩:=List.mem_flatten.1 (List.mem_of_mem_drop d);obtain ⟨j,hj⟩:=List.mem_iff_getElem?.1 G;have S:j<l.length:=by rw [<- N];exact (List.getElem?_eq_some_iff.1 hj).1
  exact E _ _ _ (hp j l[j] cs (List.getElem?_eq_getElem S) hj) u d
 have H1:=Qh O;have HN:=Qh b;have HR:=Qh o;have f:=Qh (And.intro y (And.intro q (And.intro v hl)));clear r hb L o y q m O b E;go_in;go_wp2_with fail;go_region_law (refine ef rfl (.tmp 22) (.tmp 25) 22 rfl 51 i0 2 Tryz.underlying22 W X g i cap (by simp [Act.eval,Act.put]) cur Q.out A (n-(i+1)) (cap-(i+1)) (c.drop ((i+1)*2)) (by simp [Act.eval,Act.put]) HN.out HS.out H1.out (by omega) (by rw [HN.out];omega) ?_);have p:i+(n-(i+1))=n-1:=by omega
 simp only [p];obtain ⟨k,hk⟩:∃ k,n-1=k:=⟨_,rfl⟩;simp only [hk];have D:n=k+1:=by omega
 have g1:((k:Int)<=(n:Int))=True:=eq_true (by omega);have g2:((k:Int)<=(cap:Int))=True:=eq_true (by omega);have g3:n-k=1:=by omega
 have g4:(cap=k)=False:=eq_false (by omega);have K:=Qh D;clear D hk p
 have H:k*2+([.string ⟨#[]⟩,.slice none 0 0]:List Value).length<=(cur.toList.take (i*2)++(c.drop ((i+1)*2)++cur.toList.drop (i*2+(n*2-(i+1)*2)))).toArray.size:=by
  have:=K.out;simp only [List.size_toArray,List.length_append,List.length_take,List.length_drop,Array.length_toList,v,M,List.length_cons,List.length_nil];omega
 have N:∀ Z,(Builtin.clear_ #[22] Z #[.slice (some ⟨g,k*2,none⟩) 1 (cap-k)]).run Tryz.prog (w.drew.setRow g (cur.toList.take (i*2)++(c.drop ((i+1)*2)++cur.toList.drop (i*2+(n*2-(i+1)*2)))).toArray)=.ok (.tuple #[]) _ :=
  fun Z=>fG 22 Z 51 _ Tryz.underlying22 Fg [.string ⟨#[]⟩,.slice none 0 0] (by kernel_rfl) g (k*2) (cap-k) _ (setRow_heap _ g cur _ _ _ Q.out) H (by simp [Value.oneCell'])
 clear H;have F:=Qh (show n-1=k by have:=K.out;omega)
 have key:∀ c2:Array Value,c2=gL cur c 2 i n [.string ⟨#[]⟩,.slice none 0 0]->aq 51 Pc 2 ((w.drew.setRow g (cur.toList.take (i*2)++(c.drop ((i+1)*2)++cur.toList.drop (i*2+(n*2-(i+1)*2)))).toArray).setRow g c2) B (.slice (some ⟨g,0,none⟩) (n-1) cap) (n-1) (l.eraseIdx i)/\w.grownBy ((w.drew.setRow g (cur.toList.take (i*2)++(c.drop ((i+1)*2)++cur.toList.drop (i*2+(n*2-(i+1)*2)))).toArray).setRow g c2) (some g):=by
  intro c2 Y;have hF:=setRow_heap _ g _ c2 _ _ (setRow_heap w.drew g cur (cur.toList.take (i*2)++(c.drop ((i+1)*2)++cur.toList.drop (i*2+(n*2-(i+1)*2)))).toArray _ _ Q.out);have z:w.grownBy ((w.drew.setRow g (cur.toList.take (i*2)++(c.drop ((i+1)*2)++cur.toList.drop (i*2+(n*2-(i+1)*2)))).toArray).setRow g c2) (some g):=⟨rfl,rfl,rfl,by simp,fun x _ P=>(setRow_other _ g x _ (fun e=>P (by rw [e]))).trans (setRow_other _ g x _ (fun e=>P (by rw [e])))⟩;have ht:Tch (bi 51) w ((w.drew.setRow g (cur.toList.take (i*2)++(c.drop ((i+1)*2)++cur.toList.drop (i*2+(n*2-(i+1)*2)))).toArray).setRow g c2):=Tch.of_ne z.size (show w.heap[g]?=_ from Q.out) (by simp [bi]) f.out.2.1 fun x P R=>z.block x P (fun e=>R (by injection e))
  obtain ⟨d1,d2,d3⟩:=jC (cur:=cur) (zs:=[.string ⟨#[]⟩,.slice none 0 0]) (s:=2) (i:=i) (n:=n) M T U rfl;rw [f.out.1,<- Y] at d1 d2 d3;refine ⟨⟨by rw [List.length_eraseIdx,f.out.2.2.2,if_pos U],_,⟨?_,.inr ⟨g,cap,c2,rfl,hB,hF,by omega,C,d1,d2,d3 f.out.2.1 rfl⟩⟩,(HR.out.del i).map_ fun cs a x=>hP _ cs a ht x⟩,z⟩;rw [List.length_append,List.length_take,List.length_drop,f.out.2.2.1];have h5:(i+1)*2<=n*2:=Nat.mul_le_mul_right _ U;omega
 go_wp2;go_ret;refine ⟨by rw [F.out];rfl,?_⟩;refine key _ ?_;unfold gL;rw [F.out];simp
theorem Fh:∀ w,(zeroValue 81).run Tryz.prog w=.ok (.agg #[.string ⟨#[]⟩,.int .i64 0,.int .i64 0,.int .i64 0,.int .i64 0,.int .i64 0,.int .i64 0]) w:=fun w=>by kernel_rfl
theorem zO {α:Type}{Pc:World->List Value->α->Prop}(w:World) (B g n cap i:Nat) (l:List α) (h:aq 81 Pc 7 w B (.slice (some ⟨g,0,none⟩) n cap) n l) (E:∀ w cs a,Pc w cs a->∀ u∈cs,u.oneCell'=true) (U:i<n) (hn:n<=1000) (hP:∀ J cs a,Tch (bi 81) w J->Pc w cs a->Pc J cs a) :
 Calls Tryz.prog 40 #[.slice (some ⟨g,0,none⟩) n cap,.int .i64 (i:Nat),.int .i64 ((i:Int)+1)] w (fun e J=>e=.returned (.slice (some ⟨g,0,none⟩) (n-1) cap)/\aq 81 Pc 7 J B (.slice (some ⟨g,0,none⟩) (n-1) cap) (n-1) (l.eraseIdx i)/\w.grownBy J (some g)):=by
 obtain ⟨i0,W,an,X,al⟩:=info_parts pX;obtain ⟨hl,c,I,o⟩:=h;obtain ⟨v,m⟩:=I
 obtain ⟨cur,hB,hb,T,C,M,y,q⟩:∃ cur,B<=g/\w.heap[g]?=some (.cells cur 81 (0,0))/\n<=cap/\cap<=maxLen/\cur.size=cap*7/\cur.toList.take (n*7)=c/\cur.toList.all noW=true:=by
  rcases m with ⟨e,_⟩ | ⟨g',ac,cur,e,h2,h3,h4,h5,h6,h7,h8⟩
  ·cases e
  injection e with p _ e3;injection p with p;injection p with p;subst p e3;exact ⟨cur,h2,h3,h4,h5,h6,h7,h8⟩
 have ab:cap<=9223372036854775807:=by unfold maxLen at C;omega
 have b:(c.drop ((i+1)*7)).length=(n-(i+1))*7:=by rw [List.length_drop,v];omega
 obtain ⟨A,hA,r⟩:∃ A:Addr,(if cap=i+1 then some (⟨g,0,none⟩:Addr) else some ⟨g,(i+1)*7,none⟩)=some A/\Hid (∀ t u,(c.drop ((i+1)*7))[t]?=some u->w.drew.cell? (A.add t)=some u):=by
  by_cases hc:cap=i+1
  ·refine ⟨⟨g,0,none⟩,by simp [hc],fun t u d=>?_⟩
   have h0:(c.drop ((i+1)*7)).length=0:=by rw [b];omega
   rw [List.length_eq_zero_iff.1 h0] at d;simp at d
  refine ⟨⟨g,(i+1)*7,none⟩,by simp [hc],fun t u d=>?_⟩;rw [Addr.add_lit];rw [List.getElem?_drop,<- y,List.getElem?_take] at d;split at d
  ·show w.cell? _=_
   unfold World.cell?;rw [hb];simpa using d
  cases d
 have HS:=Qh r;have f1:((i:Int)<=(i:Int)+1)=True:=eq_true (by omega);have f2:((i:Int)+1<=(n:Int))=True:=eq_true (by omega);have f3:((n:Int)<=(cap:Int))=True:=eq_true (by omega);have f4:((i:Int)=(i:Int)+1)=False:=eq_false (by omega);have f7:(0<=(i:Int)+1)=True:=eq_true (by omega);have f5:((i:Int)<=(cap:Int))=True:=eq_true (by omega);have f6:((i:Int)+1<=(cap:Int))=True:=eq_true (by omega);have L:w.drew.heap[g]?=some (.cells cur 81 (0,0)):=hb;have Q:=Qh L
 have O:∀ u∈c.drop ((i+1)*7),u.oneCell'=true:=by
  intro u d;obtain ⟨ad,e,N,V,hp⟩:=o;rw [e] at d;obtain ⟨cs,G,d⟩:=List.mem_flatten.1 (List.mem_of_mem_drop d);obtain ⟨j,hj⟩:=List.mem_iff_getElem?.1 G;have S:j<l.length:=by rw [<- N];exact (List.getElem?_eq_some_iff.1 hj).1
  exact E _ _ _ (hp j l[j] cs (List.getElem?_eq_getElem S) hj) u d
 have H1:=Qh O;have HN:=Qh b;have HR:=Qh o;have f:=Qh (And.intro y (And.intro q (And.intro v hl)));clear r hb L o y q m O b E;go_in;go_wp2_with fail;go_region_law (refine ef rfl (.tmp 22) (.tmp 25) 23 rfl 81 i0 7 Tryz.underlying23 W X g i cap (by simp [Act.eval,Act.put]) cur Q.out A (n-(i+1)) (cap-(i+1)) (c.drop ((i+1)*7)) (by simp [Act.eval,Act.put]) HN.out HS.out H1.out (by omega) (by rw [HN.out];omega) ?_);have p:i+(n-(i+1))=n-1:=by omega
 simp only [p];obtain ⟨k,hk⟩:∃ k,n-1=k:=⟨_,rfl⟩;simp only [hk];have D:n=k+1:=by omega
 have g1:((k:Int)<=(n:Int))=True:=eq_true (by omega);have g2:((k:Int)<=(cap:Int))=True:=eq_true (by omega);have g3:n-k=1:=by omega
 have g4:(cap=k)=False:=eq_false (by omega);have K:=Qh D;clear D hk p
 have H:k*7+([.string ⟨#[]⟩,.int .i64 0,.int .i64 0,.int .i64 0,.int .i64 0,.int .i64 0,.int .i64 0]:List Value).length<=(cur.toList.take (i*7)++(c.drop ((i+1)*7)++cur.toList.drop (i*7+(n*7-(i+1)*7)))).toArray.size:=by
  have:=K.out;simp only [List.size_toArray,List.length_append,List.length_take,List.length_drop,Array.length_toList,v,M,List.length_cons,List.length_nil];omega
 have N:∀ Z,(Builtin.clear_ #[23] Z #[.slice (some ⟨g,k*7,none⟩) 1 (cap-k)]).run Tryz.prog (w.drew.setRow g (cur.toList.take (i*7)++(c.drop ((i+1)*7)++cur.toList.drop (i*7+(n*7-(i+1)*7)))).toArray)=.ok (.tuple #[]) _ :=
  fun Z=>fG 23 Z 81 _ Tryz.underlying23 Fh [.string ⟨#[]⟩,.int .i64 0,.int .i64 0,.int .i64 0,.int .i64 0,.int .i64 0,.int .i64 0] (by kernel_rfl) g (k*7) (cap-k) _ (setRow_heap _ g cur _ _ _ Q.out) H (by simp [Value.oneCell'])
 clear H;have F:=Qh (show n-1=k by have:=K.out;omega)
 have key:∀ c2:Array Value,c2=gL cur c 7 i n [.string ⟨#[]⟩,.int .i64 0,.int .i64 0,.int .i64 0,.int .i64 0,.int .i64 0,.int .i64 0]->aq 81 Pc 7 ((w.drew.setRow g (cur.toList.take (i*7)++(c.drop ((i+1)*7)++cur.toList.drop (i*7+(n*7-(i+1)*7)))).toArray).setRow g c2) B (.slice (some ⟨g,0,none⟩) (n-1) cap) (n-1) (l.eraseIdx i)/\w.grownBy ((w.drew.setRow g (cur.toList.take (i*7)++(c.drop ((i+1)*7)++cur.toList.drop (i*7+(n*7-(i+1)*7)))).toArray).setRow g c2) (some g):=by
  intro c2 Y;have hF:=setRow_heap _ g _ c2 _ _ (setRow_heap w.drew g cur (cur.toList.take (i*7)++(c.drop ((i+1)*7)++cur.toList.drop (i*7+(n*7-(i+1)*7)))).toArray _ _ Q.out);have z:w.grownBy ((w.drew.setRow g (cur.toList.take (i*7)++(c.drop ((i+1)*7)++cur.toList.drop (i*7+(n*7-(i+1)*7)))).toArray).setRow g c2) (some g):=⟨rfl,rfl,rfl,by simp,fun x _ P=>(setRow_other _ g x _ (fun e=>P (by rw [e]))).trans (setRow_other _ g x _ (fun e=>P (by rw [e])))⟩;have ht:Tch (bi 81) w ((w.drew.setRow g (cur.toList.take (i*7)++(c.drop ((i+1)*7)++cur.toList.drop (i*7+(n*7-(i+1)*7)))).toArray).setRow g c2):=Tch.of_ne z.size (show w.heap[g]?=_ from Q.out) (by simp [bi]) f.out.2.1 fun x P R=>z.block x P (fun e=>R (by injection e))
  obtain ⟨d1,d2,d3⟩:=jC (cur:=cur) (zs:=[.string ⟨#[]⟩,.int .i64 0,.int .i64 0,.int .i64 0,.int .i64 0,.int .i64 0,.int .i64 0]) (s:=7) (i:=i) (n:=n) M T U rfl;rw [f.out.1,<- Y] at d1 d2 d3;refine ⟨⟨by rw [List.length_eraseIdx,f.out.2.2.2,if_pos U],_,⟨?_,.inr ⟨g,cap,c2,rfl,hB,hF,by omega,C,d1,d2,d3 f.out.2.1 rfl⟩⟩,(HR.out.del i).map_ fun cs a x=>hP _ cs a ht x⟩,z⟩;rw [List.length_append,List.length_take,List.length_drop,f.out.2.2.1];have h5:(i+1)*7<=n*7:=Nat.mul_le_mul_right _ U;omega
 go_wp2;go_ret;refine ⟨by rw [F.out];rfl,?_⟩;refine key _ ?_;unfold gL;rw [F.out];simp
theorem Fi:∀ w,(zeroValue 86).run Tryz.prog w=.ok (.agg #[.string ⟨#[]⟩,.int .i64 0]) w:=fun w=>by kernel_rfl
theorem zP {α:Type}{Pc:World->List Value->α->Prop}(w:World) (B g n cap i:Nat) (l:List α) (h:aq 86 Pc 2 w B (.slice (some ⟨g,0,none⟩) n cap) n l) (E:∀ w cs a,Pc w cs a->∀ u∈cs,u.oneCell'=true) (U:i<n) (hn:n<=1000) (hP:∀ J cs a,Tch (bi 86) w J->Pc w cs a->Pc J cs a) :
 Calls Tryz.prog 43 #[.slice (some ⟨g,0,none⟩) n cap,.int .i64 (i:Nat),.int .i64 ((i:Int)+1)] w (fun e J=>e=.returned (.slice (some ⟨g,0,none⟩) (n-1) cap)/\aq 86 Pc 2 J B (.slice (some ⟨g,0,none⟩) (n-1) cap) (n-1) (l.eraseIdx i)/\w.grownBy J (some g)):=by
 obtain ⟨i0,W,an,X,al⟩:=info_parts pY;obtain ⟨hl,c,I,o⟩:=h;obtain ⟨v,m⟩:=I
 obtain ⟨cur,hB,hb,T,C,M,y,q⟩:∃ cur,B<=g/\w.heap[g]?=some (.cells cur 86 (0,0))/\n<=cap/\cap<=maxLen/\cur.size=cap*2/\cur.toList.take (n*2)=c/\cur.toList.all noW=true:=by
  rcases m with ⟨e,_⟩ | ⟨g',ac,cur,e,h2,h3,h4,h5,h6,h7,h8⟩
  ·cases e
  injection e with p _ e3;injection p with p;injection p with p;subst p e3;exact ⟨cur,h2,h3,h4,h5,h6,h7,h8⟩
 have ab:cap<=9223372036854775807:=by unfold maxLen at C;omega
 have b:(c.drop ((i+1)*2)).length=(n-(i+1))*2:=by rw [List.length_drop,v];omega
 obtain ⟨A,hA,r⟩:∃ A:Addr,(if cap=i+1 then some (⟨g,0,none⟩:Addr) else some ⟨g,(i+1)*2,none⟩)=some A/\Hid (∀ t u,(c.drop ((i+1)*2))[t]?=some u->w.drew.cell? (A.add t)=some u):=by
  by_cases hc:cap=i+1
  ·refine ⟨⟨g,0,none⟩,by simp [hc],fun t u d=>?_⟩
   have h0:(c.drop ((i+1)*2)).length=0:=by rw [b];omega
   rw [List.length_eq_zero_iff.1 h0] at d;simp at d
  refine ⟨⟨g,(i+1)*2,none⟩,by simp [hc],fun t u d=>?_⟩;rw [Addr.add_lit];rw [List.getElem?_drop,<- y,List.getElem?_take] at d;split at d
  ·show w.cell? _=_
   unfold World.cell?;rw [hb];simpa using d
  cases d
 have HS:=Qh r;have f1:((i:Int)<=(i:Int)+1)=True:=eq_true (by omega);have f2:((i:Int)+1<=(n:Int))=True:=eq_true (by omega);have f3:((n:Int)<=(cap:Int))=True:=eq_true (by omega);have f4:((i:Int)=(i:Int)+1)=False:=eq_false (by omega);have f7:(0<=(i:Int)+1)=True:=eq_true (by omega);have f5:((i:Int)<=(cap:Int))=True:=eq_true (by omega);have f6:((i:Int)+1<=(cap:Int))=True:=eq_true (by omega);have L:w.drew.heap[g]?=some (.cells cur 86 (0,0)):=hb;have Q:=Qh L
 have O:∀ u∈c.drop ((i+1)*2),u.oneCell'=true:=by
  intro u d;obtain ⟨ad,e,N,V,hp⟩:=o;rw [e] at d;obtain ⟨cs,G,d⟩:=List.mem_flatten.1 (List.mem_of_mem_drop d);obtain ⟨j,hj⟩:=List.mem_iff_getElem?.1 G;have S:j<l.length:=by rw [<- N];exact (List.getElem?_eq_some_iff.1 hj).1
  exact E _ _ _ (hp j l[j] cs (List.getElem?_eq_getElem S) hj) u d
 have H1:=Qh O;have HN:=Qh b;have HR:=Qh o;have f:=Qh (And.intro y (And.intro q (And.intro v hl)));clear r hb L o y q m O b E;go_in;go_wp2_with fail;go_region_law (refine ef rfl (.tmp 22) (.tmp 25) 24 rfl 86 i0 2 Tryz.underlying24 W X g i cap (by simp [Act.eval,Act.put]) cur Q.out A (n-(i+1)) (cap-(i+1)) (c.drop ((i+1)*2)) (by simp [Act.eval,Act.put]) HN.out HS.out H1.out (by omega) (by rw [HN.out];omega) ?_);have p:i+(n-(i+1))=n-1:=by omega
 simp only [p];obtain ⟨k,hk⟩:∃ k,n-1=k:=⟨_,rfl⟩;simp only [hk];have D:n=k+1:=by omega
 have g1:((k:Int)<=(n:Int))=True:=eq_true (by omega);have g2:((k:Int)<=(cap:Int))=True:=eq_true (by omega);have g3:n-k=1:=by omega
 have g4:(cap=k)=False:=eq_false (by omega);have K:=Qh D;clear D hk p
 have H:k*2+([.string ⟨#[]⟩,.int .i64 0]:List Value).length<=(cur.toList.take (i*2)++(c.drop ((i+1)*2)++cur.toList.drop (i*2+(n*2-(i+1)*2)))).toArray.size:=by
  have:=K.out;simp only [List.size_toArray,List.length_append,List.length_take,List.length_drop,Array.length_toList,v,M,List.length_cons,List.length_nil];omega
 have N:∀ Z,(Builtin.clear_ #[24] Z #[.slice (some ⟨g,k*2,none⟩) 1 (cap-k)]).run Tryz.prog (w.drew.setRow g (cur.toList.take (i*2)++(c.drop ((i+1)*2)++cur.toList.drop (i*2+(n*2-(i+1)*2)))).toArray)=.ok (.tuple #[]) _ :=
  fun Z=>fG 24 Z 86 _ Tryz.underlying24 Fi [.string ⟨#[]⟩,.int .i64 0] (by kernel_rfl) g (k*2) (cap-k) _ (setRow_heap _ g cur _ _ _ Q.out) H (by simp [Value.oneCell'])
 clear H;have F:=Qh (show n-1=k by have:=K.out;omega)
 have key:∀ c2:Array Value,c2=gL cur c 2 i n [.string ⟨#[]⟩,.int .i64 0]->aq 86 Pc 2 ((w.drew.setRow g (cur.toList.take (i*2)++(c.drop ((i+1)*2)++cur.toList.drop (i*2+(n*2-(i+1)*2)))).toArray).setRow g c2) B (.slice (some ⟨g,0,none⟩) (n-1) cap) (n-1) (l.eraseIdx i)/\w.grownBy ((w.drew.setRow g (cur.toList.take (i*2)++(c.drop ((i+1)*2)++cur.toList.drop (i*2+(n*2-(i+1)*2)))).toArray).setRow g c2) (some g):=by
  intro c2 Y;have hF:=setRow_heap _ g _ c2 _ _ (setRow_heap w.drew g cur (cur.toList.take (i*2)++(c.drop ((i+1)*2)++cur.toList.drop (i*2+(n*2-(i+1)*2)))).toArray _ _ Q.out);have z:w.grownBy ((w.drew.setRow g (cur.toList.take (i*2)++(c.drop ((i+1)*2)++cur.toList.drop (i*2+(n*2-(i+1)*2)))).toArray).setRow g c2) (some g):=⟨rfl,rfl,rfl,by simp,fun x _ P=>(setRow_other _ g x _ (fun e=>P (by rw [e]))).trans (setRow_other _ g x _ (fun e=>P (by rw [e])))⟩;have ht:Tch (bi 86) w ((w.drew.setRow g (cur.toList.take (i*2)++(c.drop ((i+1)*2)++cur.toList.drop (i*2+(n*2-(i+1)*2)))).toArray).setRow g c2):=Tch.of_ne z.size (show w.heap[g]?=_ from Q.out) (by simp [bi]) f.out.2.1 fun x P R=>z.block x P (fun e=>R (by injection e))
  obtain ⟨d1,d2,d3⟩:=jC (cur:=cur) (zs:=[.string ⟨#[]⟩,.int .i64 0]) (s:=2) (i:=i) (n:=n) M T U rfl;rw [f.out.1,<- Y] at d1 d2 d3;refine ⟨⟨by rw [List.length_eraseIdx,f.out.2.2.2,if_pos U],_,⟨?_,.inr ⟨g,cap,c2,rfl,hB,hF,by omega,C,d1,d2,d3 f.out.2.1 rfl⟩⟩,(HR.out.del i).map_ fun cs a x=>hP _ cs a ht x⟩,z⟩;rw [List.length_append,List.length_take,List.length_drop,f.out.2.2.1];have h5:(i+1)*2<=n*2:=Nat.mul_le_mul_right _ U;omega
 go_wp2;go_ret;refine ⟨by rw [F.out];rfl,?_⟩;refine key _ ?_;unfold gL;rw [F.out];simp
def gG (l:List (List UInt8)) (nm:List UInt8):Int:=match l.findIdx? (· == nm) with | some i=>(i:Nat) | none=>-1
theorem kw {l:List (List UInt8)}{nm:List UInt8}{i:Nat}(h:l[i]?=some nm) (c:∀ j,j<i->∀ a,l[j]?=some a->(a==nm)=false):gG l nm=(i:Nat):=by
 have e:l.findIdx? (· == nm)=some i:=by
  rw [List.findIdx?_eq_some_iff_getElem];obtain ⟨b,e⟩:=List.getElem?_eq_some_iff.1 h;refine ⟨b,by rw [e];simp,fun j d=>?_⟩;have:=c j d l[j] (List.getElem?_eq_getElem (by omega));simpa using this
 unfold gG;rw [e]
theorem lp {l:List (List UInt8)}{nm:List UInt8}(d:∀ (j:Nat) a,l[j]?=some a->(a==nm)=false):gG l nm=-1:=by
 have e:l.findIdx? (· == nm)=none:=by
  rw [List.findIdx?_eq_none_iff];intro a c;obtain ⟨j,b⟩:=List.mem_iff_getElem?.1 c;exact d j a b
 unfold gG;rw [e]
theorem idxN_cases (l:List (List UInt8)) (nm:List UInt8):gG l nm=-1\/∃ i:Nat,gG l nm=(i:Nat)/\l[i]?=some nm:=by
 unfold gG
 cases e:l.findIdx? (· == nm) with
 | none=>exact .inl rfl
 | some i =>
  rw [List.findIdx?_eq_some_iff_getElem] at e;obtain ⟨b,a,_⟩:=e;exact .inr ⟨i,rfl,by rw [List.getElem?_eq_getElem b];simpa using a⟩
theorem DZ (F:FuncId) (i:F=76\/F=79) (w:World) (a:BodyL) (c:Option Addr) (g c1:Nat) (b:Nat) (nm:List UInt8) (h:w.cell? ⟨b,0,none⟩=some (aa nm)):Calls Tryz.prog F #[.agg #[aa a.name,.slice c g c1],.pointer (some ⟨b,0,none⟩)] w (ax w (.bool (a.name==nm))):=by
 have d:b<w.heap.size:=World.block_lt_of_cell? w _ h;have f:¬ b=w.heap.size:=by omega
 rcases i with rfl | rfl
 all_goals
  first
  | (go_in)
  | (go_in)
  go_wp2;go_ret;exact ⟨rfl,(ae w).alloc Qr _⟩
theorem uQ (F:FuncId) (I:F=76\/F=79) (w:World) (A:Option Addr) (n c:Nat) (l:List BodyL) (h:SlS (dV 130) 2 w A n c l) (V:n<=1000) (x:Nat) (nm:List UInt8) (G:w.cell? ⟨x,0,none⟩=some (aa nm)):Calls Tryz.prog 75 #[.slice A n c,.func (.func F) #[] #[.pointer (some ⟨x,0,none⟩)]] w (ax w (.int .i64 (gG (l.map BodyL.name) nm))):=by
 have H:=Qh h;have N:=Qh G;clear h G;have f:=fun w a u C c1=>DZ F I w a u C c1 x nm
 have z:=Qh f;clear f;rcases I with rfl | rfl
 all_goals
  go_in;go_wp2_with fail;go_loopw [8] (fun E wr=>∃ i:Nat,E=.int .i64 (i:Nat)/\i<=n/\Hid (∀ j,j<i->∀ a,(l.map BodyL.name)[j]?=some a->(a==nm)=false)/\Below w.heap.size w wr) (fun E _=>n-(intOf E).toNat)
  case atStart=>exact ⟨0,rfl,Nat.zero_le _,Qh fun j B=>absurd B (Nat.not_lt_zero _),ae w⟩
  case round =>
   obtain ⟨i,rfl,U,y,d⟩:=hrel;rename World=>wi;rcases Nat.lt_or_ge i n with t | L
   ·have s:((i:Int)<(n:Int))=True:=by simp;omega
    have Q:((i:Int)<(n:Int)):=by omega
    obtain ⟨g,o,a,P,O,W,m,M⟩:=(H.out.belw (fun _ _ _ h=>h.belw d) d).at_ t;subst P;obtain ⟨u,C,c1,d0,d1,T,R⟩:=M;have r:=Qh (show (l.map BodyL.name)[i]?=some a.name by rw [List.getElem?_map,m];rfl);have k:=ai N.out d;obtain ⟨v,D⟩:∃ v,(a.name==nm)=v:=⟨_,rfl⟩;have p:=z.out wi a u C c1 k;rw [D] at p;have K:=Qh D;clear m k D;cases v
    all_goals go_wp2_with ((first | go_at_call 76 | go_at_call 79);(with_reducible refine p.mono ?_);rintro e S ⟨rfl,q⟩)
    ·go_roundw
     case rel =>
      refine ⟨i+1,by go_num,by omega,Qh fun j B b hb=>?_,d.trans (q.mono d.size)⟩;rcases Nat.eq_or_lt_of_le (Nat.le_of_lt_succ B) with e | e
      ·subst e
       rw [r.out] at hb;injection hb with hb;rw [<- hb];exact K.out
      exact y.out j e b hb
     case measure=>simp [intOf];omega
    go_ret;refine ⟨?_,d.trans (q.mono d.size)⟩;rw [kw (by rw [r.out,show a.name=nm by simpa using K.out]) y.out];rfl
   have s:((i:Int)<(n:Int))=False:=by simp;omega
   obtain rfl:i=n:=by omega
   go_wp2;go_ret;refine ⟨?_,d⟩;rw [lp fun j a J=>y.out j (by have:=(List.getElem?_eq_some_iff.1 J).1;rw [List.length_map,H.out.1] at this;exact this) a J];rfl
theorem zQ (w:World) (A:Option Addr) (n c:Nat) (l:List BodyL) (h:SlS (dV 130) 2 w A n c l) (d:n<=1000) (a:Nat) (nm:List UInt8) (b:w.cell? ⟨a,0,none⟩=some (aa nm)):Calls Tryz.prog 75 #[.slice A n c,.func (.func 76) #[] #[.pointer (some ⟨a,0,none⟩)]] w (ax w (.int .i64 (gG (l.map BodyL.name) nm))):=uQ _ (.inl rfl) w A n c l h d a nm b
theorem zR (w:World) (A:Option Addr) (n c:Nat) (l:List BodyL) (h:SlS (dV 130) 2 w A n c l) (d:n<=1000) (a:Nat) (nm:List UInt8) (b:w.cell? ⟨a,0,none⟩=some (aa nm)):Calls Tryz.prog 75 #[.slice A n c,.func (.func 79) #[] #[.pointer (some ⟨a,0,none⟩)]] w (ax w (.int .i64 (gG (l.map BodyL.name) nm))):=uQ _ (.inr rfl) w A n c l h d a nm b
theorem Ce (w:World) (a:aD) (c:Nat) (nm:List UInt8) (g:w.cell? ⟨c,1,none⟩=some (aa nm)):Calls Tryz.prog 39 #[.agg #[aa a.name,.int .i64 a.kind,.int .i64 a.a,.int .i64 a.point,.int .i64 a.b,.int .i64 a.on,.int .i64 a.to_],.pointer (some ⟨c,0,none⟩)] w (ax w (.bool (a.name==nm))):=by
 have d:c<w.heap.size:=World.block_lt_of_cell? w _ g;have f:¬ c=w.heap.size:=by omega
 go_in;go_wp2;go_ret;exact ⟨rfl,(ae w).alloc Qr _⟩
theorem zS (w:World) (A:Option Addr) (n c:Nat) (l:List aD) (h:SlS (ic) 7 w A n c l) (Q:n<=1000) (t:Nat) (nm:List UInt8) (B:w.cell? ⟨t,1,none⟩=some (aa nm)):Calls Tryz.prog 38 #[.slice A n c,.func (.func 39) #[] #[.pointer (some ⟨t,0,none⟩)]] w (ax w (.int .i64 (gG (l.map aD.name) nm))):=by
 have H:=Qh h;have G:=Qh B;clear h B;go_in;go_wp2_with fail;go_loopw [8] (fun z wr=>∃ i:Nat,z=.int .i64 (i:Nat)/\i<=n/\Hid (∀ j,j<i->∀ a,(l.map aD.name)[j]?=some a->(a==nm)=false)/\Below w.heap.size w wr) (fun z _=>n-(intOf z).toNat)
 case atStart=>exact ⟨0,rfl,Nat.zero_le _,Qh fun j x=>absurd x (Nat.not_lt_zero _),ae w⟩
 case round =>
  obtain ⟨i,rfl,P,u,d⟩:=hrel;rename World=>wi;rcases Nat.lt_or_ge i n with s | E
  ·have r:((i:Int)<(n:Int))=True:=by simp;omega
   have K:((i:Int)<(n:Int)):=by omega
   obtain ⟨g,o,a,J,I,S,k,F⟩:=(H.out.belw (fun _ _ _ h=>h.belw d) d).at_ s;subst J;obtain ⟨d0,d1,d2,d3,R,O,N,L⟩:=F;have q:=Qh (show (l.map aD.name)[i]?=some a.name by rw [List.getElem?_map,k];rfl);have f:=ai G.out d;obtain ⟨v,y⟩:∃ v,(a.name==nm)=v:=⟨_,rfl⟩;have m:=Ce wi a t nm f;rw [y] at m;have D:=Qh y;clear k f y;cases v
   all_goals go_wp2_with (go_at_call 39;refine m.mono ?_;rintro e M ⟨rfl,p⟩)
   ·go_roundw
    case rel =>
     refine ⟨i+1,by go_num,by omega,Qh fun j x b hb=>?_,d.trans (p.mono d.size)⟩;rcases Nat.eq_or_lt_of_le (Nat.le_of_lt_succ x) with e | e
     ·subst e
      rw [q.out] at hb;injection hb with hb;rw [<- hb];exact D.out
     exact u.out j e b hb
    case measure=>simp [intOf];omega
   go_ret;refine ⟨?_,d.trans (p.mono d.size)⟩;rw [kw (by rw [q.out,show a.name=nm by simpa using D.out]) u.out];rfl
  have r:((i:Int)<(n:Int))=False:=by simp;omega
  obtain rfl:i=n:=by omega
  go_wp2;go_ret;refine ⟨?_,d⟩;rw [lp fun j a C=>u.out j (by have:=(List.getElem?_eq_some_iff.1 C).1;rw [List.length_map,H.out.1] at this;exact this) a C];rfl
theorem Cf (w:World) (a:aE) (b:Nat) (nm:List UInt8) (f:w.cell? ⟨b,1,none⟩=some (aa nm)):Calls Tryz.prog 42 #[.agg #[aa a.name,.int .i64 a.body],.pointer (some ⟨b,0,none⟩)] w (ax w (.bool (a.name==nm))):=by
 have c:b<w.heap.size:=World.block_lt_of_cell? w _ f;have d:¬ b=w.heap.size:=by omega
 go_in;go_wp2;go_ret;exact ⟨rfl,(ae w).alloc Qr _⟩
theorem zT (w:World) (A:Option Addr) (n c:Nat) (l:List aE) (h:SlS (ig) 2 w A n c l) (O:n<=1000) (t:Nat) (nm:List UInt8) (B:w.cell? ⟨t,1,none⟩=some (aa nm)):Calls Tryz.prog 41 #[.slice A n c,.func (.func 42) #[] #[.pointer (some ⟨t,0,none⟩)]] w (ax w (.int .i64 (gG (l.map aE.name) nm))):=by
 have H:=Qh h;have G:=Qh B;clear h B;go_in;go_wp2_with fail;go_loopw [8] (fun z wr=>∃ i:Nat,z=.int .i64 (i:Nat)/\i<=n/\Hid (∀ j,j<i->∀ a,(l.map aE.name)[j]?=some a->(a==nm)=false)/\Below w.heap.size w wr) (fun z _=>n-(intOf z).toNat)
 case atStart=>exact ⟨0,rfl,Nat.zero_le _,Qh fun j x=>absurd x (Nat.not_lt_zero _),ae w⟩
 case round =>
  obtain ⟨i,rfl,N,u,d⟩:=hrel;rename World=>wi;rcases Nat.lt_or_ge i n with s | E
  ·have r:((i:Int)<(n:Int))=True:=by simp;omega
   have K:((i:Int)<(n:Int)):=by omega
   obtain ⟨g,o,a,J,I,P,k,F⟩:=(H.out.belw (fun _ _ _ h=>h.belw d) d).at_ s;subst J;obtain ⟨d0,d1,L⟩:=F;have q:=Qh (show (l.map aE.name)[i]?=some a.name by rw [List.getElem?_map,k];rfl);have f:=ai G.out d;obtain ⟨v,y⟩:∃ v,(a.name==nm)=v:=⟨_,rfl⟩;have m:=Cf wi a t nm f;rw [y] at m;have D:=Qh y;clear k f y;cases v
   all_goals go_wp2_with (go_at_call 42;refine m.mono ?_;rintro e M ⟨rfl,p⟩)
   ·go_roundw
    case rel =>
     refine ⟨i+1,by go_num,by omega,Qh fun j x b hb=>?_,d.trans (p.mono d.size)⟩;rcases Nat.eq_or_lt_of_le (Nat.le_of_lt_succ x) with e | e
     ·subst e
      rw [q.out] at hb;injection hb with hb;rw [<- hb];exact D.out
     exact u.out j e b hb
    case measure=>simp [intOf];omega
   go_ret;refine ⟨?_,d.trans (p.mono d.size)⟩;rw [kw (by rw [q.out,show a.name=nm by simpa using D.out]) u.out];rfl
  have r:((i:Int)<(n:Int))=False:=by simp;omega
  obtain rfl:i=n:=by omega
  go_wp2;go_ret;refine ⟨?_,d⟩;rw [lp fun j a C=>u.out j (by have:=(List.getElem?_eq_some_iff.1 C).1;rw [List.length_map,H.out.1] at this;exact this) a C];rfl
def kt (l:List Tkn):List (Nat × List UInt8):=l.map fun t=>(t.kind,t.text)
structure AtK (s:PS) (K:List (Nat × List UInt8)) (L:ag):Prop where
  x:s.x=0
  k:kt s.toks=K
  l:s.L=L
theorem AtK.head {s:PS}{k:Nat}{t:List UInt8}{K:List (Nat × List UInt8)}{L:ag}(h:AtK s ((k,t)::K) L):∃ u r,s.toks=u::r/\u.kind=k/\u.text=t/\kt r=K:=by
 have a:=h.k;unfold kt at a
 cases e:s.toks with
 | nil=>rw [e] at a;cases a
 | cons u r =>
  rw [e,List.map_cons] at a;injection a with h2 h3;injection h2 with h4 h5;exact ⟨u,r,rfl,h4,h5,h3⟩
theorem AtK.next {s:PS}{k:Nat}{t:List UInt8}{K:List (Nat × List UInt8)}{L:ag}(h:AtK s ((k,t)::K) L):s.next k=(some t,s):=by
 obtain ⟨u,r,e,b,a,_⟩:=h.head;unfold PS.next;rw [if_neg (by rw [h.x];simp),e];show (if u.kind=k then (some u.text,s) else _)=_;rw [if_pos b,a]
theorem AtK.drop {s:PS}{p:Nat × List UInt8}{K:List (Nat × List UInt8)}{L:ag}(h:AtK s (p::K) L):AtK s.drop1 K L:=by
 obtain ⟨u,r,e,_,_,a⟩:=AtK.head (k:=p.1) (t:=p.2) h;refine ⟨h.x,?_,h.l⟩;show kt (s.toks.drop 1)=K;rw [e];exact a
theorem AtK.word {s:PS}{t:List UInt8}{K:List (Nat × List UInt8)}{L:ag}(h:AtK s ((0,t)::K) L):s.word.1=t/\AtK s.word.2 K L:=by
 unfold PS.word;rw [h.next];exact ⟨rfl,h.drop⟩
theorem AtK.expect {s:PS}{k:Nat}{t:List UInt8}{K:List (Nat × List UInt8)}{L:ag}(h:AtK s ((k,t)::K) L):AtK (s.expect k t) K L:=by
 unfold PS.expect;rw [h.next];show AtK (if t=t then s.drop1 else s.fail 2) K L;rw [if_pos rfl];exact h.drop
theorem AtK.number {s:PS}{t:List UInt8}{K:List (Nat × List UInt8)}{L:ag}(h:AtK s ((1,t)::K) L) (a:valX t=0):s.number.1=valQ t/\AtK s.number.2 K L:=by
 unfold PS.number;rw [h.next];show (if valX t≠0 then (0,s.fail (valX t)) else (valQ t,s.drop1):Rat × PS).1=_/\AtK (if valX t≠0 then (0,s.fail (valX t)) else (valQ t,s.drop1):Rat × PS).2 K L;rw [if_neg (by rw [a];simp)];exact ⟨rfl,h.drop⟩
/-! Texts of numbers. -/
theorem uR (z:Int):∃ m D,isD D/\Lib.itoa z=sg m D/\sgI m (ar D)=z:=by
 obtain ⟨a,b⟩:=Bs z;generalize Lib.itoa z=s at a b ⊢;refine ⟨cw s,bT s,?_,?_,?_⟩
 ·unfold okZ at a
  rw [Bool.and_eq_true,Bool.and_eq_true,decide_eq_true_eq] at a;exact ⟨a.1.1,a.1.2⟩
 ·unfold cw bT sg
  split <;> split <;> simp_all
 unfold eT at b;unfold sgI;exact b
theorem lY {m c:Bool}{D b r a:List UInt8}(h:isD D) (g:isD b) (e:sg m (D++r)=sg c (b++a)):m=c/\D++r=b++a:=by
 obtain ⟨d,f⟩:=fX (m:=m) (r:=r) h;obtain ⟨i,j⟩:=fX (m:=c) (r:=a) g;rw [e] at d f;exact ⟨d.symm.trans i,f.symm.trans j⟩
theorem kx (q:Rat):∃ m D t,isD D/\am q=sg m (D++t)/\((t=[]/\q=((sgI m (ar D):Int):Rat))\/∃ E,isD E/\t=47::E/\ar E≠0/\q=Rat.divInt (sgI m (ar D)) (ar E)):=by
 obtain ⟨m,D,g,c,d⟩:=uR q.num;by_cases hd:q.den=1
 ·refine ⟨m,D,[],g,?_,.inl ⟨rfl,?_⟩⟩
  ·rw [kX hd,c,List.append_nil]
  rw [d];exact Rat.ext (by simp) (by simp [hd])
 obtain ⟨f,E,h,j,a⟩:=uR (q.den:Int);have k:0<q.den:=q.den_pos
 have b:f=false:=by
  cases f
  ·rfl
  unfold sgI at a;rw [if_pos rfl] at a;omega
 subst b
 have i:ar E=q.den:=by
  unfold sgI at a;rw [if_neg (by decide)] at a;omega
 refine ⟨m,D,47::E,g,?_,.inr ⟨E,h,rfl,by omega,?_⟩⟩
 ·rw [kY hd,c,j]
  cases m <;> rfl
 rw [d,i,Rat.divInt_ofNat];exact (Rat.mkRat_self q).symm
theorem tJ {e:List UInt8}(a:∀ c t,e=c::t->c=32\/c=59):dS e=0/\jw e=false/\∀ c t,e=c::t->aX c=false:=by
 cases e with
 | nil=>exact ⟨rfl,rfl,fun c t h=>by cases h⟩
 | cons c t =>
  rcases a c t rfl with rfl | rfl
  ·refine ⟨?_,rfl,fun c t h=>by injection h with h _;subst h;decide⟩
   rw [dS,show ((32:UInt8)==46||(32:UInt8)==47)=false from by decide];rfl
  refine ⟨?_,rfl,fun c t h=>by injection h with h _;subst h;decide⟩;rw [dS,show ((59:UInt8)==46||(59:UInt8)==47)=false from by decide];rfl
theorem qh {m:Bool}{D t e:List UInt8}(g:isD D) (q:t=[]\/∃ E,isD E/\t=47::E) (v:∀ c t,e=c::t->c=32\/c=59):bJ (sg m (D++t)++e)=(sg m (D++t)).length:=by
 obtain ⟨w,_,p⟩:=tJ v;have u:0<D.length:=List.length_pos_iff.2 g.1
 have k:∀ c r,t++e=c::r->aX c=false:=by
  rcases q with rfl | ⟨E,_,rfl⟩
  ·exact p
  intro c r h;injection h with h _;subst h;decide
 have i:dS (t++e)=t.length:=by
  rcases q with rfl | ⟨E,o,rfl⟩
  ·exact w
  ·have j:cC (E++e)=E.length:=by
    unfold cC;rw [kU e o.2 p]
   have n:0<E.length:=List.length_pos_iff.2 o.1;rw [List.cons_append,dS,j,show ((47:UInt8)==46||(47:UInt8)==47)=true from by decide,Bool.true_and,if_pos (by simpa using n),List.length_cons];omega
 have f:cC (D++(t++e))=D.length:=by
  unfold cC;rw [kU (t++e) g.2 k]
 have key:∀ s:List UInt8,cD s=(if m then 1 else 0)->s.drop (cD s)=D++(t++e)->bJ s=(if m then 1 else 0)+D.length+t.length:=by
  intro s d b;unfold bJ;rw [b,f,if_neg (by omega),<- List.drop_drop,b,List.drop_left,i,d]
 have:=key (sg m (D++t)++e) ?_ ?_
 ·rw [this]
  unfold sg;cases m <;> simp <;> omega
 ·cases m
  ·obtain ⟨c,r,rfl,l⟩:=fW g
   have a:c≠45:=by rintro rfl;exact absurd l (by decide)
   show cD (c::(r++t++e))=0;unfold cD;split
   ·rename_i d;injection d with b;exact absurd b a
   rfl
  rfl
 cases m
 ·obtain ⟨c,r,rfl,l⟩:=fW g
  have a:c≠45:=by rintro rfl;exact absurd l (by decide)
  have:cD (sg false (c::r++t)++e)=0:=by
   show cD (c::(r++t++e))=0;unfold cD;split
   ·rename_i d;injection d with b;exact absurd b a
   rfl
  rw [this];show c::r++t++e=_;rw [List.append_assoc]
 show D++t++e=_;rw [List.append_assoc]
theorem jc {q:Rat}(v:(am q).length<=60):valX (am q)=0/\valQ (am q)=q:=by
 obtain ⟨m,D,t,f,k,d⟩:=kx q;have h:=lW (am q)
 have s:bJ (am q)=(am q).length:=by
  have:=qh (m:=m) (D:=D) (t:=t) (e:=[]) f (by rcases d with ⟨h,_⟩ | ⟨E,j,h,_⟩;exact .inl h;exact .inr ⟨E,j,h⟩) (fun c t h=>by cases h);rw [List.append_nil] at this;rw [k];exact this
 have l:(am q).length≠0:=by
  obtain ⟨c,r,e,_⟩:=fW f;rw [k,e];cases m <;> simp [sg]
 generalize valX (am q)=x at h ⊢;generalize valQ (am q)=y at h ⊢;have b:∀ {F:List UInt8},isD F->(47:UInt8) ∉ F:=fun h=>gC h (by decide)
 have i:∀ {F:List UInt8},isD F->(46:UInt8) ∉ F:=fun h=>gC h (by decide)
 cases h with
 | large h1 _ _=>omega
 | bad _ hb _ _ =>
  rcases hb with hb | hb
  ·exact absurd hb l
  exact absurd s hb
 | whole m' D' _ _ hD' hs' hx hy =>
  have g:=k.symm.trans hs';rw [show D'=D'++[] by simp] at g;obtain ⟨rfl,e⟩:=lY f hD' g;rcases d with ⟨rfl,d⟩ | ⟨E,j,rfl,n,d⟩
  ·rw [List.append_nil,List.append_nil] at e
   subst e;exact ⟨hx,hy.trans d.symm⟩
  exfalso;rw [List.append_nil] at e;exact b hD' (e ▸ List.mem_append_right _ (List.mem_cons_self))
 | quo0 m' D' E' _ _ hD' hE' hs' h0' _ _ =>
  exfalso;have g:=k.symm.trans hs';obtain ⟨rfl,e⟩:=lY f hD' g;rcases d with ⟨rfl,d⟩ | ⟨E,j,rfl,n,d⟩
  ·rw [List.append_nil] at e
   exact b f (e ▸ List.mem_append_right _ (List.mem_cons_self))
  obtain ⟨_,p⟩:=mM (b f) (b hD') e;subst p;exact n h0'
 | quo m' D' E' _ _ hD' hE' hs' h0' hx hy =>
  have g:=k.symm.trans hs';obtain ⟨rfl,e⟩:=lY f hD' g;rcases d with ⟨rfl,d⟩ | ⟨E,j,rfl,n,d⟩
  ·exfalso
   rw [List.append_nil] at e;exact b f (e ▸ List.mem_append_right _ (List.mem_cons_self))
  obtain ⟨u,p⟩:=mM (b f) (b hD') e;subst u p;exact ⟨hx,hy.trans d.symm⟩
 | dot m' D' E' _ _ hD' hE' hs' hx hy =>
  exfalso;have g:=k.symm.trans hs';obtain ⟨rfl,e⟩:=lY f hD' g;have o:(46:UInt8)∈D++t:=e ▸ List.mem_append_right _ (List.mem_cons_self);rcases List.mem_append.1 o with h | h
  ·exact i f h
  rcases d with ⟨rfl,d⟩ | ⟨E,j,rfl,n,d⟩
  ·cases h
  rcases List.mem_cons.1 h with h | h
  ·exact absurd h (by decide)
  exact i j h
/-! Tokens of a text. -/
def Spl (s:List UInt8) (K:List (Nat × List UInt8)):Prop:=∀ line col,Bn.shape (tk s line col)=some K
theorem Spl.nil:Spl [] []:=fun _ _=>rfl
theorem Spl.line {s:List UInt8}{K:List (Nat × List UInt8)}(h:Spl s K):Spl (10::s) K:=fun line col=>by rw [lO];exact h _ _
theorem Spl.blank {s:List UInt8}{K:List (Nat × List UInt8)}(h:Spl s K):Spl (32::s) K:=fun line col=>by rw [hH (by decide)];exact h _ _
theorem Spl.tok {x s:List UInt8}{k:Nat}{K:List (Nat × List UInt8)}(b:x≠[]) (a:aU (x++s)=.ok k x.length) (h:Spl s K):Spl (x++s) ((k,x)::K):=fun line col=>by
 obtain ⟨c,r,rfl⟩:=List.exists_cons_of_ne_nil b;rw [List.cons_append] at a;rw [List.cons_append,pJ a,th,<- List.cons_append,List.drop_left,List.take_left,h];rfl
theorem Spl.sign {c:UInt8}{s:List UInt8}{K:List (Nat × List UInt8)}(a:cG c=true) (h:Spl s K):Spl (c::s) ((2,[c])::K) :=
 Spl.tok (x:=[c]) (by simp) (by show aU (c::s)=_;unfold aU;simp only [a,if_true];rfl) h
theorem sx {c:UInt8}(h:bU c=true):cG c=false:=by
 cases hs:cG c
 ·rfl
 unfold cG at hs;simp only [Bool.or_eq_true,beq_iff_eq] at hs;rcases hs with ((e | e) | e) | e <;> subst e <;> exact absurd h (by decide)
theorem Spl.word {x s:List UInt8}{K:List (Nat × List UInt8)}(a:aQ x=true) (j:∀ c t,s=c::t->aM c=false) (h:Spl s K):Spl (x++s) ((0,x)::K):=by
 have b:=rQ a;unfold aQ at a;simp only [Bool.and_eq_true,decide_eq_true_eq] at a;obtain ⟨⟨g,k⟩,l⟩:=a;refine Spl.tok b.1 ?_ h
 cases x with
 | nil=>exact absurd rfl b.1
 | cons c t =>
  have f:bU c=true:=by
   rw [be] at g;split at g
   ·assumption
   omega
  have i:t.all aM=true:=List.all_eq_true.2 fun d hd=>b.2 d (by simp [hd])
  have hw:be (c::(t++s))=(c::t).length:=by
   rw [be,if_pos f,kU s i j,List.length_cons];omega
  show aU (c::(t++s))=_;unfold aU;simp only [sx f,hw,Bool.false_eq_true,if_false];rw [if_pos (by simp),if_neg (by omega)]
theorem zU {c:UInt8}(h:aX c=true\/c=45):cG c=false/\bU c=false:=by
 rcases h with h | rfl
 ·unfold aX at h
  simp only [Bool.and_eq_true,decide_eq_true_eq] at h;constructor
  ·cases hs:cG c
   ·rfl
   unfold cG at hs;simp only [Bool.or_eq_true,beq_iff_eq] at hs;rcases hs with ((e | e) | e) | e <;> subst e <;> exact absurd h (by decide)
  unfold bU;simp only [Bool.or_eq_false_iff,Bool.and_eq_false_iff,decide_eq_false_iff_not];omega
 decide
theorem Spl.num {q:Rat}{s:List UInt8}{K:List (Nat × List UInt8)}(j:(am q).length<=60) (b:∀ c t,s=c::t->c=32\/c=59) (h:Spl s K):Spl (am q++s) ((1,am q)::K):=by
 obtain ⟨m,D,t,d,e,l⟩:=kx q
 have a:bJ (am q++s)=(am q).length:=by
  rw [e];exact qh d (by rcases l with ⟨h,_⟩ | ⟨E,g,h,_⟩;exact .inl h;exact .inr ⟨E,g,h⟩) b
 have p:∃ c r,am q=c::r/\(aX c=true\/c=45):=by
  obtain ⟨c,r,u,i⟩:=fW d;rw [e,u];cases m
  ·exact ⟨c,r++t,rfl,.inl i⟩
  exact ⟨45,_,rfl,.inr rfl⟩
 obtain ⟨c,r,f,k⟩:=p;obtain ⟨n,o⟩:=zU k;refine Spl.tok (by rw [f];simp) ?_ h;rw [f] at a j ⊢;rw [List.cons_append] at a ⊢;have hw:be (c::(r++s))=0:=by rw [be,o];rfl
 unfold aU;simp only [n,hw,a,Bool.false_eq_true,if_false];rw [if_neg (by omega),if_neg (by simp),if_neg (by omega),<- List.cons_append,List.drop_left,(tJ b).2.1];rfl
noncomputable def zV (l:List Tkn):BodyL × PS :=
  let b:=((⟨l,L0,0⟩:PS).expect 0 mW).body
  (b.1,if b.2.x=0/\b.2.toks≠[] then b.2.fail 2 else b.2)
def B0:BodyL:=⟨[],[]⟩
inductive qj (s:List UInt8) (x:Int) (b:BodyL):Prop
  | split (l:List Tkn) (hs:bh s x l) (hx:x≠0) (hb:b=B0)
  | read (l:List Tkn) (hs:bh s 0 l) (hr:(zV l).2.x=x) (hx:x≠0) (hb:b=B0)
  | ok (l:List Tkn) (hs:bh s 0 l) (hr:(zV l).2.x=0) (hx:x=0) (hb:b=(zV l).1)
theorem qj.uniq {s:List UInt8}{x y:Int}{b d:BodyL}(h:qj s x b) (c:qj s y d):x=y/\b=d:=by
 cases h with
 | split l hs hx hL =>
  cases c with
  | split l' hs' hx' hL'=>exact ⟨(hs.uniq hs').1,by rw [hL,hL']⟩
  | read l' hs' _ _ _=>exact absurd (hs.uniq hs').1 hx
  | ok l' hs' _ _ _=>exact absurd (hs.uniq hs').1 hx
 | read l hs hr hx hL =>
  cases c with
  | split l' hs' hx' hL'=>exact absurd (hs.uniq hs').1.symm hx'
  | read l' hs' hr' hx' hL' =>
   obtain ⟨_,rfl⟩:=hs.uniq hs';exact ⟨hr.symm.trans hr',by rw [hL,hL']⟩
  | ok l' hs' hr' _ _ =>
   obtain ⟨_,rfl⟩:=hs.uniq hs';exact absurd (hr.symm.trans hr') hx
 | ok l hs hr hx hL =>
  cases c with
  | split l' hs' hx' hL'=>exact absurd (hs.uniq hs').1.symm hx'
  | read l' hs' hr' hx' hL' =>
   obtain ⟨_,rfl⟩:=hs.uniq hs';exact absurd (hr'.symm.trans hr) hx'
  | ok l' hs' hr' hx' hL' =>
   obtain ⟨_,rfl⟩:=hs.uniq hs';exact ⟨by rw [hx,hx'],by rw [hL,hL']⟩
/-! The tokens of a linkage. -/
def ky (m:MarkL):List (Nat × List UInt8):=[(0,m.name),(1,am m.x.q),(1,am m.y.q),(2,[59])]
def fg (b:BodyL):List (Nat × List UInt8):=(0,mW)::(0,b.name)::(2,[123])::(b.pts.flatMap ky++[(2,[125])])
def nh (bs:List BodyL) (i j:Int):List (Nat × List UInt8):=match bs[i.toNat]? with
  | some b=>(match b.pts[j.toNat]? with | some m=>[(0,b.name),(2,[46]),(0,m.name)] | none=>[])
  | none=>[]
def fH (bs:List BodyL) (j:aD):List (Nat × List UInt8) :=
  (0,if j.kind=1 then lf else wH)::(0,j.name)::(nh bs j.a j.point++(nh bs j.b j.on++((if j.kind=1 then nh bs j.b j.to_ else [])++[(2,[59])])))
def dM (bs:List BodyL) (d:aE):List (Nat × List UInt8):=[(0,iR),(0,d.name),(0,oS bs d.body),(2,[59])]
def fh (L:ag):List (Nat × List UInt8):=(0,aP)::(0,L.name)::(2,[59])::(L.bodies.flatMap fg++(L.joints.flatMap (fH L.bodies)++L.drivers.flatMap (dM L.bodies)))
theorem uS {a:List BodyL}{i j:Nat}{b:BodyL}{m:MarkL}(hb:a[i]?=some b) (c:b.pts[j]?=some m):nh a (i:Nat) (j:Nat)=[(0,b.name),(2,[46]),(0,m.name)]:=by
 unfold nh;show (match a[i]? with | some b=>(match b.pts[j]? with | some m=>[(0,b.name),(2,[46]),(0,m.name)] | none=>[]) | none=>[])=_;rw [hb];show (match b.pts[j]? with | some m=>[(0,b.name),(2,[46]),(0,m.name)] | none=>[])=_;rw [c]
/-! Splitting. -/
theorem gh {p:UInt8->Prop}{c:UInt8}{t:List UInt8}(h:p c):∀ a b,c::t=a::b->p a:=fun a b e=>by injection e with e _;subst e;exact h
def MkN (m:MarkL):Prop:=(am m.x.q).length<=60/\(am m.y.q).length<=60
theorem Spl.mark {m:MarkL}{s:List UInt8}{K:List (Nat × List UInt8)}(b:aQ m.name=true) (a:MkN m) (h:Spl s K):Spl (bB m++s) (ky m++K):=by
 unfold bB ky;simp only [List.cons_append,List.append_assoc,List.nil_append];exact .blank (.word b (gh (by decide)) (.blank (.num a.1 (gh (.inl rfl)) (.blank (.num a.2 (gh (.inr rfl)) (.sign (by decide) h))))))
theorem Spl.marks {s:List UInt8}{K:List (Nat × List UInt8)}(h:Spl s K):∀ {l:List MarkL},(∀ m∈l,aQ m.name=true/\MkN m)->Spl (l.flatMap bB++s) (l.flatMap ky++K)
 | [],_=>h
 | m::l,hl=>by
  rw [List.flatMap_cons,List.flatMap_cons,List.append_assoc,List.append_assoc];have:=hl m (by simp);exact .mark this.1 this.2 (Spl.marks h fun x a=>hl x (by simp [a]))
theorem Spl.body {b:BodyL}{s:List UInt8}{K:List (Nat × List UInt8)}(hb:aQ b.name=true) (a:∀ m∈b.pts,aQ m.name=true/\MkN m) (h:Spl s K):Spl (bK b++s) (fg b++K):=by
 unfold bK fg;simp only [List.cons_append,List.append_assoc,List.nil_append];have c:Spl (b.pts.flatMap bB++32::125::s) (b.pts.flatMap ky++(2,[125])::K):=Spl.marks (.blank (.sign (by decide) h)) a;exact Spl.word (x:=mW) (by decide) (gh (by decide)) (.blank (.word hb (gh (by decide)) (.blank (.sign (by decide) c))))
theorem Spl.full {a:List BodyL}{i j:Nat}{b:BodyL}{m:MarkL}(hb:a[i]?=some b) (d:b.pts[j]?=some m) (g:aQ b.name=true) (f:aQ m.name=true) {s:List UInt8}{K:List (Nat × List UInt8)}(k:∀ c t,s=c::t->aM c=false) (h:Spl s K):Spl (gJ a (i:Nat) (j:Nat)++s) (nh a (i:Nat) (j:Nat)++K):=by
 rw [lV hb d,uS hb d];simp only [List.cons_append,List.append_assoc,List.nil_append];exact .word g (gh (by decide)) (.sign (by decide) (.word f k h))
theorem Spl.joint {k:List BodyL}(hB:∀ b∈k,BdF b) {j:aD}(q:aQ j.name=true) (F:lS k j) {s:List UInt8}{K:List (Nat × List UInt8)}(h:Spl s K):Spl (aW k j++s) (fH k j++K):=by
 obtain ⟨_,a,b,p,o,x,y,C,A,v,z,r,n,m,i,d,f,E⟩:=F;have bx:=hB x (List.mem_of_getElem? m);have c:=hB y (List.mem_of_getElem? i);have u:=(bx.pts C (List.mem_of_getElem? d)).name;have w:=(c.pts A (List.mem_of_getElem? f)).name;unfold aW fH cU;rcases E with ⟨H,_⟩ | ⟨l,t,B,G,g⟩
 ·rw [if_neg (by omega),if_neg (by omega),if_neg (by omega),v,z,r,n]
  simp only [gH,List.cons_append,List.append_assoc,List.nil_append];exact Spl.word (x:=wH) (by decide) (gh (by decide)) (.blank (.word q (gh (by decide)) (.blank (.full m d bx.name u (gh (by decide)) (.blank (.full i f c.name w (gh (by decide)) (.sign (by decide) (.line h))))))))
 have D:=(c.pts B (List.mem_of_getElem? g)).name;rw [if_pos l,if_pos l,if_pos l,v,z,r,n,G];simp only [gH,List.cons_append,List.append_assoc,List.nil_append];exact Spl.word (x:=lf) (by decide) (gh (by decide)) (.blank (.word q (gh (by decide)) (.blank (.full m d bx.name u (gh (by decide)) (.blank (.full i f c.name w (gh (by decide)) (.blank (.full i g c.name D (gh (by decide)) (.sign (by decide) (.line h))))))))))
theorem Spl.driver {a:List BodyL}(hB:∀ b∈a,BdF b) {d:aE}(f:aQ d.name=true) (hd:j7 a d) {s:List UInt8}{K:List (Nat × List UInt8)}(h:Spl s K):Spl (bq a d++s) (dM a d++K):=by
 obtain ⟨_,i,b,g,hb⟩:=hd;have c:=hB b (List.mem_of_getElem? hb);unfold bq dM;rw [g,pR hb];simp only [List.cons_append,List.append_assoc,List.nil_append];exact Spl.word (x:=iR) (by decide) (gh (by decide)) (.blank (.word f (gh (by decide)) (.blank (.word c.name (gh (by decide)) (.sign (by decide) (.line h))))))
theorem Spl.list {α:Type}{f:α->List UInt8}{g:α->List (Nat × List UInt8)}{s:List UInt8}{K:List (Nat × List UInt8)}(h:Spl s K):∀ {l:List α},(∀ a∈l,∀ s K,Spl s K->Spl (f a++s) (g a++K))->Spl (l.flatMap f++s) (l.flatMap g++K)
 | [],_=>h
 | a::l,hl=>by
  rw [List.flatMap_cons,List.flatMap_cons,List.append_assoc,List.append_assoc];exact hl a (by simp) _ _ (Spl.list h fun x b=>hl x (by simp [b]))
theorem ni {l:List BodyL}(h:fm l≠true):∀ b∈l,∀ m∈b.pts,MkN m:=by
 intro b hb m c
 have a:¬ gI m=true:=fun d=>h (by
  unfold fm;rw [List.any_eq_true]
  exact ⟨b,hb,List.any_eq_true.2 ⟨m,c,d⟩⟩)
 unfold gI at a;simp only [Bool.or_eq_true,decide_eq_true_eq,not_or] at a;exact ⟨by omega,by omega⟩
theorem Spl.out {s:List UInt8}{K:List (Nat × List UInt8)}(h:Spl s K) (b:s.length<=65536):∃ l,bh s 0 l/\kt l=K:=by
 have a:=h 1 1;have e:tk s 1 1=cS s:=rfl;rw [e] at a
 cases ht:cS s with
 | err x=>rw [ht] at a;cases a
 | ok l =>
  rw [ht] at a;injection a with a;exact ⟨l,.ok b ht rfl,a⟩
/-! Reading. -/
theorem AtK.mark {s:PS}{m:MarkL}{K:List (Nat × List UInt8)}{L:ag}(h:AtK s (ky m++K) L) (b:MkN m) (c:MkF m) (a:MkW m):s.mark.1=m/\AtK s.mark.2 K L:=by
 obtain ⟨d,j⟩:=AtK.word h;obtain ⟨n,i⟩:=jc b.1;obtain ⟨l,p⟩:=jc b.2;obtain ⟨o,g⟩:=j.number n;obtain ⟨f,k⟩:=g.number l;unfold PS.mark;refine ⟨?_,k.expect⟩;rw [d,o,f,i,p,eN a.1.1 a.1.2 c.x,eN a.2.1 a.2.2 c.y]
theorem AtK.marks:∀ {l:List MarkL}{f:Nat}{s:PS}{p:List MarkL}{K:List (Nat × List UInt8)}{L:ag},(∀ m∈l,MkN m/\MkF m/\MkW m)->l.length<f->AtK s (l.flatMap ky++(2,[125])::K) L->(PS.marks f s p).1=p++l/\AtK (PS.marks f s p).2 K L
 | [],f,s,p,K,L,_,hf,h=>by
  have b:s.signHead=true:=by
   obtain ⟨u,r,e,a,_,_⟩:=AtK.head (k:=2) (t:=[125]) (K:=K) h;unfold PS.signHead;rw [e];show (u.kind==2)=true;rw [a];rfl
  rw [iT (by omega) h.x b];exact ⟨by simp,AtK.expect h⟩
 | m::l,f,s,p,K,L,hl,hf,h=>by
  rw [List.flatMap_cons,List.append_assoc] at h
  have b:s.signHead=false:=by
   obtain ⟨u,r,e,a,_,_⟩:=AtK.head (k:=0) (t:=m.name) h;unfold PS.signHead;rw [e];show (u.kind==2)=false;rw [a];rfl
  rw [List.length_cons] at hf;rw [eY (by omega) h.x b];obtain ⟨j,c,d⟩:=hl m (by simp);obtain ⟨a,i⟩:=AtK.mark h j c d;obtain ⟨o,n⟩:=AtK.marks (l:=l) (f:=f-1) (p:=p++[s.mark.1]) (fun x g=>hl x (by simp [g])) (by omega) i;refine ⟨?_,n⟩;rw [o,a];simp
theorem nq (l:List Tkn):(kt l).length=l.length:=by unfold kt;simp
theorem nr:∀ (l:List MarkL),l.length<=(l.flatMap ky).length
 | []=>by simp
 | m::l=>by
  have:=nr l;rw [List.flatMap_cons,List.length_append,List.length_cons];show _<=4+_;omega
theorem AtK.body {s:PS}{b:BodyL}{K:List (Nat × List UInt8)}{L:ag}(h:AtK s ((0,b.name)::(2,[123])::(b.pts.flatMap ky++(2,[125])::K)) L) (hb:∀ m∈b.pts,MkN m/\MkF m/\MkW m):s.body.1=b/\AtK s.body.2 K L:=by
 have a:b.pts.length<s.toks.length+1:=by
  have c:=congrArg List.length h.k;rw [nq] at c;have:=nr b.pts;simp only [List.length_cons,List.length_append] at c;omega
 obtain ⟨f,c⟩:=h.word;obtain ⟨g,d⟩:=AtK.marks (p:=[]) hb a c.expect;refine ⟨?_,d⟩;show (⟨s.word.1,(PS.marks (s.toks.length+1) (s.word.2.expect 2 [123]) []).1⟩:BodyL)=b;rw [f,g];rfl
theorem jd {α:Type}{nm:α->List UInt8}{l:List α}(hd:∀ {i j:Nat}{a b:α},l[i]?=some a->l[j]?=some b->nm a=nm b->i=j) {i:Nat}{a:α}(c:l[i]?=some a):l.findIdx? (fun b=>nm b==nm a)=some i:=by
 obtain ⟨f,e⟩:=List.getElem?_eq_some_iff.1 c;rw [List.findIdx?_eq_some_iff_getElem];refine ⟨f,by rw [e];simp,fun j g=>?_⟩;intro h;have d:nm l[j]=nm a:=by simpa using h
 have:=hd (List.getElem?_eq_getElem (by omega:j<l.length)) c d;omega
theorem AtK.named {s:PS}{K:List (Nat × List UInt8)}{L:ag}{nm:List UInt8}{i:Nat}{only:Int}(h:AtK s ((0,nm)::K) L) (b:js L.bodies nm=some i) (d:only<0\/only=(i:Int)):(s.named only).1=(i:Int)/\AtK (s.named only).2 K L:=by
 obtain ⟨c,a⟩:=h.word;unfold PS.named;simp only;rw [if_neg (by rw [a.x];simp),c,a.l,b];show (i:Int)=(i:Int)/\AtK (if 0<=only/\(i:Int)≠only then s.word.2.fail 7 else s.word.2) K L;rw [if_neg (by rcases d with h | h;omega;rw [h];simp)];exact ⟨rfl,a⟩
theorem AtK.full {s:PS}{K:List (Nat × List UInt8)}{L:ag}{i j:Nat}{b:BodyL}{m:MarkL}{only:Int}(hb:L.bodies[i]?=some b) (c:b.pts[j]?=some m) (h:AtK s (nh L.bodies (i:Nat) (j:Nat)++K) L) (d:js L.bodies b.name=some i) (o:mV b.pts m.name=some j) (g:only<0\/only=(i:Int)):(s.full only).1=(i:Int)/\(s.full only).2.1=(j:Int)/\AtK (s.full only).2.2 K L:=by
 rw [uS hb c] at h;obtain ⟨f,k⟩:=AtK.named (K:=(2,[46])::(0,m.name)::K) h d g;obtain ⟨p,a⟩:=k.expect.word;unfold PS.full;simp only;rw [if_neg (by rw [a.x];simp),f,p,a.l,lU (n:=i) rfl hb,o];exact ⟨rfl,rfl,a⟩
theorem AtK.addJ {s:PS}{K:List (Nat × List UInt8)}{L:ag}(h:AtK s K L) (j:aD):AtK (s.addJ j) K { L with joints:=L.joints++[j] }:=⟨h.x,h.k,by
 show ({ s.L with joints:=s.L.joints++[j] }:ag)=_
 rw [h.l]⟩
theorem AtK.joint {s:PS}{K:List (Nat × List UInt8)}{L:ag}(hB:∀ b∈L.bodies,BdF b) (hd:∀ {i j:Nat}{a b:BodyL},L.bodies[i]?=some a->L.bodies[j]?=some b->a.name=b.name->i=j) {j:aD}(r:lS L.bodies j) (h:AtK s (fH L.bodies j++K) L):AtK s.item K { L with joints:=L.joints++[j] }:=by
 obtain ⟨_,a,b,p,o,x,y,m1,R,l,f,k,g,v,q,c,d,X⟩:=r;have bx:=hB x (List.mem_of_getElem? v);have n:=hB y (List.mem_of_getElem? q);have Q:js L.bodies x.name=some a:=jd (nm:=BodyL.name) hd v;have I:js L.bodies y.name=some b:=jd (nm:=BodyL.name) hd q;have P:mV x.pts m1.name=some p:=jd (nm:=MarkL.name) bx.dist c;have M:mV y.pts R.name=some o:=jd (nm:=MarkL.name) n.dist d;unfold fH at h;rcases X with ⟨N,O⟩ | ⟨u,t,T,E,m⟩
 ·rw [if_neg (by omega),if_neg (by omega),l,f,k,g] at h
  simp only [List.cons_append,List.append_assoc,List.nil_append] at h;obtain ⟨w,B⟩:=h.word;obtain ⟨G,C⟩:=B.word;obtain ⟨D,H,A⟩:=AtK.full (only:=-1) v c C Q P (.inl (by decide));obtain ⟨J,z,F⟩:=AtK.full (only:=-1) q d A I M (.inl (by decide));unfold PS.item;simp only;rw [w,if_neg (by decide),if_pos rfl];unfold PS.joint;simp only [Bool.false_eq_true,if_false]
  have r:(⟨j.name,0,(a:Int),(p:Int),(b:Int),(o:Int),0⟩:aD)=j:=by
   obtain ⟨Z,jk,V,U,jb,S,jt⟩:=j;simp only at l f k g N O;subst l f k g N O;rfl
  rw [G,D,H,J,z,r];exact F.expect.addJ j
 have g3:mV y.pts T.name=some t:=jd (nm:=MarkL.name) n.dist m;rw [if_pos u,if_pos u,l,f,k,g,E] at h;simp only [List.cons_append,List.append_assoc,List.nil_append] at h;obtain ⟨w,B⟩:=h.word;obtain ⟨G,C⟩:=B.word;obtain ⟨D,H,A⟩:=AtK.full (only:=-1) v c C Q P (.inl (by decide));obtain ⟨J,z,F⟩:=AtK.full (only:=-1) q d A I M (.inl (by decide));obtain ⟨e6,W,Y⟩:=AtK.full (only:=(b:Int)) q m F I g3 (.inr rfl);unfold PS.item;simp only;rw [w,if_neg (by decide),if_neg (by decide),if_pos rfl];unfold PS.joint;simp only [if_true]
 have r:(⟨j.name,1,(a:Int),(p:Int),(b:Int),(o:Int),(t:Int)⟩:aD)=j:=by
  obtain ⟨Z,jk,V,U,jb,S,jt⟩:=j;simp only at l f k g u E;subst l f k g u E;rfl
 rw [J,G,D,H,z,W,r];exact Y.expect.addJ j
theorem AtK.driver {s:PS}{K:List (Nat × List UInt8)}{L:ag}(hd:∀ {i j:Nat}{a b:BodyL},L.bodies[i]?=some a->L.bodies[j]?=some b->a.name=b.name->i=j) {d:aE}(r:j7 L.bodies d) (h:AtK s (dM L.bodies d++K) L):AtK s.item K { L with drivers:=L.drivers++[d] }:=by
 obtain ⟨_,i,b,f,hb⟩:=r;have p:js L.bodies b.name=some i:=jd (nm:=BodyL.name) hd hb;unfold dM at h;rw [f,pR hb] at h;simp only [List.cons_append,List.nil_append] at h;obtain ⟨g,m⟩:=h.word;obtain ⟨q,n⟩:=m.word;obtain ⟨o,c⟩:=AtK.named (only:=-1) n p (.inl (by decide));unfold PS.item;simp only;rw [g,if_neg (by decide),if_neg (by decide),if_neg (by decide),if_pos rfl];unfold PS.driver;simp only;refine ⟨c.expect.x,c.expect.k,?_⟩;show ({ (PS.expect _ 2 [59]).L with drivers:=_ }:ag)=_;rw [c.expect.l,q,o];obtain ⟨t,u⟩:=d;simp only at f;subst f;rfl
theorem AtK.bodyI {s:PS}{K:List (Nat × List UInt8)}{L:ag}{b:BodyL}(hb:∀ m∈b.pts,MkN m/\MkF m/\MkW m) (h:AtK s (fg b++K) L):AtK s.item K { L with bodies:=L.bodies++[b] }:=by
 unfold fg at h;simp only [List.cons_append,List.append_assoc,List.nil_append] at h;obtain ⟨c,f⟩:=h.word;obtain ⟨d,a⟩:=AtK.body f hb;unfold PS.item;simp only;rw [c,if_pos rfl];refine ⟨a.x,a.k,?_⟩;show ({ s.word.2.body.2.L with bodies:=_ }:ag)=_;rw [a.l,d]
def fI (s:PS) (L:ag):Prop:=∀ f,s.toks.length<f->(PS.items f s).x=0/\(PS.items f s).L=L
theorem fI.nil {s:PS}{L:ag}(h:AtK s [] L):fI s L:=fun f _=>by
 have e:s.toks=[]:=List.eq_nil_of_length_eq_zero (by have:=congrArg List.length h.k;rw [nq] at this;simpa using this);rw [oW (by rw [e];simp)];exact ⟨h.x,h.l⟩
theorem fI.step {s:PS}{p:Nat × List UInt8}{K c:List (Nat × List UInt8)}{M b L:ag}(h:AtK s (p::K) M) (a:AtK s.item c b) (k:fI s.item L):fI s L:=fun f d=>by
 obtain ⟨u,r,e,_,_,_⟩:=AtK.head (k:=p.1) (t:=p.2) h;have g:=(rU s).2 a.x;rw [mY (by omega) ⟨h.x,by rw [e];simp⟩];exact k _ (by omega)
theorem fI.list {α:Type}{g:α->List (Nat × List UInt8)}(add:ag->α->ag) (P:ag->Prop) {K:List (Nat × List UInt8)}{L:ag}:∀ (l:List α) (s:PS) (M:ag),(∀ a∈l,∃ p q,g a=p::q)->(∀ a∈l,∀ s K M,P M->AtK s (g a++K) M->AtK s.item K (add M a)/\P (add M a))->P M->(∀ s,AtK s K (l.foldl add M)->P (l.foldl add M)->fI s L)->AtK s (l.flatMap g++K) M->fI s L
 | [],s,M,_,_,hp,hk,h=>hk s h hp
 | a::l,s,M,hne,hs,hp,hk,h=>by
  rw [List.flatMap_cons,List.append_assoc] at h;obtain ⟨c,d⟩:=hs a (by simp) s _ M hp h;obtain ⟨p,q,e⟩:=hne a (by simp);rw [e,List.cons_append] at h;exact fI.step h c (fI.list add P l s.item (add M a) (fun x b=>hne x (by simp [b])) (fun x b=>hs x (by simp [b])) d hk c)
theorem zW (l:List BodyL):∀ M:ag,l.foldl (fun M b=>{ M with bodies:=M.bodies++[b] }) M={ M with bodies:=M.bodies++l }:=by
 induction l with
 | nil=>intro M;simp
 | cons a l ih=>intro M;rw [List.foldl_cons,ih];simp
theorem zX (l:List aD):∀ M:ag,l.foldl (fun M b=>{ M with joints:=M.joints++[b] }) M={ M with joints:=M.joints++l }:=by
 induction l with
 | nil=>intro M;simp
 | cons a l ih=>intro M;rw [List.foldl_cons,ih];simp
theorem zY (l:List aE):∀ M:ag,l.foldl (fun M b=>{ M with drivers:=M.drivers++[b] }) M={ M with drivers:=M.drivers++l }:=by
 induction l with
 | nil=>intro M;simp
 | cons a l ih=>intro M;rw [List.foldl_cons,ih];simp
theorem wQ {l:List Tkn}{L:ag}(r:kt l=fh L) (c:LkF L) (w:LkW L) (f:fm L.bodies≠true):(cE l).x=0/\(cE l).L=L:=by
 have hN:=ni f;have q:AtK (⟨l,L0,0⟩:PS) (fh L) L0:=⟨rfl,r,rfl⟩;unfold fh at q;obtain ⟨y,i⟩:=q.expect.word;unfold cE;simp only
 have v:AtK ({ (((⟨l,L0,0⟩:PS).expect 0 aP).word.2) with L:={ (((⟨l,L0,0⟩:PS).expect 0 aP).word.2).L with name:=(((⟨l,L0,0⟩:PS).expect 0 aP).word.1) } }:PS) ((2,[59])::(L.bodies.flatMap fg++(L.joints.flatMap (fH L.bodies)++L.drivers.flatMap (dM L.bodies)))) ⟨L.name,[],[],[]⟩:=⟨i.x,i.k,by
  show ({ (((⟨l,L0,0⟩:PS).expect 0 aP).word.2).L with name:=(((⟨l,L0,0⟩:PS).expect 0 aP).word.1) }:ag)=_
  rw [i.l,y];rfl⟩
 have n:=v.expect
 have t:(({ (((⟨l,L0,0⟩:PS).expect 0 aP).word.2) with L:={ (((⟨l,L0,0⟩:PS).expect 0 aP).word.2).L with name:=(((⟨l,L0,0⟩:PS).expect 0 aP).word.1) } }:PS).expect 2 [59]).toks.length<l.length+1:=by
  have u:=congrArg List.length n.k;have p:=congrArg List.length r;unfold fh at p;rw [nq] at u p;rw [u,p];simp only [List.length_cons];omega
 generalize ({ (((⟨l,L0,0⟩:PS).expect 0 aP).word.2) with L:={ (((⟨l,L0,0⟩:PS).expect 0 aP).word.2).L with name:=(((⟨l,L0,0⟩:PS).expect 0 aP).word.1) } }:PS).expect 2 [59]=s at n t ⊢
 have key:fI s L:=by
  refine fI.list (g:=fg) (fun M b=>{ M with bodies:=M.bodies++[b] }) (fun _=>True) L.bodies s _ (fun b _=>⟨_,_,rfl⟩) (fun b hb s K M _ h=>⟨AtK.bodyI (fun m o=>⟨hN b hb m o,(c.body b hb).pts m o,w b hb m o⟩) h,trivial⟩) trivial (fun s h _=>?_) n;rw [zW,List.nil_append] at h;refine fI.list (g:=fH L.bodies) (fun M b=>{ M with joints:=M.joints++[b] }) (fun M=>M.bodies=L.bodies) L.joints s ⟨L.name,L.bodies,[],[]⟩ (fun b _=>⟨_,_,rfl⟩) (fun j z s K M a h=>⟨?_,a⟩) rfl (fun s h a=>?_) h
  ·rw [<- a] at h
   exact AtK.joint (by rw [a];exact c.body) (by rw [a];exact c.dist) (by rw [a];exact c.ok.joint j z) h
  rw [zX,List.nil_append] at h;rw [<- List.append_nil (L.drivers.flatMap _)] at h;refine fI.list (g:=dM L.bodies) (fun M b=>{ M with drivers:=M.drivers++[b] }) (fun M=>M.bodies=L.bodies) L.drivers s ⟨L.name,L.bodies,L.joints,[]⟩ (fun b _=>⟨_,_,rfl⟩) (fun d hd s K M a h=>⟨?_,a⟩) rfl (fun s h _=>?_) h
  ·rw [<- a] at h
   exact AtK.driver (by rw [a];exact c.dist) (by rw [a];exact c.ok.driver d hd) h
  rw [zY,List.nil_append] at h;exact fI.nil h
 exact key _ t
def plT (t:Tkn):Tkn:=⟨t.kind,t.text,0,0⟩
def PS.st (s:PS):PS:={ s with toks:=s.toks.map plT }
structure D0 where
  a:Nat
  s:Nat
  T:TypeId
  Z:Array Value
  PS:Array Value->World->Prop
structure Cg where
  g:Nat
  s:Nat
  o:Nat
  T:TypeId
  Z:Array Value
  PS:Array Value->World->Prop
def FZ (ops:Array Oper) (fr:(Nat->Value)->Act) (R:Nat->Value->World->Prop) (es:List D0) (ow:List Cg) (B:Nat) (W:World) (L:Array Bool) (a:Act) (w:World):Prop :=
  ∃ x,a=fr x/\(Below B W w/\Below B W w)/\(∀ i,L.getD i false=true->R i (x i) w) /\
  (∀ i o,ops[i]?=some o->L.getD i false=true->∀ e∈o.after,Region.binds .any e=true->L.getD e.on false=true) /\
  (∀ f∈es,L.getD f.a false=true->∃ g c,x f.a=.pointer (some ⟨g,0,none⟩)/\W.heap.size<=g/\Blk w g f.T c/\(L.getD f.s false=false->c=f.Z)/\(L.getD f.s false=true->f.PS c w)) /\
  (∀ f∈es,∀ f'∈es,f.a≠f'.a->L.getD f.a false=true->L.getD f'.a false=true->x f.a≠x f'.a) /\
  (∀ f∈ow,∃ c,Blk w f.g f.T c/\(L.getD f.s false=false->c=f.Z)/\(L.getD f.s false=true->f.PS c w))

section
variable (P:Program) (ops:Array Oper) (Q:Exit->Act->World->Prop) (fr:(Nat->Value)->Act) (R:Nat->Value->World->Prop) (es:List D0) (ow:List Cg) (B:Nat) (W:World)
def zZ (i:Nat) (o:Oper):Prop:=(∀ f∈es,i≠f.a/\i≠f.s)/\(∀ f∈ow,i≠f.s) /\
  ∀ x w,Below B W w->(∀ f∈ow,(∀ o',ops[f.s]?=some o'->∃ e∈o'.after,Region.binds .any e=true/\e.on=i)->Blk w f.g f.T f.Z)->(∀ e∈o.after,Region.binds .any e=true->R e.on (x e.on) w)->∀ K':Act->World->Prop,Shut (∀ v w',R i v w'->Below w.heap.size w w'->K' ((fr x).put o.dst v) w') ->
    if Region.wanted o (yielded ops (fr x).tmps)=true then Oper.wp P o (fr x) w K' Q else K' ((fr x).put o.dst undef) w
def tK (i:Nat) (o:Oper):Prop:=∃ f∈es,i=f.a/\(∀ f'∈es,i≠f'.s)/\(∀ f'∈ow,i≠f'.s)/\(∀ f'∈es,f'.a=i->f'=f)/\(∀ v w,R i v w) /\
  ∀ x w,∀ K':Act->World->Prop,Shut (K' ((fr x).put o.dst (.pointer (some ⟨w.heap.size,0,none⟩))) (w.alloc (.cells f.Z f.T))) ->
    if Region.wanted o (yielded ops (fr x).tmps)=true then Oper.wp P o (fr x) w K' Q else K' ((fr x).put o.dst undef) w
def tL (i:Nat) (o:Oper):Prop:=∃ f∈es,i=f.s/\(∀ f'∈es,i≠f'.a)/\(∀ f'∈ow,i≠f'.s)/\(∀ f'∈es,f'.s=i->f'=f)/\(∀ f'∈es,f'.a=f.a->f'=f)/\True/\(∀ v w,R i v w)/\(∃ e∈o.after,Region.binds .any e=true/\e.on=f.a) /\
  ∀ x w g,x f.a=.pointer (some ⟨g,0,none⟩)->Blk w g f.T f.Z->(∀ e∈o.after,Region.binds .any e=true->R e.on (x e.on) w) ->
    ∃ us,(∀ w',Below B w w'->f.PS (Bp f.Z 0 us) w')/\∀ K':Act->World->Prop,Shut (∀ v,K' ((fr x).put o.dst v) (dF w g 0 us)) ->
      if Region.wanted o (yielded ops (fr x).tmps)=true then Oper.wp P o (fr x) w K' Q else K' ((fr x).put o.dst undef) w
def Ad (i:Nat) (o:Oper):Prop:=∃ f∈ow,i=f.s/\(∀ f'∈es,i≠f'.a/\i≠f'.s)/\(∀ f'∈ow,f'.s=i->f'=f)/\True/\(∀ v w,R i v w) /\
  ∀ x w,Blk w f.g f.T f.Z->(∀ e∈o.after,Region.binds .any e=true->R e.on (x e.on) w) ->
    ∃ us,(∀ w',Below B w w'->f.PS (Bp f.Z f.o us) w')/\∀ K':Act->World->Prop,Shut (∀ v,K' ((fr x).put o.dst v) (dF w f.g f.o us)) ->
      if Region.wanted o (yielded ops (fr x).tmps)=true then Oper.wp P o (fr x) w K' Q else K' ((fr x).put o.dst undef) w
end
section
variable {P:Program}{ops:Array Oper}{Q:Exit->Act->World->Prop}{fr:(Nat->Value)->Act}{R:Nat->Value->World->Prop}{es:List D0}{ow:List Cg}{B:Nat}
theorem nX {id:Nat}{w:World}{x0:Nat->Value}(hm:P.follows .mixedOrders=true)
 (U:∀ i o,ops[i]?=some o->∀ x v,(fr x).put o.dst v=fr (upd x i v))
 (bY:∀ i o,ops[i]?=some o->∀ e∈o.after,Region.binds .any e=true->e.on<i)
 (hR:∀ i v w q,R i v w->Below B w q->R i v q)
 (a0:∀ f∈es,∀ c w q,f.PS c w->Below B w q->f.PS c q)
 (bk:∀ f∈ow,∀ c w q,f.PS c w->Below B w q->f.PS c q)
 (ac:∀ f∈es,f.a<ops.size/\f.s<ops.size)
 (hB:B<=w.heap.size)
 (hO:∀ f∈ow,Blk w f.g f.T f.Z/\B<=f.g)
 (bw:∀ f∈ow,∀ l∈ow,f.g=l.g->f=l)
 (ad:∀ i o,ops[i]?=some o->zZ P ops Q fr R es ow B w i o\/tK P ops Q fr R es ow i o\/tL P ops Q fr R es ow B i o\/Ad P ops Q fr R es ow B i o)
 (bg:∀ x q,Below B w q->Below B w q->w.heap.size<=q.heap.size->(∀ f∈ow,∃ c,Blk q f.g f.T c/\(ops.size<=f.s->c=f.Z)/\(f.s<ops.size->f.PS c q))->(∀ i,i<ops.size->R i (x i) q)->(∀ f∈es,∃ g c,x f.a=.pointer (some ⟨g,0,none⟩)/\w.heap.size<=g/\Blk q g f.T c/\f.PS c q)->(∀ f∈es,∀ l∈es,f.a≠l.a->x f.a≠x l.a)->Q .normal (fr x) q) :
 (Code.region id ops true).wp P Q (fr x0) w:=by
 refine wp_region_any hm (fO (fun L a q=>w.heap.size<=q.heap.size/\FZ ops fr R es ow B w L a q) ?_ ?_ _ _ _ _ (by simp) ?_ ?_)
 ·rintro L a p i hs hi ⟨D,x,rfl,⟨N,hb⟩,hr,a2,hf,hd,Y⟩
  obtain ⟨a1,o,ho,al⟩:=mem_ready.1 hi
  have d:i<L.size:=by
   rcases Nat.lt_or_ge i L.size with h | h
   ·exact h
   rw [Array.getD_eq_getD_getElem?,Array.getElem?_eq_none h] at a1;cases a1
  have G:L.getD i false=false:=by
   rw [Array.getD_eq_getD_getElem?,Array.getElem?_eq_getElem d] at a1 ⊢;exact a1
  have an:∀ e∈o.after,Region.binds .any e=true->R e.on (x e.on) p:=fun e he C=>hr _ (al e he C)
  have O:∀ i' o',ops[i']?=some o'->(L.setIfInBounds i true).getD i' false=true->∀ e∈o'.after,Region.binds .any e=true->(L.setIfInBounds i true).getD e.on false=true:=by
   intro i' o' H hl e he C;rw [av d] at hl ⊢;by_cases h:i'=i
   ·subst h;rw [ho] at H;injection H with H;subst H
    rw [al e he C];simp
   have:L.getD i' false=true:=by simpa [h] using hl
   rw [a2 i' o' H this e he C];simp
  refine wpOp_step ho fun K' hK=>?_
  have a9:∀ f∈ow,(∀ o',ops[f.s]?=some o'->∃ e∈o'.after,Region.binds .any e=true/\e.on=i)->Blk p f.g f.T f.Z:=by
   intro f n bu;obtain ⟨c,c1,c2,_⟩:=Y f n
   have:L.getD f.s false=false:=by
    cases h:L.getD f.s false
    ·rfl
    exfalso
    have a4:f.s<ops.size:=by
     rcases Nat.lt_or_ge f.s L.size with y | y
     ·omega
     rw [Array.getD_eq_getD_getElem?,Array.getElem?_eq_none y] at h;cases h
    obtain ⟨e,he,C,ao⟩:=bu _ (Array.getElem?_eq_getElem a4);have:=a2 f.s _ (Array.getElem?_eq_getElem a4) h e he C;rw [ao,G] at this;cases this
   rw [<- c2 this];exact c1
  have aS:∀ q,Below B p q->(∀ g t c,Blk p g t c->(∃ f∈ow,f.g=g)->Blk q g t c)->(∀ f∈ow,i≠f.s)->∀ f∈ow,∃ c,Blk q f.g f.T c/\((L.setIfInBounds i true).getD f.s false=false->c=f.Z)/\((L.setIfInBounds i true).getD f.s false=true->f.PS c q):=by
   intro q m bv A f n;obtain ⟨c,c1,c2,c3⟩:=Y f n;have I:=A f n;refine ⟨c,bv _ _ _ c1 ⟨f,n,rfl⟩,fun h=>c2 ?_,fun h=>bk f n _ _ _ (c3 ?_) m⟩
   ·rw [av d] at h;simpa [Ne.symm I] using h
   rw [av d] at h;simpa [Ne.symm I] using h
  rcases ad i o ho with ⟨W,F,hv⟩ | ⟨f,r,rfl,a3,F,E,ab,hv⟩ | ⟨f,r,rfl,bd,F,E,aT,hT,ab,⟨e,he,C,ao⟩,hv⟩ | ⟨f,r,rfl,a5,E,hT,ab,hv⟩
  ·refine hv x p N a9 an K' (fun v q bz aC=>hK _ _ ?_)
   have m:Below B p q:=(aC.mono (Nat.le_trans hB D));refine ⟨Nat.le_trans D aC.size,upd x i v,U i o ho x v,⟨N.trans m,hb.trans (aC.mono (Nat.le_trans hB D))⟩,fun j hj=>?_,O,fun f b z=>?_,fun f b l k A S y=>?_,aS q m (fun g t c h _=>h.below aC h.lt) F⟩
   ·by_cases h:j=i
    ·subst h;rw [dR];exact bz
    rw [bD _ _ h];rw [av d] at hj;exact hR _ _ _ _ (hr j (by simpa [h] using hj)) m
   ·rw [av d] at z
    have n1:=(W f b).1;have I:=(W f b).2;rw [bD _ _ (Ne.symm n1)];obtain ⟨g,c,e1,X,e3,e4,e5⟩:=hf f b (by simpa [Ne.symm n1] using z);refine ⟨g,c,e1,X,e3.below aC e3.lt,fun h=>e4 ?_,fun h=>a0 f b _ _ _ (e5 ?_) m⟩
    ·rw [av d] at h;simpa [Ne.symm I] using h
    rw [av d] at h;simpa [Ne.symm I] using h
   rw [av d] at S y;have n1:=(W f b).1;have I:=(W l k).1;rw [bD _ _ (Ne.symm n1),bD _ _ (Ne.symm I)];exact hd f b l k A (by simpa [Ne.symm n1] using S) (by simpa [Ne.symm I] using y)
  ·refine hv x p K' (hK _ _ ?_)
   have m:Below B p (p.alloc (.cells f.Z f.T)):=((Below.refl B p).alloc (Nat.le_trans hB D) _)
   have br:L.getD f.s false=false:=by
    cases h:L.getD f.s false
    ·rfl
    exfalso;obtain ⟨o',H⟩:∃ o',ops[f.s]?=some o':=⟨_,Array.getElem?_eq_getElem (ac f r).2⟩;rcases ad f.s o' H with ⟨W,_⟩ | ⟨f2,bf,X,a7,_⟩ | ⟨f2,bf,X,_,_,bn,_,_,_,⟨e,he,C,ao⟩,_⟩ | ⟨f2,bf,X,bl,_⟩
    ·exact (W f r).2 rfl
    ·exact a7 f r rfl
    ·have:=bn f r rfl
     subst this;have:=a2 f.s o' H h e he C;rw [ao] at this;rw [this] at G;cases G
    exact (bl f r).2 rfl
   refine ⟨by simp;omega,upd x f.a _,U f.a o ho x _,⟨N.alloc (Nat.le_trans hB D) _,hb.alloc (Nat.le_trans hB D) _⟩,fun j hj=>?_,O,fun l b z=>?_,fun f1 b f2 k A S y=>?_,aS _ m (fun g t c h _=>h.alloc _) F⟩
   ·by_cases h:j=f.a
    ·subst h;exact ab _ _
    rw [bD _ _ h];rw [av d] at hj;exact hR _ _ _ _ (hr j (by simpa [h] using hj)) m
   ·by_cases h:l.a=f.a
    ·have:=E l b h
     subst this;rw [dR];refine ⟨_,_,rfl,D,Blk.new _ _ _,fun _=>rfl,fun h'=>?_⟩;rw [av d,br] at h';have:l.s=l.a:=by simpa using h'
     exact absurd this.symm (a3 l b)
    rw [bD _ _ h];rw [av d] at z;have I:=a3 l b;obtain ⟨g,c,e1,X,e3,e4,e5⟩:=hf l b (by simpa [h] using z);refine ⟨g,c,e1,X,e3.alloc _,fun h=>e4 ?_,fun h=>a0 l b _ _ _ (e5 ?_) m⟩
    ·rw [av d] at h;simpa [Ne.symm I] using h
    rw [av d] at h;simpa [Ne.symm I] using h
   rw [av d] at S y
   have fresh:∀ f3∈es,f3.a≠f.a->L.getD f3.a false=true->x f3.a≠.pointer (some ⟨p.heap.size,0,none⟩):=by
    intro f3 h3 b1 bs M;obtain ⟨g,c,e1,X,e3,_⟩:=hf f3 h3 bs;rw [e1] at M;have hg:=e3.lt;injection M with M;injection M with M;injection M with M;omega
   by_cases c1:f1.a=f.a
   ·have c2:f2.a≠f.a:=fun h=>A (c1.trans h.symm)
    rw [c1,dR,bD _ _ c2];exact (fresh f2 k c2 (by simpa [c2] using y)).symm
   rw [bD _ _ c1];by_cases c2:f2.a=f.a
   ·rw [c2,dR];exact fresh f1 b c1 (by simpa [c1] using S)
   rw [bD _ _ c2];exact hd f1 b f2 k A (by simpa [c1] using S) (by simpa [c2] using y)
  ·have bb:L.getD f.a false=true:=by rw [<- ao];exact al e he C
   obtain ⟨g,c,e1,X,e3,e4,e5⟩:=hf f r bb;have hc:=e4 G;subst hc;obtain ⟨J,a8,hv⟩:=hv x p g e1 e3 an;refine hv K' (fun v=>hK _ _ ?_);have m:Below B p (dF p g 0 J):=dG (Nat.le_trans hB X) J 0 p (Below.refl _ _);have K:∀ f3∈es,f3.a≠f.s:=fun f3 h3 h=>bd f3 h3 h.symm
   refine ⟨Nat.le_trans D (Nat.le_of_eq (jP J 0 p).symm),upd x f.s v,U f.s o ho x v,⟨N.trans m,dG (Nat.le_trans hB X) J 0 p hb⟩,fun j hj=>?_,O,fun l b z=>?_,fun f1 b f2 k A S y=>?_,aS _ m (fun g2 t c h hex=>fl (by obtain ⟨f2,y,rfl⟩:=hex;have:=(hO f2 y).1.lt;omega) J 0 p h) F⟩
   ·by_cases h:j=f.s
    ·subst h;exact ab _ _
    rw [bD _ _ h];rw [av d] at hj;exact hR _ _ _ _ (hr j (by simpa [h] using hj)) m
   ·rw [bD _ _ (K l b)]
    rw [av d] at z;by_cases h:l.a=f.a
    ·have:=aT l b h
     subst this;refine ⟨g,_,e1,X,ly J 0 p _ e3,fun h'=>?_,fun _=>a8 _ m⟩;rw [av d] at h';simp at h'
    have I:l.s≠f.s:=fun y=>h (by rw [E l b y])
    obtain ⟨g',c',d1,d2,d3,d4,d5⟩:=hf l b (by simpa [K l b] using z)
    have a6:g'≠g:=by
     rintro rfl;exact hd l b f r h (by simpa [K l b] using z) bb (d1.trans e1.symm)
    refine ⟨g',c',d1,d2,fl a6 J 0 p d3,fun h=>d4 ?_,fun h=>a0 l b _ _ _ (d5 ?_) m⟩
    ·rw [av d] at h;simpa [I] using h
    rw [av d] at h;simpa [I] using h
   rw [av d] at S y;rw [bD _ _ (K f1 b),bD _ _ (K f2 k)];exact hd f1 b f2 k A (by simpa [K f1 b] using S) (by simpa [K f2 k] using y)
  obtain ⟨c,c1,c2,_⟩:=Y f r;have hc:=c2 G;subst hc;obtain ⟨J,a8,hv⟩:=hv x p c1 an;refine hv K' (fun v=>hK _ _ ?_);have m:Below B p (dF p f.g f.o J):=dG (hO f r).2 J f.o p (Below.refl _ _);have V:∀ f3∈es,f3.a≠f.s:=fun f3 h3 h=>(a5 f3 h3).1 h.symm
  have b0:∀ f3∈es,f3.s≠f.s:=fun f3 h3 h=>(a5 f3 h3).2 h.symm
  have b2:=(hO f r).1.lt;refine ⟨Nat.le_trans D (Nat.le_of_eq (jP J f.o p).symm),upd x f.s v,U f.s o ho x v,⟨N.trans m,dG (hO f r).2 J f.o p hb⟩,fun j hj=>?_,O,fun l b z=>?_,fun f1 b f2 k A S y=>?_,fun l n=>?_⟩
  ·by_cases h:j=f.s
   ·subst h;exact ab _ _
   rw [bD _ _ h];rw [av d] at hj;exact hR _ _ _ _ (hr j (by simpa [h] using hj)) m
  ·rw [bD _ _ (V l b)]
   rw [av d] at z;have I:=b0 l b;obtain ⟨g',c',d1,d2,d3,d4,d5⟩:=hf l b (by simpa [V l b] using z);refine ⟨g',c',d1,d2,fl (by omega) J f.o p d3,fun h=>d4 ?_,fun h=>a0 l b _ _ _ (d5 ?_) m⟩
   ·rw [av d] at h;simpa [I] using h
   rw [av d] at h;simpa [I] using h
  ·rw [av d] at S y
   rw [bD _ _ (V f1 b),bD _ _ (V f2 k)];exact hd f1 b f2 k A (by simpa [V f1 b] using S) (by simpa [V f2 k] using y)
  by_cases h:l.s=f.s
  ·have:=E l n h
   subst this;refine ⟨_,ly J l.o p _ c1,fun h'=>?_,fun _=>a8 _ m⟩;rw [av d] at h';simp at h'
  obtain ⟨c',d3,d4,d5⟩:=Y l n;have a6:l.g≠f.g:=fun y=>h (by rw [bw l n f r y])
  refine ⟨c',fl a6 J f.o p d3,fun y=>d4 ?_,fun y=>bk l n _ _ _ (d5 ?_) m⟩
  ·rw [av d] at y;simpa [h] using y
  rw [av d] at y;simpa [h] using y
 ·rintro L a p hs bx ⟨D,x,rfl,⟨N,hb⟩,hr,a2,hf,hd,Y⟩
  have u:∀ i,i<ops.size->L.getD i false=true:=by
   intro i
   induction i using Nat.strongRecOn with
   | ind i ih =>
    intro hi;cases h:L.getD i false
    ·exfalso
     have:i∈Region.ready .any ops L:=by
      refine mem_ready.2 ⟨?_,ops[i],Array.getElem?_eq_getElem hi,fun e he C=>?_⟩
      ·rw [Array.getD_eq_getD_getElem?,Array.getElem?_eq_getElem (by omega)] at h ⊢;exact h
      have S:=bY i _ (Array.getElem?_eq_getElem hi) e he C;exact ih e.on S (by omega)
     rw [bx] at this;cases this
    rfl
  refine bg x p N hb D (fun f n=>?_) (fun i hi=>hr i (u i hi)) (fun f b=>?_) (fun f b l k A=>hd f b l k A (u _ (ac f b).1) (u _ (ac l k).1))
  ·obtain ⟨c,c1,c2,c3⟩:=Y f n
   refine ⟨c,c1,fun h=>c2 ?_,fun h=>c3 (u _ h)⟩;rw [Array.getD_eq_getD_getElem?,Array.getElem?_eq_none (by omega)];rfl
  obtain ⟨g,c,e1,X,e3,_,e5⟩:=hf f b (u _ (ac f b).1);exact ⟨g,c,e1,X,e3,e5 (u _ (ac f b).2)⟩
 ·simp
 ·have hz:∀ j,(Array.replicate ops.size false).getD j false=false:=by
   intro j;rw [Array.getD_eq_getD_getElem?,Array.getElem?_replicate];split <;> rfl
  refine ⟨Qr,x0,rfl,⟨(Below.refl B w).drew,(Below.refl B w).drew⟩,fun i h=>?_,fun i o _ h=>?_,fun f _ h=>?_,fun f _ l _ _ h=>?_,fun f n=>⟨_,(hO f n).1.drew,fun _=>rfl,fun h=>?_⟩⟩ <;> rw [hz] at h <;> cases h
end

theorem Ae {ow:List Cg}(h:ow.Pairwise (fun f c=>f.g≠c.g)):∀ f∈ow,∀ c∈ow,f.g=c.g->f=c:=by
 induction ow with
 | nil=>intro f j;cases j
 | cons a l ih =>
  obtain ⟨m,n⟩:=List.pairwise_cons.1 h;intro f j c d k;rcases List.mem_cons.1 j with i | i
  ·rcases List.mem_cons.1 d with b | b
   ·rw [i,b]
   exact absurd (i ▸ k) (m _ b)
  rcases List.mem_cons.1 d with b | b
  ·exact absurd (b ▸ k).symm (m _ i)
  exact ih n f i c b k
def uT (B:Nat):List (Value->World->Prop)->Prop
  | []=>True
  | p::l=>(∀ v w w',p v w->Below B w w'->p v w')/\uT B l
theorem uT.get {B:Nat}:∀ (l:List (Value->World->Prop)),uT B l->∀ i v w a,l.getD i (fun _ _=>True) v w->Below B w a->l.getD i (fun _ _=>True) v a:=by
 intro l
 induction l with
 | nil=>intro _ i v w a _ _;simp
 | cons p l ih =>
  intro h i v w a b c
  cases i with
  | zero=>exact h.1 v w a b c
  | succ i=>exact ih h.2 i v w a b c
theorem bEq {B:Nat}(u:Value):∀ v w w',PEq u v w->Below B w w'->PEq u v w':=fun _ _ _ h _=>h
theorem Ch {B:Nat}:∀ v w w',fi v w->Below B w w'->fi v w':=fun _ _ _ h _=>h
end Go.Proofs.YtndhgcfajlalhaaGreatDoor

/- Plain laws of fractions: order, roots, grids. -/
namespace Bn
theorem D8 {l a:List Nat}(c:l.length=a.length) (h:∀ i,i<l.length->wd l i=wd a i):l=a:=by
 refine List.ext_getElem c fun i b d=>?_
 have:=h i b;rw [ma b,ma d] at this;exact this
theorem Fj {l a:List Nat}(d:l.length=a.length) (h:l≠a):∃ i,i<l.length/\wd l i≠wd a i:=by
 apply Classical.byContradiction;intro b;apply h;refine D8 d fun i c=>?_
 apply Classical.byContradiction;intro e;exact b ⟨i,c,e⟩
end Bn
