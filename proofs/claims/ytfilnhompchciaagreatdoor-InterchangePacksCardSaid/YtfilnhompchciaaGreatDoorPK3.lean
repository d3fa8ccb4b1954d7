/- Part PK3: lemmas and walks that the claim rests on. No claim is made here. -/
import Derived.BigQuiet
import Derived.Deep.RegionHeld3
import Derived.Deep.DrawnRows
import Derived.Deep.DeepCutAuto
import Derived.Lib.IndexMore
import Derived.Deep.AppendLies
import Derived.Deep.Slices
import Derived.SizedLaws
import Derived.Shelf.Strings.Builder1
import Derived.Test.YtfilnhompchciaaGreatDoorPK2
set_option linter.unusedVariables false
set_option maxHeartbeats 8000000
set_option maxRecDepth 100000
/- Tokens of joined texts, blanks and comments between them: plain. -/
namespace Bn
def tk (r:List UInt8) (line col:Nat):jI:=dD (r.length+1) r line col
theorem sD (line col:Nat):tk [] line col=.ok []:=rfl
theorem l7 (t:List UInt8) (line col:Nat):tk (10 :: t) line col=tk t (line+1) 1:=by
 unfold tk;rw [List.length_cons]
 conv=>lhs;unfold dD
 rw [if_pos rfl]
theorem nf {c:UInt8}(h:fw c=true):c≠10:=by
 rintro rfl;exact absurd h (by decide)
theorem kw {c:UInt8}(h:fw c=true) (t:List UInt8) (line col:Nat):tk (c :: t) line col=tk t line (col+1):=by
 unfold tk;rw [List.length_cons]
 conv=>lhs;unfold dD
 rw [if_neg (nf h),if_pos h]
theorem sE (t:List UInt8) (line col:Nat):tk (37 :: t) line col=tk ((37 :: t).drop (iE (37 :: t))) line (col+iE (37 :: t)):=by
 have h1:=gR (t:=t);have h2:=jJ (37 :: t);unfold tk
 conv=>lhs;rw [List.length_cons];unfold dD
 rw [if_neg (by decide),if_neg (by decide),if_pos rfl];simp only [List.length_cons] at h2;refine jg _ _ _ _ _ ?_ ?_ <;> rw [List.length_drop,List.length_cons] <;> omega
theorem kx {c:UInt8}{t:List UInt8}{k n:Nat}(h:cR (c :: t)=.ok k n):c≠10∧fw c=false∧c≠37:=by
 have key:∀ c:UInt8,rC c=false→cD c=false→bZ c=false→c≠45→∀ t k n,cR (c :: t)≠.ok k n:=by
  intro c h1 h2 h3 h4 t k n h;have hw:bL (c :: t)=0:=by rw [bL,h2];rfl
  have hm:cd (c :: t)=0:=by
   unfold cd;split
   ·rename_i h5;injection h5 with h5 _;exact absurd h5 h4
   rfl
  have hn:eB (c :: t)=0:=by
   unfold eB;rw [hm,List.drop_zero,if_pos (by unfold dn;rw [List.takeWhile_cons,h3];rfl)]
  unfold cR at h;simp [h1,hw,hn] at h
 refine ⟨?_,?_,?_⟩
 ·rintro rfl;exact key 10 (by decide) (by decide) (by decide) (by decide) t k n h
 ·cases hb:fw c
  ·rfl
  exfalso;unfold fw at hb;simp only [Bool.or_eq_true,beq_iff_eq] at hb;rcases hb with (e | e) | e <;> subst e
  ·exact key 32 (by decide) (by decide) (by decide) (by decide) t k n h
  ·exact key 9 (by decide) (by decide) (by decide) (by decide) t k n h
  exact key 13 (by decide) (by decide) (by decide) (by decide) t k n h
 rintro rfl;exact key 37 (by decide) (by decide) (by decide) (by decide) t k n h
theorem sF {c:UInt8}{t:List UInt8}{k n:Nat}(h:cR (c :: t)=.ok k n) (line col:Nat) :
 tk (c :: t) line col=(tk ((c :: t).drop n) line (col+n)).push ⟨k,(c :: t).take n,line,col⟩:=by
 obtain ⟨h1,h2,h3⟩:=kx h;have h4:=fM h;unfold tk
 conv=>lhs;rw [List.length_cons];unfold dD
 rw [if_neg h1,if_neg (by rw [h2];simp),if_neg h3,h];simp only [List.length_cons] at h4;dsimp only;rw [jg (t.length+1) (((c :: t).drop n).length+1) _ _ _ (by rw [List.length_drop,List.length_cons];omega) (by omega)]
theorem sG {c:UInt8}{t:List UInt8}{x:Nat}(h:cR (c :: t)=.err x) (h1:c≠10) (h2:fw c=false) (h3:c≠37) (line col:Nat):tk (c :: t) line col=.err x:=by
 unfold tk;rw [List.length_cons];unfold dD;rw [if_neg h1,if_neg (by rw [h2];simp),if_neg h3,h]
def ky (s:List UInt8):Prop:=∀ rest line col,∃ line' col',tk (s ++ rest) line col=tk rest line' col'
theorem ky.nil:ky []:=fun _ line col=>⟨line,col,rfl⟩
theorem ky.line {s:List UInt8}(h:ky s):ky (10 :: s):=fun rest line col=>by
 obtain ⟨a,b,e⟩:=h rest (line+1) 1;exact ⟨a,b,by rw [List.cons_append,l7,e]⟩
theorem ky.blank {c:UInt8}{s:List UInt8}(hc:fw c=true) (h:ky s):ky (c :: s):=fun rest line col=>by
 obtain ⟨a,b,e⟩:=h rest line (col+1);exact ⟨a,b,by rw [List.cons_append,kw hc,e]⟩
def shape:jI→Option (List (Nat × List UInt8))
  | .ok l=>some (l.map fun t=>(t.kind,t.text))
  | .err _=>none
end Bn

/- Every token stands at its place: plain. -/
namespace Bn
def kz (line col:Nat) (t:Tkn):Prop:=line < t.line∨(line=t.line∧col≤t.col)
theorem kz.mono {line col col':Nat}{t:Tkn}(h:kz line col' t) (hc:col≤col'):kz line col t:=by
 rcases h with h | ⟨h,h1⟩
 ·exact .inl h
 exact .inr ⟨h,Nat.le_trans hc h1⟩
theorem eN:∀ (f:Nat) (r:List UInt8) (line col:Nat) (l:List Tkn),dD f r line col=.ok l→∀ t∈l,kz line col t:=by
 intro f
 induction f with
 | zero=>intro r line col l h t ht;unfold dD at h;injection h with h;subst h;cases ht
 | succ f ih =>
  intro r line col l h t ht
  cases r with
  | nil=>unfold dD at h;injection h with h;subst h;cases ht
  | cons c s =>
   unfold dD at h;split at h
   ·rcases ih _ _ _ _ h t ht with e | ⟨e,_⟩
    ·exact .inl (by omega)
    exact .inl (by omega)
   split at h
   ·exact (ih _ _ _ _ h t ht).mono (by omega)
   split at h
   ·exact (ih _ _ _ _ h t ht).mono (by omega)
   split at h
   ·cases h
   rename_i k n hf
   cases hx:dD f ((c :: s).drop n) line (col+n) with
   | err x=>rw [hx] at h;cases h
   | ok l' =>
    rw [hx] at h;injection h with h;subst h;rcases List.mem_cons.1 ht with e | e
    ·subst e;exact .inr ⟨rfl,Qr⟩
    exact (ih _ _ _ _ hx t e).mono (by omega)
def PlI (s:List UInt8) (l:List Tkn) (i line col k left:Nat):Prop:=k≤l.length∧∃ u rest,s.drop i=u ++ rest∧10 ∉ u∧tk rest line (col+u.length)=.ok (l.drop k)∧(left=u.length∨left=0)
theorem PlI.start {s:List UInt8}{l:List Tkn}(h:jK s=.ok l):PlI s l 0 1 1 0 0:=⟨Nat.zero_le _,[],s,rfl,by simp,h,.inr rfl⟩
theorem PlI.fin {s:List UInt8}{l:List Tkn}{line col k left:Nat}(h:PlI s l s.length line col k left):k=l.length:=by
 obtain ⟨hk,u,rest,h1,_,h2,_⟩:=h;rw [List.drop_length] at h1;have h3:=List.append_eq_nil_iff.1 h1.symm;rw [h3.2,sD] at h2;injection h2 with h2;have:=congrArg List.length h2;rw [List.length_drop] at this;simp at this;omega
def jh (l:List Tkn) (line col k left:Nat):Bool:=decide (left=0) && (match l[k]? with | some t=>decide (t.line=line) && decide (t.col=col) | none=>false)
def dp (c:UInt8) (line:Nat):Nat:=if c=10 then line+1 else line
def eh (c:UInt8) (col:Nat):Nat:=if c=10 then 1 else col+1
theorem gV {l:List Tkn}{line col k left:Nat}{line' col':Nat}(h:∀ t∈l.drop k,kz line' col' t) (hp:line < line'∨(line=line'∧col < col')):jh l line col k left=false:=by
 unfold jh
 cases hk:l[k]? with
 | none=>simp
 | some t =>
  have hm:t∈l.drop k:=by
   obtain ⟨h1,h2⟩:=List.getElem?_eq_some_iff.1 hk;rw [List.drop_eq_getElem_cons h1,h2];simp
  have:=h t hm
  have h3:¬ (t.line=line∧t.col=col):=by
   rintro ⟨a,b⟩;rcases this with e | ⟨e,e2⟩ <;> rcases hp with g | ⟨g,g2⟩ <;> omega
  simp only [Bool.and_eq_false_iff,decide_eq_false_iff_not];right;by_cases ha:t.line=line
  ·right;exact fun hb=>h3 ⟨ha,hb⟩
  left;exact ha
theorem PlI.inner {s:List UInt8}{l:List Tkn}{i line col k left:Nat}{c:UInt8}{t u rest:List UInt8}(hk:k≤l.length) (hd:s.drop i=c :: t) (h1:s.drop i=u ++ rest) (hu:10 ∉ u) (h2:tk rest line (col+u.length)=.ok (l.drop k)) (h3:left=u.length∨left=0) (hne:u≠[]) :
 jh l line col k left=false∧PlI s l (i+1) (dp c line) (eh c col) k (left - 1):=by
 obtain ⟨x,u',rfl⟩:=List.exists_cons_of_ne_nil hne;have hx:x=c∧t=u' ++ rest:=by rw [hd] at h1;injection h1 with a b;exact ⟨a.symm,b⟩
 obtain ⟨rfl,ht⟩:=hx;have hx10:x≠10:=fun e=>hu (by rw [e];simp)
 rw [List.length_cons] at h2 h3;have hd1:s.drop (i+1)=t:=by rw [← List.drop_drop,hd];rfl
 refine ⟨gV (eN _ _ _ _ _ h2) (.inr ⟨rfl,by omega⟩),hk,u',rest,by rw [hd1,ht],fun h=>hu (by simp [h]),?_,by omega⟩;unfold dp eh;rw [if_neg hx10,if_neg hx10,show col+1+u'.length=col+(u'.length+1) by omega];exact h2
theorem PlI.step {s:List UInt8}{l:List Tkn}{i line col k left:Nat}(h:PlI s l i line col k left) {c:UInt8}{t:List UInt8}(hd:s.drop i=c :: t) :
 (jh l line col k left=false∧PlI s l (i+1) (dp c line) (eh c col) k (left - 1)) ∨
 (jh l line col k left=true∧∃ x,l[k]?=some x∧0 < x.text.length∧i+x.text.length≤s.length∧(s.drop i).take x.text.length=x.text∧PlI s l (i+1) (dp c line) (eh c col) (k+1) (x.text.length - 1)):=by
 obtain ⟨hk,u,rest,h1,hu,h2,h3⟩:=h;by_cases hne:u=[]
 ·subst hne
  rw [List.nil_append] at h1;rw [List.length_nil,Nat.add_zero] at h2;have hl0:left=0:=by rcases h3 with e | e <;> simpa using e
  subst hl0;have hd1:s.drop (i+1)=t:=by rw [← List.drop_drop,hd];rfl
  have hr:rest=c :: t:=by rw [← h1,hd]
  subst hr;by_cases h10:c=10
  ·subst h10
   rw [l7] at h2;left;refine ⟨gV (eN _ _ _ _ _ h2) (.inl (by omega)),hk,[],t,by rw [hd1];rfl,by simp,?_,.inr rfl⟩;exact h2
  by_cases hb:fw c=true
  ·rw [kw hb] at h2
   left;refine ⟨gV (eN _ _ _ _ _ h2) (.inr ⟨rfl,by omega⟩),hk,[],t,by rw [hd1];rfl,by simp,?_,.inr rfl⟩;unfold dp eh;rw [if_neg h10,if_neg h10];exact h2
  by_cases h37:c=37
  ·subst h37
   rw [sE] at h2;left;have hp:=gR (t:=t);have hle:=jJ (37 :: t);have hlen:((37 :: t).take (iE (37 :: t))).length=iE (37 :: t):=by rw [List.length_take];omega
   refine PlI.inner hk hd (h1.trans (List.take_append_drop _ _).symm) ?_ (by rw [hlen];exact h2) (.inr rfl) (fun e=>by rw [e] at hlen;simp at hlen;omega);intro hm
   have:(37 :: t).take (iE (37 :: t))=(37 :: t).takeWhile (fun c=>c != 10):=by
    obtain ⟨d,e,_⟩:=fx (fun c=>c != 10) (37 :: t);exact (congrArg (List.take _) e).trans List.take_left
   rw [this] at hm;have h4:=gU (p:=fun c=>c != 10) (37 :: t);rw [List.all_eq_true] at h4;exact absurd (h4 10 hm) (by decide)
  cases hf:cR (c :: t) with
  | err x=>rw [sG hf h10 (by simpa using hb) h37] at h2;cases h2
  | ok kk n =>
   rw [sF hf] at h2;have hn:=fM hf
   cases hx:tk ((c :: t).drop n) line (col+n) with
   | err x=>rw [hx] at h2;cases h2
   | ok l' =>
    rw [hx] at h2;injection h2 with h2
    have hkl:k < l.length:=by
     rcases Nat.lt_or_ge k l.length with e | e
     ·exact e
     rw [List.drop_eq_nil_of_le e] at h2;cases h2
    rw [List.drop_eq_getElem_cons hkl] at h2;injection h2 with h4 h5;have hlt:((c :: t).take n).length=n:=by rw [List.length_take];omega
    right;have hg:l[k]?=some ⟨kk,(c :: t).take n,line,col⟩:=by rw [List.getElem?_eq_getElem hkl,h4]
    have hlen:i+n≤s.length:=by
     have:=congrArg List.length hd;rw [List.length_drop] at this;have h7:(c :: t).length≤s.length - i:=by omega
     have h8:0 < (c :: t).length:=by simp
     omega
    refine ⟨?_,⟨kk,(c :: t).take n,line,col⟩,hg,by dsimp only;omega,by dsimp only;omega,by dsimp only;rw [hlt,hd],?_⟩
    ·unfold jh;rw [hg];simp
    dsimp only;rw [hlt];obtain ⟨m,rfl⟩:∃ m,n=m+1:=⟨n - 1,by omega⟩;have hno:=lw hf;rw [List.take_succ_cons] at hno;refine ⟨by omega,t.take m,t.drop m,by rw [hd1,List.take_append_drop],fun h=>hno (by simp [h]),?_,.inl ?_⟩
    ·unfold dp eh
     rw [if_neg h10,if_neg h10];have hm:(t.take m).length=m:=by rw [List.length_take];simp at hn;omega
     rw [hm,← h5];rw [List.drop_succ_cons] at hx;rw [show col+1+m=col+(m+1) by omega];exact hx
    rw [List.length_take];simp at hn;omega
 exact .inl (PlI.inner hk hd h1 hu h2 h3 hne)
end Bn

/- Walks: tokens: what a byte is. -/
namespace Go.Proofs.YtfilnhompchciaaGreatDoor
open Go Go.RowKit Bn
attribute [local go_sem ↓] Go.wp_at_zero Go.wp_at_succ
theorem ji (c:UInt8):cD c=((decide (97≤c.toNat) && decide (c.toNat≤122)) || (decide (65≤c.toNat) && decide (c.toNat≤90))):=rfl
theorem kA (c:UInt8):bZ c=(decide (48≤c.toNat) && decide (c.toNat≤57)):=rfl
theorem dq (w:World) (c:UInt8) (v:Bool) (hv:cD c=v):Calls Tryz.prog 110 #[.int .u8 (c.toNat:Nat)] w (ax w (.bool v)):=by
 have hc:c.toNat < 256:=c.toNat_lt;obtain ⟨n,hn⟩:∃ n,c.toNat=n:=⟨_,rfl⟩;rw [hn] at hc ⊢;have hd:v=((decide (97≤n) && decide (n≤122)) || (decide (65≤n) && decide (n≤90))):=by rw [← hv,ji,hn]
 clear hv;rcases (show (0≤n∧n≤64)∨(65≤n∧n≤90)∨(91≤n∧n≤96)∨(97≤n∧n≤122)∨(123≤n∧n≤255) by omega) with ⟨ha,hb⟩ | ⟨ha,hb⟩ | ⟨ha,hb⟩ | ⟨ha,hb⟩ | ⟨ha,hb⟩
 ·have ege97:((97:Int)≤(n:Int))=False:=by simp;omega
  have ele122:((n:Int)≤122)=True:=by simp;omega
  have ege65:((65:Int)≤(n:Int))=False:=by simp;omega
  have ele90:((n:Int)≤90)=True:=by simp;omega
  obtain rfl:v=false:=by rw [hd];simp;omega
  clear hd hn;go_in;go_wp2;go_ret;exact bA rfl (ae w)
 ·have ege97:((97:Int)≤(n:Int))=False:=by simp;omega
  have ele122:((n:Int)≤122)=True:=by simp;omega
  have ege65:((65:Int)≤(n:Int))=True:=by simp;omega
  have ele90:((n:Int)≤90)=True:=by simp;omega
  obtain rfl:v=true:=by rw [hd];simp;omega
  clear hd hn;go_in;go_wp2;go_ret;exact bA rfl (ae w)
 ·have ege97:((97:Int)≤(n:Int))=False:=by simp;omega
  have ele122:((n:Int)≤122)=True:=by simp;omega
  have ege65:((65:Int)≤(n:Int))=True:=by simp;omega
  have ele90:((n:Int)≤90)=False:=by simp;omega
  obtain rfl:v=false:=by rw [hd];simp;omega
  clear hd hn;go_in;go_wp2;go_ret;exact bA rfl (ae w)
 ·have ege97:((97:Int)≤(n:Int))=True:=by simp;omega
  have ele122:((n:Int)≤122)=True:=by simp;omega
  have ege65:((65:Int)≤(n:Int))=True:=by simp;omega
  have ele90:((n:Int)≤90)=False:=by simp;omega
  obtain rfl:v=true:=by rw [hd];simp;omega
  clear hd hn;go_in;go_wp2;go_ret;exact bA rfl (ae w)
 have ege97:((97:Int)≤(n:Int))=True:=by simp;omega
 have ele122:((n:Int)≤122)=False:=by simp;omega
 have ege65:((65:Int)≤(n:Int))=True:=by simp;omega
 have ele90:((n:Int)≤90)=False:=by simp;omega
 obtain rfl:v=false:=by rw [hd];simp;omega
 clear hd hn;go_in;go_wp2;go_ret;exact bA rfl (ae w)
theorem dt (w:World) (c:UInt8) (v:Bool) (hv:cD c=v):Calls Tryz.prog 117 #[.int .u8 (c.toNat:Nat)] w (ax w (.bool v)):=by
 have hc:c.toNat < 256:=c.toNat_lt;obtain ⟨n,hn⟩:∃ n,c.toNat=n:=⟨_,rfl⟩;rw [hn] at hc ⊢;have hd:v=((decide (97≤n) && decide (n≤122)) || (decide (65≤n) && decide (n≤90))):=by rw [← hv,ji,hn]
 clear hv;rcases (show (0≤n∧n≤64)∨(65≤n∧n≤90)∨(91≤n∧n≤96)∨(97≤n∧n≤122)∨(123≤n∧n≤255) by omega) with ⟨ha,hb⟩ | ⟨ha,hb⟩ | ⟨ha,hb⟩ | ⟨ha,hb⟩ | ⟨ha,hb⟩
 ·have ege97:((97:Int)≤(n:Int))=False:=by simp;omega
  have ele122:((n:Int)≤122)=True:=by simp;omega
  have ege65:((65:Int)≤(n:Int))=False:=by simp;omega
  have ele90:((n:Int)≤90)=True:=by simp;omega
  obtain rfl:v=false:=by rw [hd];simp;omega
  clear hd hn;go_in;go_wp2;go_ret;exact bA rfl (ae w)
 ·have ege97:((97:Int)≤(n:Int))=False:=by simp;omega
  have ele122:((n:Int)≤122)=True:=by simp;omega
  have ege65:((65:Int)≤(n:Int))=True:=by simp;omega
  have ele90:((n:Int)≤90)=True:=by simp;omega
  obtain rfl:v=true:=by rw [hd];simp;omega
  clear hd hn;go_in;go_wp2;go_ret;exact bA rfl (ae w)
 ·have ege97:((97:Int)≤(n:Int))=False:=by simp;omega
  have ele122:((n:Int)≤122)=True:=by simp;omega
  have ege65:((65:Int)≤(n:Int))=True:=by simp;omega
  have ele90:((n:Int)≤90)=False:=by simp;omega
  obtain rfl:v=false:=by rw [hd];simp;omega
  clear hd hn;go_in;go_wp2;go_ret;exact bA rfl (ae w)
 ·have ege97:((97:Int)≤(n:Int))=True:=by simp;omega
  have ele122:((n:Int)≤122)=True:=by simp;omega
  have ege65:((65:Int)≤(n:Int))=True:=by simp;omega
  have ele90:((n:Int)≤90)=False:=by simp;omega
  obtain rfl:v=true:=by rw [hd];simp;omega
  clear hd hn;go_in;go_wp2;go_ret;exact bA rfl (ae w)
 have ege97:((97:Int)≤(n:Int))=True:=by simp;omega
 have ele122:((n:Int)≤122)=False:=by simp;omega
 have ege65:((65:Int)≤(n:Int))=True:=by simp;omega
 have ele90:((n:Int)≤90)=False:=by simp;omega
 obtain rfl:v=false:=by rw [hd];simp;omega
 clear hd hn;go_in;go_wp2;go_ret;exact bA rfl (ae w)
theorem jM (w:World) (c:UInt8) (v:Bool) (hv:bZ c=v):Calls Tryz.prog 187 #[.int .u8 (c.toNat:Nat)] w (ax w (.bool v)):=by
 have hc:c.toNat < 256:=c.toNat_lt;obtain ⟨n,hn⟩:∃ n,c.toNat=n:=⟨_,rfl⟩;rw [hn] at hc ⊢;have hd:v=(decide (48≤n) && decide (n≤57)):=by rw [← hv,kA,hn]
 clear hv;rcases (show (0≤n∧n≤47)∨(48≤n∧n≤57)∨(58≤n∧n≤255) by omega) with ⟨ha,hb⟩ | ⟨ha,hb⟩ | ⟨ha,hb⟩
 ·have ege48:((48:Int)≤(n:Int))=False:=by simp;omega
  have ele57:((n:Int)≤57)=True:=by simp;omega
  obtain rfl:v=false:=by rw [hd];simp;omega
  clear hd hn;go_in;go_wp2;go_ret;exact bA rfl (ae w)
 ·have ege48:((48:Int)≤(n:Int))=True:=by simp;omega
  have ele57:((n:Int)≤57)=True:=by simp;omega
  obtain rfl:v=true:=by rw [hd];simp;omega
  clear hd hn;go_in;go_wp2;go_ret;exact bA rfl (ae w)
 have ege48:((48:Int)≤(n:Int))=True:=by simp;omega
 have ele57:((n:Int)≤57)=False:=by simp;omega
 obtain rfl:v=false:=by rw [hd];simp;omega
 clear hd hn;go_in;go_wp2;go_ret;exact bA rfl (ae w)
theorem jN (w:World) (c:UInt8) (v:Bool) (hv:bZ c=v):Calls Tryz.prog 134 #[.int .u8 (c.toNat:Nat)] w (ax w (.bool v)):=by
 have hc:c.toNat < 256:=c.toNat_lt;obtain ⟨n,hn⟩:∃ n,c.toNat=n:=⟨_,rfl⟩;rw [hn] at hc ⊢;have hd:v=(decide (48≤n) && decide (n≤57)):=by rw [← hv,kA,hn]
 clear hv;rcases (show (0≤n∧n≤47)∨(48≤n∧n≤57)∨(58≤n∧n≤255) by omega) with ⟨ha,hb⟩ | ⟨ha,hb⟩ | ⟨ha,hb⟩
 ·have ege48:((48:Int)≤(n:Int))=False:=by simp;omega
  have ele57:((n:Int)≤57)=True:=by simp;omega
  obtain rfl:v=false:=by rw [hd];simp;omega
  clear hd hn;go_in;go_wp2;go_ret;exact bA rfl (ae w)
 ·have ege48:((48:Int)≤(n:Int))=True:=by simp;omega
  have ele57:((n:Int)≤57)=True:=by simp;omega
  obtain rfl:v=true:=by rw [hd];simp;omega
  clear hd hn;go_in;go_wp2;go_ret;exact bA rfl (ae w)
 have ege48:((48:Int)≤(n:Int))=True:=by simp;omega
 have ele57:((n:Int)≤57)=False:=by simp;omega
 obtain rfl:v=false:=by rw [hd];simp;omega
 clear hd hn;go_in;go_wp2;go_ret;exact bA rfl (ae w)
def atB (s:List UInt8) (i:Nat):UInt8:=s.getD i 0
theorem jO {s:List UInt8}{i:Nat}(h:i < s.length):atB s i=s[i]:=by unfold atB;rw [List.getD_eq_getElem?_getD,List.getElem?_eq_getElem h];rfl
theorem jP {s:List UInt8}{i:Nat}(h:s.length≤i):atB s i=0:=by unfold atB;rw [List.getD_eq_getElem?_getD,List.getElem?_eq_none h];rfl
theorem gn {s:List UInt8}{i:Nat}(h:i < s.length):s.drop i=atB s i :: s.drop (i+1):=by rw [jO h];exact List.drop_eq_getElem_cons h
theorem fy {p:UInt8→Bool}{s:List UInt8}{i:Nat}(hp:p 0=false) (h:p (atB s i)=true):i < s.length∧((s.drop i).takeWhile p).length=1+((s.drop (i+1)).takeWhile p).length:=by
 have hl:i < s.length:=by
  rcases Nat.lt_or_ge i s.length with x | x
  ·exact x
  rw [jP x,hp] at h;cases h
 refine ⟨hl,?_⟩;rw [gn hl,List.takeWhile_cons,if_pos h,List.length_cons];omega
theorem jQ {p:UInt8→Bool}{s:List UInt8}{i:Nat}(h:p (atB s i)=false):((s.drop i).takeWhile p).length=0:=by
 rcases Nat.lt_or_ge i s.length with x | x
 ·rw [gn x,List.takeWhile_cons,if_neg (by rw [h];decide)];rfl
 rw [List.drop_eq_nil_of_le x];rfl
theorem kB {s:List UInt8}{i:Nat}(h:cD (atB s i)=true):i < s.length∧bL (s.drop i)=1+((s.drop (i+1)).takeWhile aJ).length:=by
 have hl:i < s.length:=by
  rcases Nat.lt_or_ge i s.length with x | x
  ·exact x
  rw [jP x] at h;cases h
 refine ⟨hl,?_⟩;rw [gn hl,bL,if_pos h]
theorem kC {s:List UInt8}{i:Nat}(h:cD (atB s i)=false):bL (s.drop i)=0:=by
 rcases Nat.lt_or_ge i s.length with x | x
 ·rw [gn x,bL,if_neg (by rw [h];decide)]
 rw [List.drop_eq_nil_of_le x];rfl
theorem gW {c:UInt8}(h:cD c=true):aJ c=true:=by unfold aJ;rw [h];rfl
theorem kD {c:UInt8}(h:bZ c=true):aJ c=true:=by unfold aJ;rw [h,Bool.or_true];rfl
theorem kE {c:UInt8}(h:(c == 95)=true):aJ c=true:=by unfold aJ;rw [h,Bool.or_true]
theorem kF {c:UInt8}(h1:cD c=false) (h2:bZ c=false) (h3:(c == 95)=false):aJ c=false:=by unfold aJ;rw [h1,h2,h3];rfl
theorem gq (c d:UInt8):(((c.toNat:Nat):Int) == ((d.toNat:Nat):Int))=(c == d):=by
 by_cases h:c=d
 ·subst h;simp
 rw [beq_eq_false_iff_ne.2 h,beq_eq_false_iff_ne];intro e;exact h (UInt8.toNat.inj (by omega))
theorem pm (w:World) (c:UInt8) (v:Bool) (hv:aJ c=v):Calls Tryz.prog 148 #[.int .u8 (c.toNat:Nat)] w (ax w (.bool v)):=by
 cases hl:cD c
 ·cases hd:bZ c
  ·cases hu:(c == 95)
   ·obtain rfl:v=false:=by rw [← hv];exact kF hl hd hu
    have h95:(((c.toNat:Nat):Int) == 95)=false:=(gq c 95).trans hu;clear hv hu;go_in;go_wp2_with fail;(with_reducible refine (dq _ c false hl).mono ?_);rintro e w1 ⟨rfl,q1⟩;have bw1:=(ae w).trans (q1.mono (ae w).size);have lw1:=q1.size;clear q1;go_wp2_with fail;(with_reducible refine (jM _ c false hd).mono ?_);rintro e w2 ⟨rfl,q2⟩;have bw2:=bw1.trans (q2.mono bw1.size);have lw2:=q2.size;clear q2 bw1;go_wp2;go_ret;exact bA rfl bw2
   obtain rfl:v=true:=by rw [← hv];exact kE hu
   have h95:(((c.toNat:Nat):Int) == 95)=true:=(gq c 95).trans hu;clear hv hu;go_in;go_wp2_with fail;(with_reducible refine (dq _ c false hl).mono ?_);rintro e w1 ⟨rfl,q1⟩;have bw1:=(ae w).trans (q1.mono (ae w).size);have lw1:=q1.size;clear q1;go_wp2_with fail;(with_reducible refine (jM _ c false hd).mono ?_);rintro e w2 ⟨rfl,q2⟩;have bw2:=bw1.trans (q2.mono bw1.size);have lw2:=q2.size;clear q2 bw1;go_wp2;go_ret;exact bA rfl bw2
  obtain rfl:v=true:=by rw [← hv];exact kD hd
  clear hv;go_in;go_wp2_with fail;(with_reducible refine (dq _ c false hl).mono ?_);rintro e w1 ⟨rfl,q1⟩;have bw1:=(ae w).trans (q1.mono (ae w).size);have lw1:=q1.size;clear q1;go_wp2_with fail;(with_reducible refine (jM _ c true hd).mono ?_);rintro e w2 ⟨rfl,q2⟩;have bw2:=bw1.trans (q2.mono bw1.size);have lw2:=q2.size;clear q2 bw1;go_wp2;go_ret;exact bA rfl bw2
 obtain rfl:v=true:=by rw [← hv];exact gW hl
 clear hv;go_in;go_wp2_with fail;(with_reducible refine (dq _ c true hl).mono ?_);rintro e w1 ⟨rfl,q1⟩;have bw1:=(ae w).trans (q1.mono (ae w).size);have lw1:=q1.size;clear q1;go_wp2;go_ret;exact bA rfl bw1
theorem gX (w:World) (s:List UInt8) (i:Nat) (d:UInt8) (hd:atB s i=d):Calls Tryz.prog 116 #[ah s,.int .i64 (i:Nat)] w (ax w (.int .u8 (d.toNat:Nat))):=by
 have hszs:=ag s;rcases Nat.lt_or_ge i s.length with hl | hl
 ·have hget:∀ h,(⟨s.toArray⟩:ByteArray)[i]'h=d:=fun h=>by rw [← hd];exact (jO hl).symm
  have hlts:i < s.length:=hl;have hi0:(0:Int)≤((i:Nat):Int):=by omega
  have e1:((i:Int) < (s.length:Int))=True:=by simp;omega
  clear hd;go_in;go_wp2;go_ret;exact ⟨rfl,(ae w)⟩
 obtain rfl:d=0:=by rw [← hd];exact jP hl
 have e1:((i:Int) < (s.length:Int))=False:=by simp;omega
 clear hd;go_in;go_wp2;go_ret;exact ⟨rfl,(ae w)⟩
theorem ng (w:World) (s:List UInt8) (i:Nat) (hi:i≤s.length) (hs:s.length < 4611686018427387904) (v:Nat) (hv:i+bL (s.drop i)=v):Calls Tryz.prog 92 #[ah s,.int .i64 (i:Nat)] w (ax w (.int .i64 (v:Nat))):=by
 obtain ⟨d,hd⟩:∃ d,atB s i=d:=⟨_,rfl⟩;cases hl:cD d
 ·obtain rfl:i=v:=by rw [← hv,kC (by rw [hd];exact hl)];rfl
  clear hv;go_in;go_wp2_with fail;(with_reducible refine (gX _ (s) (i) d hd).mono ?_);rintro e w1 ⟨rfl,q1⟩;have bw1:=(ae w).trans (q1.mono (ae w).size);have lw1:=q1.size;clear q1;go_wp2_with fail;(with_reducible refine (dt _ d false hl).mono ?_);rintro e w2 ⟨rfl,q2⟩;have bw2:=bw1.trans (q2.mono bw1.size);have lw2:=q2.size;clear q2 bw1;go_wp2;go_ret;exact ⟨rfl,bw2⟩
 have hv:i+((s.drop i).takeWhile aJ).length=v:=by rw [← hv,(kB (by rw [hd];exact hl)).2,(fy (p:=aJ) rfl (by rw [hd];exact gW hl)).2]
 have HV:=Qh hv;clear hv;go_in;go_wp2_with fail;(with_reducible refine (gX _ (s) (i) d hd).mono ?_);rintro e w1 ⟨rfl,q1⟩;have bw1:=(ae w).trans (q1.mono (ae w).size);have lw1:=q1.size;clear q1;go_wp2_with fail;(with_reducible refine (dt _ d true hl).mono ?_);rintro e w2 ⟨rfl,q2⟩;have bw2:=bw1.trans (q2.mono bw1.size);have lw2:=q2.size;clear q2 bw1;go_wp2_with fail;clear hd hl;go_loopw [1] (fun iv wr=>∃ (j:Nat),iv=.int .i64 (j:Nat)∧j≤s.length∧Hid (j+((s.drop j).takeWhile aJ).length=v)∧Kp w2 wr∧Below w.heap.size w wr∧w2.heap.size≤wr.heap.size) (fun iv _=>s.length - (intOf iv).toNat)
 case atStart=>exact ⟨i,rfl,hi,HV,Kp.refl _,bw2,Qr⟩
 case round =>
  obtain ⟨j,rfl,hj,hw,hkp,hbw,hlw⟩:=hrel;obtain ⟨d,hd⟩:∃ d,atB s j=d:=⟨_,rfl⟩;cases hl:cD d
  ·cases hg:bZ d
   ·cases hu:(d == 95)
    ·have hjv:j=v:=by rw [← hw.out,jQ (p:=aJ) (by rw [hd];exact kF hl hg hu)];rfl
     subst hjv;have h95:(((d.toNat:Nat):Int) == 95)=false:=(gq d 95).trans hu;go_wp2_with fail;(with_reducible refine (gX _ (s) (j) d hd).mono ?_);rintro e w3 ⟨rfl,q3⟩;replace hkp:=hkp.below q3;have bw3:=hbw.trans (q3.mono hbw.size);have lw3:=q3.size;clear q3;go_wp2_with fail;(with_reducible refine (dt _ d false hl).mono ?_);rintro e w4 ⟨rfl,q4⟩;replace hkp:=hkp.below q4;have bw4:=bw3.trans (q4.mono bw3.size);have lw4:=q4.size;clear q4 bw3;go_wp2_with fail;(with_reducible refine (gX _ (s) (j) d hd).mono ?_);rintro e w5 ⟨rfl,q5⟩;replace hkp:=hkp.below q5;have bw5:=bw4.trans (q5.mono bw4.size);have lw5:=q5.size;clear q5 bw4;go_wp2_with fail;(with_reducible refine (jN _ d false hg).mono ?_);rintro e w6 ⟨rfl,q6⟩;replace hkp:=hkp.below q6;have bw6:=bw5.trans (q6.mono bw5.size);have lw6:=q6.size;clear q6 bw5;go_wp2_with fail;(with_reducible refine (gX _ (s) (j) d hd).mono ?_);rintro e w7 ⟨rfl,q7⟩;replace hkp:=hkp.below q7;have bw7:=bw6.trans (q7.mono bw6.size);have lw7:=q7.size;clear q7 bw6;go_wp2;go_ret;exact ⟨rfl,bw7⟩
    obtain ⟨hlt,hst⟩:=fy (p:=aJ) (s:=s) (i:=j) rfl (by rw [hd];exact kE hu);have hw2:Hid (j+1+((s.drop (j+1)).takeWhile aJ).length=v):=Qh (by rw [← hw.out,hst];omega);clear hst;have h95:(((d.toNat:Nat):Int) == 95)=true:=(gq d 95).trans hu;go_wp2_with fail;(with_reducible refine (gX _ (s) (j) d hd).mono ?_);rintro e w3 ⟨rfl,q3⟩;replace hkp:=hkp.below q3;have bw3:=hbw.trans (q3.mono hbw.size);have lw3:=q3.size;clear q3;go_wp2_with fail;(with_reducible refine (dt _ d false hl).mono ?_);rintro e w4 ⟨rfl,q4⟩;replace hkp:=hkp.below q4;have bw4:=bw3.trans (q4.mono bw3.size);have lw4:=q4.size;clear q4 bw3;go_wp2_with fail;(with_reducible refine (gX _ (s) (j) d hd).mono ?_);rintro e w5 ⟨rfl,q5⟩;replace hkp:=hkp.below q5;have bw5:=bw4.trans (q5.mono bw4.size);have lw5:=q5.size;clear q5 bw4;go_wp2_with fail;(with_reducible refine (jN _ d false hg).mono ?_);rintro e w6 ⟨rfl,q6⟩;replace hkp:=hkp.below q6;have bw6:=bw5.trans (q6.mono bw5.size);have lw6:=q6.size;clear q6 bw5;go_wp2_with fail;(with_reducible refine (gX _ (s) (j) d hd).mono ?_);rintro e w7 ⟨rfl,q7⟩;replace hkp:=hkp.below q7;have bw7:=bw6.trans (q7.mono bw6.size);have lw7:=q7.size;clear q7 bw6;go_wp2_with fail;go_roundw
    case rel=>exact ⟨j+1,by go_num,by omega,hw2,hkp,bw7,by omega⟩
    case measure=>simp [intOf];omega
   obtain ⟨hlt,hst⟩:=fy (p:=aJ) (s:=s) (i:=j) rfl (by rw [hd];exact kD hg);have hw2:Hid (j+1+((s.drop (j+1)).takeWhile aJ).length=v):=Qh (by rw [← hw.out,hst];omega);clear hst;go_wp2_with fail;(with_reducible refine (gX _ (s) (j) d hd).mono ?_);rintro e w3 ⟨rfl,q3⟩;replace hkp:=hkp.below q3;have bw3:=hbw.trans (q3.mono hbw.size);have lw3:=q3.size;clear q3;go_wp2_with fail;(with_reducible refine (dt _ d false hl).mono ?_);rintro e w4 ⟨rfl,q4⟩;replace hkp:=hkp.below q4;have bw4:=bw3.trans (q4.mono bw3.size);have lw4:=q4.size;clear q4 bw3;go_wp2_with fail;(with_reducible refine (gX _ (s) (j) d hd).mono ?_);rintro e w5 ⟨rfl,q5⟩;replace hkp:=hkp.below q5;have bw5:=bw4.trans (q5.mono bw4.size);have lw5:=q5.size;clear q5 bw4;go_wp2_with fail;(with_reducible refine (jN _ d true hg).mono ?_);rintro e w6 ⟨rfl,q6⟩;replace hkp:=hkp.below q6;have bw6:=bw5.trans (q6.mono bw5.size);have lw6:=q6.size;clear q6 bw5;go_wp2_with fail;go_roundw
   case rel=>exact ⟨j+1,by go_num,by omega,hw2,hkp,bw6,by omega⟩
   case measure=>simp [intOf];omega
  obtain ⟨hlt,hst⟩:=fy (p:=aJ) (s:=s) (i:=j) rfl (by rw [hd];exact gW hl);have hw2:Hid (j+1+((s.drop (j+1)).takeWhile aJ).length=v):=Qh (by rw [← hw.out,hst];omega);clear hst;go_wp2_with fail;(with_reducible refine (gX _ (s) (j) d hd).mono ?_);rintro e w3 ⟨rfl,q3⟩;replace hkp:=hkp.below q3;have bw3:=hbw.trans (q3.mono hbw.size);have lw3:=q3.size;clear q3;go_wp2_with fail;(with_reducible refine (dt _ d true hl).mono ?_);rintro e w4 ⟨rfl,q4⟩;replace hkp:=hkp.below q4;have bw4:=bw3.trans (q4.mono bw3.size);have lw4:=q4.size;clear q4 bw3;go_wp2_with fail;go_roundw
  case rel=>exact ⟨j+1,by go_num,by omega,hw2,hkp,bw4,by omega⟩
  case measure=>simp [intOf];omega
theorem jR (w:World) (s:List UInt8) (hs:s.length < 4611686018427387904) (v:Nat) (hv:bL s=v):Calls Tryz.prog 108 #[ah s] w (ax w (.int .i64 (v:Nat))):=by
 have hszs:=ag s;rcases Nat.eq_zero_or_pos s.length with h0 | h0
 ·obtain rfl:s=[]:=List.eq_nil_of_length_eq_zero h0
  obtain rfl:0=v:=hv;clear hs;go_in;go_wp2;go_ret;exact ⟨rfl,(ae w)⟩
 obtain ⟨y,ys,hyy⟩:∃ y ys,s=y :: ys:=List.exists_cons_of_length_pos h0;have hBe:((⟨s.toArray⟩:ByteArray) == ⟨#[]⟩)=false:=by rw [hyy];rfl
 have hBl:(s == [])=false:=by rw [hyy];rfl
 have hBn:(s=[])=False:=by rw [hyy];simp
 clear hyy;obtain ⟨d,hd⟩:∃ d,atB s 0=d:=⟨_,rfl⟩;have hget:∀ h,(⟨s.toArray⟩:ByteArray)[0]'h=d:=fun h=>by rw [← hd];exact (jO h0).symm
 have hi1:(0:Int) < (s.length:Int):=by omega
 cases hl:cD d
 ·obtain rfl:0=v:=by rw [← hv];exact (kC (s:=s) (i:=0) (by rw [hd];exact hl)).symm
  clear hd hv;go_in;go_wp2_with fail;(with_reducible refine (dq _ d false hl).mono ?_);rintro e w1 ⟨rfl,q1⟩;have bw1:=(ae w).trans (q1.mono (ae w).size);have lw1:=q1.size;clear q1;go_wp2;go_ret;exact ⟨rfl,bw1⟩
 have HV:Hid (1+((s.drop 1).takeWhile aJ).length=v):=Qh (by rw [← hv];exact ((kB (s:=s) (i:=0) (by rw [hd];exact hl)).2).symm);clear hv hd;go_in;go_wp2_with fail;(with_reducible refine (dq _ d true hl).mono ?_);rintro e w1 ⟨rfl,q1⟩;have bw1:=(ae w).trans (q1.mono (ae w).size);have lw1:=q1.size;clear q1;go_wp2_with fail;clear hget hl hi1 hBe hBl hBn;go_loopw [3] (fun iv wr=>∃ (j:Nat),iv=.int .i64 (j:Nat)∧j≤s.length∧Hid (j+((s.drop j).takeWhile aJ).length=v)∧Kp w1 wr∧Below w.heap.size w wr∧w1.heap.size≤wr.heap.size) (fun iv _=>s.length - (intOf iv).toNat)
 case atStart=>exact ⟨1,rfl,h0,HV,Kp.refl _,bw1,Qr⟩
 case round =>
  obtain ⟨j,rfl,hj,hw,hkp,hbw,hlw⟩:=hrel;rcases Nat.lt_or_ge j s.length with hl | hl
  ·obtain ⟨d,hd⟩:∃ d,atB s j=d:=⟨_,rfl⟩
   have hget:∀ h,(⟨s.toArray⟩:ByteArray)[j]'h=d:=fun h=>by rw [← hd];exact (jO hl).symm
   have hlt:j < s.length:=hl;cases hg:aJ d
   ·have hjv:j=v:=by rw [← hw.out,jQ (p:=aJ) (by rw [hd];exact hg)];rfl
    subst hjv;clear hd;go_wp2_with fail;(with_reducible refine (pm _ d false hg).mono ?_);rintro e w2 ⟨rfl,q2⟩;replace hkp:=hkp.below q2;have bw2:=hbw.trans (q2.mono hbw.size);have lw2:=q2.size;clear q2;go_wp2;go_ret;exact ⟨rfl,bw2⟩
   obtain ⟨_,hst⟩:=fy (p:=aJ) (s:=s) (i:=j) rfl (by rw [hd];exact hg);have hw2:Hid (j+1+((s.drop (j+1)).takeWhile aJ).length=v):=Qh (by rw [← hw.out,hst];omega);clear hst hd;go_wp2_with fail;(with_reducible refine (pm _ d true hg).mono ?_);rintro e w2 ⟨rfl,q2⟩;replace hkp:=hkp.below q2;have bw2:=hbw.trans (q2.mono hbw.size);have lw2:=q2.size;clear q2;go_wp2_with fail;go_roundw
   case rel=>exact ⟨j+1,by go_num,by omega,hw2,hkp,bw2,by omega⟩
   case measure=>simp [intOf];omega
  have hjv:j=v:=by rw [← hw.out,jQ (p:=aJ) (by rw [jP hl];rfl)];rfl
  subst hjv;have hi1:((j:Int) < (s.length:Int))=False:=by simp;omega
  go_wp2;go_ret;exact ⟨rfl,hbw⟩
theorem fY (w:World) (s:List UInt8) (x:Int) (i:Nat) (hx:x=((i:Nat):Int)) (hi:i≤s.length) (hs:s.length < 4611686018427387904) (y:Int) (hy:((i+bL (s.drop i):Nat):Int)=y):Calls Tryz.prog 92 #[ah s,.int .i64 x] w (ax w (.int .i64 y)):=by
 subst hx hy;exact ng w s i hi hs _ rfl

theorem val_rep (m:Nat):val (List.replicate m 0)=0:=by
 induction m with
 | zero=>rfl
 | succ m ih=>rw [List.replicate_succ,val,ih]
theorem l8 (m:Nat):Wds (List.replicate m 0):=by intro x hx;rw [List.eq_of_mem_replicate hx];omega
theorem kG (l:List Nat):(cellsOf l).toList=words l:=by simp [cellsOf,words]
theorem OwS.made (w:World) {B:Nat}(L:List Nat) (n:Nat) (hB:B≤w.heap.size) (hn:n≤4398046511104) (hL:L.length=n) (hW:Wds L):OwS (w.alloc (.cells (cellsOf L) 58)) B w.heap.size n n L:=by
 refine ⟨?_,hW⟩;rw [← kG];exact World.ownsRow_lit w (cellsOf L) n hB (by unfold maxLen;omega) (by simp [cellsOf,hL])
theorem OwS.far {w:World}{B g n cap:Nat}{l:List Nat}(h:OwS w B g n cap l) {p:Addr}(hp:g≠p.block) (u:Value):OwS (w.setCell p u) B g n cap l:=by
 refine ⟨⟨h.1.1,?_⟩,h.2⟩;rcases h.1.2 with ⟨e,_⟩ | ⟨g',c',cur,e,hB,hgg,r⟩
 ·cases e
 have e':=e;injection e with e1 _ e2;injection e1 with e1;injection e1 with e1;subst e1;exact .inr ⟨g,c',cur,e',hB,(Below.heap_setCell w p u g hp).trans hgg,r⟩
theorem qW {u p s:Nat}(hu:u+p < 4294967296) (ho:u ||| p=u+p) (hp:2 ^ s=p):bits .or .u32 (u:Int) ((2:Int) ^ s % 4294967296)=((u+p:Nat):Int):=by
 have e:(2:Int) ^ s % 4294967296=(p:Int):=by
  have h:(2:Int) ^ s=((2 ^ s:Nat):Int):=by simp
  rw [h,hp];omega
 rw [e,← ho];exact u32_or_nat u p (by omega) (by omega)
theorem up {q m:Nat}:(2 * q+1) * 2 ^ m=q * 2 ^ (m+1)+2 ^ m:=by rw [Nat.pow_succ];grind
theorem tH {q m:Nat}:(2 * q) * 2 ^ m=q * 2 ^ (m+1):=by rw [Nat.pow_succ];grind
def uq (a b:Nat) (Lq Lr:List Nat) (k:Nat):Prop:=val Lq=a / 2 ^ k / b * 2 ^ k∧val Lr=a / 2 ^ k % b
theorem lx (w:World) (A n c l) (wa:Wd w A n c l) (hn:n≤1000000000000) (A' n' c' l') (wb:Wd w A' n' c' l') (hn':n'≤1000000000000) (h0:val l'≠0) :
 Calls Tryz.prog 258 #[.slice A n c,.slice A' n' c'] w (mI w (val l) (val l')):=by
 have HL:=Qh wa.2.1;have HL':=Qh wb.2.1;obtain ⟨va,hva⟩:∃ v,val l=v:=⟨_,rfl⟩;obtain ⟨vb,hvb⟩:∃ v,val l'=v:=⟨_,rfl⟩;have HA:=Qh hva;have HB:=Qh hvb;rw [hvb] at h0;have H0:=Qh (Nat.pos_of_ne_zero h0);rw [hva,hvb]
 obtain ⟨gb,ob,rfl,hgb,_⟩:=wb.at2 (by
  rcases Nat.eq_zero_or_pos n' with e | e
  ·exfalso
   have h9:=HL'.out;rw [e] at h9;rw [List.eq_nil_of_length_eq_zero h9.symm] at hvb;exact h0 hvb.symm
  exact e)
 clear h0 hva hvb;go_in
 go_wp2_with (first
  | (at_make;refine aF _ rfl _ _ rfl _ _ _ _ n rfl rfl (by omega) (by omega) (by omega) ?_)
  | (at_make;refine aF _ rfl _ _ rfl _ _ _ _ (n'+1) rfl rfl (by omega) (by omega) (by omega) ?_))
 (with_reducible refine (oV _ A n c l ?_ (by omega)).mono ?_);(exact wa.keep (((Kp.refl w).alloc _).alloc _));rintro e w1 ⟨N,rfl,hN1,hN2,rfl⟩;rw [HA.out] at hN1;go_wp2_with fail
 have oq0:OwS ((w.alloc (.cells (cellsOf (List.replicate n 0)) 58)).alloc (.cells (cellsOf (List.replicate (n'+1) 0)) 58)) w.heap.size w.heap.size n n (List.replicate n 0) :=
  (OwS.made w (List.replicate n 0) n Qr (by omega) (by simp) (l8 n)).belw ((ae _).alloc Qr _)
 have or0:OwS ((w.alloc (.cells (cellsOf (List.replicate n 0)) 58)).alloc (.cells (cellsOf (List.replicate (n'+1) 0)) 58)) w.heap.size (w.heap.size+1) (n'+1) (n'+1) (List.replicate (n'+1) 0):=by
  have h:=OwS.made (w.alloc (.cells (cellsOf (List.replicate n 0)) 58)) (B:=w.heap.size) (List.replicate (n'+1) 0) (n'+1) (by simp) (by omega) (by simp) (l8 _);simpa using h
 have HO:=Qh (And.intro oq0 or0);clear oq0 or0;go_loopw [8] (fun iv wr=>∃ (k:Nat) (z:Int) (Lq Lr:List Nat),k≤N∧iv=.int .i64 z∧z+1=(k:Int)∧uq va vb Lq Lr k∧OwS wr w.heap.size w.heap.size n n Lq∧OwS wr w.heap.size (w.heap.size+1) (n'+1) (n'+1) Lr∧Below w.heap.size w wr) (fun iv _=>(intOf iv+1).toNat)
 case atStart =>
  refine ⟨N,(N:Int) - 1,_,_,Qr,by go_num,by omega,⟨?_,?_⟩,HO.out.1,HO.out.2,((ae w).alloc Qr _).alloc (by simp) _⟩
  ·rw [val_rep,Nat.div_eq_of_lt hN1];simp
  rw [val_rep,Nat.div_eq_of_lt hN1];simp
 case round =>
  obtain ⟨k,z,Lq,Lr,hk,rfl,hz,hI,hq,hr,hbel⟩:=hrel;have HK:=Qh ((Kp.refl w).below hbel);have HI:=Qh hI;have HQ:=Qh hq;have HR:=Qh hr;have HBL:=Qh hbel;clear hI hq hr hbel HO;by_cases hk0:k=0
  ·subst hk0
   have ez:z=-1:=by omega
   subst ez;go_wp2_with fail;(with_reducible refine (cA _ (some ⟨w.heap.size,0,none⟩) n n Lq ?_ (by omega)).mono ?_);(exact HQ.out.toWd);rintro e w1 ⟨A1,n1,c1,rfl,h1,hb1⟩;have HR2:=Qh (HR.out.belw hb1);have HBL2:=Qh (HBL.out.trans (hb1.mono HBL.out.size));clear hb1;go_wp2_with fail;(with_reducible refine (cA _ (some ⟨w.heap.size+1,0,none⟩) (n'+1) (n'+1) Lr ?_ (by omega)).mono ?_);(exact HR2.out.toWd);rintro e w2 ⟨A2,n2,c2,rfl,h2,hb2⟩;have h1':=h1.keep ((Kp.refl w1).below hb2);have HBL3:=HBL2.out.trans (hb2.mono HBL2.out.size);rw [HI.out.1] at h1';rw [HI.out.2] at h2;simp only [Nat.pow_zero,Nat.div_one,Nat.mul_one] at h1' h2;have HF:=Qh (And.intro h1' (And.intro h2 HBL3));clear h1 h1' h2 HBL3 hb2;go_wp2;refine bodyPost_ret (v:=.tuple #[.slice A1 n1 c1,.slice A2 n2 c2]) (by simp [results,Tryz.results258,go_sem]) rfl ?_;exact ⟨A1,n1,c1,A2,n2,c2,rfl,HF.out.1,HF.out.2.1,HF.out.2.2⟩
  obtain ⟨m,rfl⟩:∃ m,k=m+1:=⟨k - 1,by omega⟩;have ez:z=(m:Int):=by omega
  subst ez;have hm32:m / 32 < n:=by omega
  obtain ⟨ga,oa,rfl,hgl,hca⟩:=(wa.keep HK.out).at2 (by omega);have hcx:=hca (m / 32) hm32;obtain ⟨x,hx⟩:∃ x,wd l (m / 32)=x:=⟨_,rfl⟩;have hx1:x < 4294967296:=by rw [← hx];exact wa.lt _
  rw [hx] at hcx;have HX:=Qh hx;obtain ⟨br,hbr⟩:∃ d,bits .and .u32 ((x:Int) / 2 ^ (m % 32)) 1=d:=⟨_,rfl⟩;obtain ⟨b,hb⟩:∃ b,va / 2 ^ m % 2=b:=⟨_,rfl⟩
  have hbb:br=(b:Int):=by
   rw [← hbr,← hb,← HA.out,← si wa.1 m,hx];have e:(x:Int) / 2 ^ (m % 32)=((x / 2 ^ (m % 32):Nat):Int):=by simp
   rw [e,jC _ (Nat.lt_of_le_of_lt (Nat.div_le_self _ _) hx1)]
  have HB1:=Qh hb;have hb1:b≤1:=by omega
  clear hca hx hz hk0 hb;go_wp2_with fail
  try rw [hbb]
  clear hbr hbb;go_loopw [9,36] (fun cv kv w2=>∃ (k cr:Nat) (L2:List Nat),k≤n'+1∧kv=.int .i64 (k:Nat)∧cv=.int .u32 (cr:Nat)∧cr≤1∧iB Lr L2 b k cr∧OwS w2 w.heap.size w.heap.size n n Lq∧OwS w2 w.heap.size (w.heap.size+1) (n'+1) (n'+1) L2∧Below w.heap.size w w2) (fun _ kv _=>n'+1 - (intOf kv).toNat)
  case atStart=>exact ⟨0,b,Lr,Nat.zero_le _,rfl,rfl,hb1,iB.start _ _,HQ.out,HR.out,HBL.out⟩
  case round =>
   obtain ⟨k,cr,L2,hk2,rfl,rfl,hcr,hI2,hq2,hr2,hbel2⟩:=hrel;have HI2:=Qh hI2;have HQ2:=Qh hq2;have HR2:=Qh hr2;have HBL2:=Qh hbel2;clear hI2 hq2 hr2 hbel2;by_cases hkk:k < n'+1
   ·obtain ⟨y,hy⟩:∃ y,wd Lr k=y:=⟨_,rfl⟩
    have hy1:y < 4294967296:=by rw [← hy];exact ba HR.out.2 _
    have hck:=HR2.out.cell k hkk;rw [HI2.out.1 k Qr,hy] at hck;have hfk:=HR2.out.frozen k;have HY:=Qh hy;obtain ⟨s,hs⟩:∃ s,bits .or .u32 ((y:Int) * 2 % 4294967296) (cr:Int)=s:=⟨_,rfl⟩
    have he:s=((y * 2 % 4294967296+cr:Nat):Int):=by
     rw [← hs,← (ko hcr hy1).1];exact u32_or_nat (y * 2 % 4294967296) cr (Nat.mod_lt _ (by decide)) (by omega)
    have HE:=Qh he;have HS:=Qh (ko hcr hy1).2;clear hy he;go_wp2;go_region;clear hs;go_wp2;go_roundw
    case rel =>
     have hst:=HI2.out.step HY.out hy1 (by rw [← HR2.out.len];exact hkk);refine ⟨k+1,y / 2147483648,L2.set k (y * 2 % 4294967296+cr),by omega,by go_num,by go_num,HS.out.2,hst,?_,?_,?_⟩
     ·exact OwS.far (w:=wr) HQ2.out (p:=⟨w.heap.size+1,k,none⟩) (by simp) _
     ·exact OwS.set (w:=wr) HR2.out k HS.out.1 HE.out
     exact (Below.setCell HBL2.out (p:=⟨w.heap.size+1,k,none⟩) (by simp) _).drew
    case measure=>simp [intOf];omega
   have hkn:k=n'+1:=by omega
   subst hkn
   have hv2:val L2=2 * val Lr+b:=by
    have h3:=HR2.out.len;have h4:=HR.out.len;refine iB.fin HI2.out (by omega) (by omega) ?_;refine oQ (v:=vb) ?_ ?_ hb1
    ·rw [HI.out.2];exact Nat.mod_lt _ H0.out
    rw [← HB.out,HL'.out];exact bU wb.1
   rw [HI.out.2,← HB1.out] at hv2;obtain ⟨r2,hr2⟩:∃ r,val L2=r:=⟨_,rfl⟩;rw [hr2] at hv2;have HV:=Qh hv2;have HR2v:=Qh hr2;clear hv2 hr2;by_cases hge:vb≤r2
   ·have hc0:0≤aV r2 vb:=by unfold aV;(repeat' split) <;> omega
    obtain ⟨cv,hcv⟩:∃ cv,aV r2 vb=cv:=⟨_,rfl⟩;rw [hcv] at hc0;have HC:=Qh hcv;clear hcv;go_wp2_with fail;(with_reducible refine (cB _ (some ⟨w.heap.size+1,0,none⟩) (n'+1) (n'+1) L2 ?_ ?_ (some ⟨gb,ob,none⟩) n' c' l' ?_ ?_).mono ?_);(exact HR2.out.toWd);(omega);(exact wb.keep ((Kp.refl w).below HBL2.out));(omega);rintro e w1 ⟨rfl,hbl1⟩;rw [HR2v.out,HB.out,HC.out];have HQ3:=Qh (HQ2.out.belw hbl1);have HR3:=Qh (HR2.out.belw hbl1);have HBL3:=Qh (HBL2.out.trans (hbl1.mono HBL2.out.size));clear hbl1 HQ2 HR2 HBL2;go_wp2_with fail;(with_reducible refine (dL _ w.heap.size (w.heap.size+1) (n'+1) (n'+1) L2 ?_ ?_ (some ⟨gb,ob,none⟩) n' c' l' ?_ ?_ ?_ ?_).mono ?_)
    ·exact HR3.out
    ·omega
    ·exact wb.keep ((Kp.refl w).below HBL3.out)
    ·intro ad e;injection e with e;subst e;show gb≠_;omega
    ·omega
    ·rw [HR2v.out,HB.out];exact hge
    rintro e w2 ⟨L3,rfl,hr3,hv3,hon⟩;rw [HR2v.out,HB.out] at hv3;have hq3:=hon.own HQ3.out (by omega);have HBL4:=Qh (HBL3.out.trans (hon.1.mono (by omega)));have HR4:=Qh hr3;have HV3:=Qh hv3;obtain ⟨u,hu⟩:∃ u,wd Lq (m / 32)=u:=⟨_,rfl⟩;have hcq:=hq3.cell (m / 32) hm32;have hfq:=hq3.frozen (m / 32);rw [hu] at hcq;have hob:=sj HQ.out.2 m (by rw [← HQ.out.len];exact hm32) HI.out.1;rw [hu] at hob;obtain ⟨p,hp⟩:∃ p,2 ^ (m % 32)=p:=⟨_,rfl⟩;rw [hp] at hob;have HQ4:=Qh hq3;have HOB:=Qh hob;have HU:=Qh hu;have HP:=Qh hp;clear hr3 hv3 hon hq3 HQ3 HR3 HBL3 hu hob hp;go_wp2;go_region;go_wp2;go_roundw
    case rel =>
     have hbi:=sk (a:=va) (k:=m) HV.out hge H0.out;have he:=qW HOB.out.2.1 HOB.out.1 HP.out;refine ⟨m,(m:Int) - 1,Lq.set (m / 32) (u+p),L3,by omega,by go_num,by omega,⟨?_,?_⟩,?_,?_,?_⟩
     ·rw [HOB.out.2.2,HI.out.1,hbi.1,up]
     ·rw [HV3.out,hbi.2]
     ·exact OwS.set (w:=w2) HQ4.out (m / 32) HOB.out.2.1 he
     ·exact OwS.far (w:=w2) HR4.out (p:=⟨w.heap.size,m / 32,none⟩) (by simp) _
     exact (Below.setCell HBL4.out (p:=⟨w.heap.size,m / 32,none⟩) (by simp) _).drew
    case measure=>simp [intOf] <;> omega
   have hc0:aV r2 vb < 0:=by unfold aV;(repeat' split) <;> omega
   obtain ⟨cv,hcv⟩:∃ cv,aV r2 vb=cv:=⟨_,rfl⟩;rw [hcv] at hc0;have HC:=Qh hcv;clear hcv;go_wp2_with fail;(with_reducible refine (cB _ (some ⟨w.heap.size+1,0,none⟩) (n'+1) (n'+1) L2 ?_ ?_ (some ⟨gb,ob,none⟩) n' c' l' ?_ ?_).mono ?_);(exact HR2.out.toWd);(omega);(exact wb.keep ((Kp.refl w).below HBL2.out));(omega);rintro e w1 ⟨rfl,hbl1⟩;rw [HR2v.out,HB.out,HC.out];have HQ3:=Qh (HQ2.out.belw hbl1);have HR3:=Qh (HR2.out.belw hbl1);have HBL3:=Qh (HBL2.out.trans (hbl1.mono HBL2.out.size));clear hbl1 HQ2 HR2 HBL2;go_wp2;go_roundw
   case rel =>
    have hbi:=qx (a:=va) (k:=m) HV.out (by omega);refine ⟨m,(m:Int) - 1,Lq,L2,by omega,by go_num,by omega,⟨?_,?_⟩,HQ3.out,HR3.out,HBL3.out⟩
    ·rw [HI.out.1,hbi.1,tH]
    rw [HR2v.out,hbi.2]
   case measure=>simp [intOf] <;> omega
theorem dE (w:World) (b:Bool) (A:Option Addr) (n c:Nat) (l:List Nat) (s:Bool) (wa:Wd w A n c l) (hn:n≤1099511627776) (hs:WD.s ⟨b,l⟩=s) :
 Calls Tryz.prog 222 #[.agg #[.bool b,.slice A n c]] w (ax w (.bool s)):=by subst hs;exact co w b A n c l wa hn
theorem po (w:World) (b:Bool) (A:Option Addr) (n c:Nat) (l:List Nat) (s:Int) (wa:Wd w A n c l) (hn:n≤1099511627000) (hs:(WD.z ⟨b,l⟩).sign=s) :
 Calls Tryz.prog 211 #[.agg #[.bool b,.slice A n c]] w (ax w (.int .i64 s)):=by subst hs;exact kq w b A n c l wa hn
theorem ly (w:World) (A n c l) (wa:Wd w A n c l) (hn:n≤1000000000000) (A' n' c' l') (wb:Wd w A' n' c' l') (hn':n'≤1000000000000) (x y:Nat) (hx:val l=x) (hy:val l'=y) (h0:y≠0) :
 Calls Tryz.prog 258 #[.slice A n c,.slice A' n' c'] w (mI w x y):=by subst hx hy;exact lx w A n c l wa hn A' n' c' l' wb hn' h0
def qX (w:World) (q r:Int) (e:Ending) (w':World):Prop:=∃ A1 n1 c1 A2 n2 c2,e=.returned (.tuple #[.agg #[.bool (wh q).neg,.slice A1 n1 c1],.agg #[.bool (wh r).neg,.slice A2 n2 c2],.int .i64 0])∧Wd w' A1 n1 c1 (wh q).mag∧Wd w' A2 n2 c2 (wh r).mag∧Below w.heap.size w w'
theorem qY (w:World) (b:Bool) (A n c l) (wa:Wd w A n c l) (hn:n≤1000000000000) (b':Bool) (A' n' c' l') (wb:Wd w A' n' c' l') (hn':n'≤1000000000000) (h0:WD.z ⟨b',l'⟩≠0) (hr0:WD.z ⟨b,l⟩ % WD.z ⟨b',l'⟩=0) :
 Calls Tryz.prog 254 #[.agg #[.bool b,.slice A n c],.agg #[.bool b',.slice A' n' c']] w (qX w (WD.z ⟨b,l⟩ / WD.z ⟨b',l'⟩) (WD.z ⟨b,l⟩ % WD.z ⟨b',l'⟩)):=by
 have HL:=Qh wa.2.1;have HL':=Qh wb.2.1;obtain ⟨s0,hs0'⟩:∃ s,(WD.z ⟨b',l'⟩).sign=s:=⟨_,rfl⟩;have es0:((s0:Int) == 0)=false:=by simp;rintro rfl;exact h0 (Int.sign_eq_zero_iff_zero.1 hs0')
 have HSG:=Qh hs0';clear hs0'
 have hd0:val (WD.m ⟨b',l'⟩) ∣ val (WD.m ⟨b,l⟩):=by
  rw [← fU ⟨b,l⟩,← fU ⟨b',l'⟩];exact Int.natAbs_dvd_natAbs.2 (Int.dvd_of_emod_eq_zero hr0)
 rw [WD.z_eq] at h0 ⊢;rw [WD.z_eq ⟨b',l'⟩];have hv2:val (WD.m ⟨b',l'⟩)≠0:=by intro e;rw [e] at h0;exact h0 (by cases (WD.s ⟨b',l'⟩) <;> rfl)
 obtain ⟨sa,hsa⟩:∃ s,WD.s ⟨b,l⟩=s:=⟨_,rfl⟩;obtain ⟨sb,hsb⟩:∃ s,WD.s ⟨b',l'⟩=s:=⟨_,rfl⟩;rw [hsa,hsb];obtain ⟨x,hx⟩:∃ x,val (WD.m ⟨b,l⟩)=x:=⟨_,rfl⟩;obtain ⟨y,hy⟩:∃ y,val (WD.m ⟨b',l'⟩)=y:=⟨_,rfl⟩;rw [hx,hy];rw [hx,hy] at hd0;have HS:=Qh (And.intro hsa hsb);have HX:=Qh (And.intro hx hy);have HY:=Qh (show y≠0 from hy ▸ hv2);have HR0:=Qh (Nat.mod_eq_zero_of_dvd hd0);clear hsa hsb hx hy hv2 h0 hr0 hd0;go_in;go_wp2_with fail;have b0:Below w.heap.size w ((((w.alloc (.cells #[.bool b,.slice A n c] 194)).alloc (.cells #[.bool b',.slice A' n' c'] 194)).alloc (.cells #[.bool false,.slice none 0 0] 194)).alloc (.cells #[.bool false,.slice none 0 0] 194)):=(((((Below.refl _ _).alloc Qr _).alloc (by simp) _).alloc (by simp;omega) _).alloc (by simp;omega) _);generalize hW0:((((w.alloc (.cells #[.bool b,.slice A n c] 194)).alloc (.cells #[.bool b',.slice A' n' c'] 194)).alloc (.cells #[.bool false,.slice none 0 0] 194)).alloc (.cells #[.bool false,.slice none 0 0] 194))=W0 at b0 ⊢;have c00:W0.cell? ⟨w.heap.size,0,none⟩=some (.bool b):=by subst hW0;simp [go_sem]
 have f00:W0.frozen? ⟨w.heap.size,0,none⟩=false:=by subst hW0;simp [go_sem]
 have c01:W0.cell? ⟨w.heap.size,1,none⟩=some (.slice A n c):=by subst hW0;simp [go_sem]
 have f01:W0.frozen? ⟨w.heap.size,1,none⟩=false:=by subst hW0;simp [go_sem]
 have c10:W0.cell? ⟨w.heap.size+1,0,none⟩=some (.bool b'):=by subst hW0;simp [go_sem]
 have f10:W0.frozen? ⟨w.heap.size+1,0,none⟩=false:=by subst hW0;simp [go_sem]
 have c11:W0.cell? ⟨w.heap.size+1,1,none⟩=some (.slice A' n' c'):=by subst hW0;simp [go_sem]
 have f11:W0.frozen? ⟨w.heap.size+1,1,none⟩=false:=by subst hW0;simp [go_sem]
 have c20:W0.cell? ⟨w.heap.size+1+1,0,none⟩=some (.bool false):=by subst hW0;simp [go_sem]
 have f20:W0.frozen? ⟨w.heap.size+1+1,0,none⟩=false:=by subst hW0;simp [go_sem]
 have c21:W0.cell? ⟨w.heap.size+1+1,1,none⟩=some (.slice none 0 0):=by subst hW0;simp [go_sem]
 have f21:W0.frozen? ⟨w.heap.size+1+1,1,none⟩=false:=by subst hW0;simp [go_sem]
 have c30:W0.cell? ⟨w.heap.size+1+1+1,0,none⟩=some (.bool false):=by subst hW0;simp [go_sem]
 have f30:W0.frozen? ⟨w.heap.size+1+1+1,0,none⟩=false:=by subst hW0;simp [go_sem]
 have c31:W0.cell? ⟨w.heap.size+1+1+1,1,none⟩=some (.slice none 0 0):=by subst hW0;simp [go_sem]
 have f31:W0.frozen? ⟨w.heap.size+1+1+1,1,none⟩=false:=by subst hW0;simp [go_sem]
 have x0:Box W0 w.heap.size 194:=by subst hW0;exact (((bp _ _ _ (by simp)).alloc _).alloc _).alloc _
 have x1:Box W0 (w.heap.size+1) 194:=by subst hW0;exact ((bp _ _ _ (by simp)).alloc _).alloc _
 have x2:Box W0 (w.heap.size+1+1) 194:=by subst hW0;exact (bp _ _ _ (by simp)).alloc _
 have x3:Box W0 (w.heap.size+1+1+1) 194:=by subst hW0;exact bp _ _ _ (by simp)
 have hm0:fF (w.heap.size+1+1) (w.heap.size+1+1+1+1) 2 W0:=by subst hW0;exact tc (by simp) rfl
 have hs0:w.heap.size+1+1+1+1≤W0.heap.size:=by subst hW0;simp
 clear hW0;have wa:=wa.belw b0;have wb:=wb.belw b0;have r0:Below W0.heap.size W0 W0:=ae _
 go_wp2_with (first
  | (go_at_call 211;(with_reducible refine (po _ b' A' n' c' l' s0 ?_ ?_ ?_).mono ?_);(exact wb);(omega);(exact HSG.out);rintro e w1 ⟨rfl,hb1⟩;have r1:=af r0 hb1;replace wa:=wa.belw hb1;replace wb:=wb.belw hb1;(try clear sc sf sr sz);obtain ⟨⟨sc,sf⟩,sr,sz⟩:=bm.of (by omega) hs0 hm0 r1))
 (try clear sc sf sr sz);have hRB:w.heap.size+1+1≤w.heap.size+1+1+1+1:=by omega
 go_region_held3 (fun w'=>Sees (w.heap.size+1+1) W0 w') (first | exact Sees.of (Nat.le_trans hRB hs0) (by assumption) | exact Sees.of (Nat.le_trans hRB hs0) (aa (by assumption) _))
  (first
   | (go_at_call 215;(with_reducible refine (bK _ b A n c l ?_ ?_).mono ?_);(exact wa);(omega);rintro e w2 ⟨A2,n2,c2,rfl,h2,hb2⟩;replace hb2:=af (aa (ae _) 1) hb2;have r2:=af r1 hb2;replace wa:=wa.belw hb2;replace wb:=wb.belw hb2)
   | (go_at_call 215;(with_reducible refine (bK _ b' A' n' c' l' ?_ ?_).mono ?_);(exact wb);(omega);rintro e w3 ⟨A3,n3,c3,rfl,h3,hb3⟩;have r3:=af r2 hb3;replace wa:=wa.belw hb3;replace wb:=wb.belw hb3;replace h2:=h2.belw hb3)
   | (go_at_call 258;(with_reducible refine (ly _ A2 n2 c2 (WD.m ⟨b,l⟩) ?_ ?_ A3 n3 c3 (WD.m ⟨b',l'⟩) ?_ ?_ x y ?_ ?_ ?_).mono ?_);(exact h2);(exact h2.m_len (by rw [← HL.out];exact hn));(exact h3);(exact h3.m_len (by rw [← HL'.out];exact hn'));(exact HX.out.1);(exact HX.out.2);(exact HY.out);rintro e w4 ⟨A4,n4,c4,A5,n5,c5,rfl,h4,h5,hb4⟩;have r4:=af r3 hb4;replace wa:=wa.belw hb4;replace wb:=wb.belw hb4;replace h2:=h2.belw hb4;replace h3:=h3.belw hb4))
 obtain ⟨⟨sc,sf⟩,sr,sz⟩:=bm.of (by omega) hs0 hm0 r4;clear hRB
 have hn4:n4≤1000000000000:=by
  rw [h4.2.1];exact nZ (Nat.lt_of_le_of_lt (Nat.div_le_self _ _) (HX.out.1 ▸ h2.vlt Qr)) (h2.m_len (by rw [← HL.out];exact hn))
 have hn5:n5=0:=by rw [h5.2.1,HR0.out,ap];rfl
 subst hn5;cases sa
 ·go_wp2_with (first
   | (go_at_call 222;(with_reducible refine (dE _ b A n c l false ?_ ?_ ?_).mono ?_);(exact wa);(omega);(exact HS.out.1);rintro e w5 ⟨rfl,hb5⟩;have r5:=af r4 hb5;replace wa:=wa.belw hb5;replace wb:=wb.belw hb5;replace h2:=h2.belw hb5;replace h3:=h3.belw hb5;replace h4:=h4.belw hb5;replace h5:=h5.belw hb5;(try clear sc sf sr sz);obtain ⟨⟨sc,sf⟩,sr,sz⟩:=bm.of (by omega) hs0 hm0 r5))
  have HZ:=Qh (iU (sa:=false) (sb:=sb) (x:=x) HY.out (.inr HR0.out));(try clear sc sf sr sz);have hRB:w.heap.size+1+1≤w.heap.size+1+1+1+1:=by omega
  go_region_held3 (fun w'=>Sees (w.heap.size+1+1) W0 w') (first | exact Sees.of (Nat.le_trans hRB hs0) (by assumption) | exact Sees.of (Nat.le_trans hRB hs0) (aa (by assumption) _) | exact (Sees.set (Sees.of (Nat.le_trans hRB hs0) (by assumption)) (by simp)) | exact (Sees.set (Sees.set (Sees.of (Nat.le_trans hRB hs0) (by assumption)) (by simp)) (by simp)) | exact (Sees.set (Sees.set (Sees.set (Sees.of (Nat.le_trans hRB hs0) (by assumption)) (by simp)) (by simp)) (by simp)) | exact (Sees.set (Sees.set (Sees.set (Sees.set (Sees.of (Nat.le_trans hRB hs0) (by assumption)) (by simp)) (by simp)) (by simp)) (by simp)))
   (first
    | (go_at_call 222;(with_reducible refine (dE _ b A n c l false ?_ ?_ ?_).mono ?_);(exact wa);(omega);(exact HS.out.1);rintro e w6 ⟨rfl,hb6⟩;replace hb6:=af (aa (ae _) 1) hb6;have r6:=af r5 hb6;replace wa:=wa.belw hb6;replace wb:=wb.belw hb6;replace h2:=h2.belw hb6;replace h3:=h3.belw hb6;replace h4:=h4.belw hb6;replace h5:=h5.belw hb6)
    | (go_at_call 222;(with_reducible refine (dE _ b' A' n' c' l' sb ?_ ?_ ?_).mono ?_);(exact wb);(omega);(exact HS.out.2);rintro e w7 ⟨rfl,hb7⟩;have r7:=af r6 hb7;replace wa:=wa.belw hb7;replace wb:=wb.belw hb7;replace h2:=h2.belw hb7;replace h3:=h3.belw hb7;replace h4:=h4.belw hb7;replace h5:=h5.belw hb7)
    | (go_at_call 213;(with_reducible refine (bX _ sb A4 n4 c4 (ak (x / y)) (sgn false x / sgn sb y) ?_ ?_ ?_).mono ?_);(exact h4);(omega);(rw [HZ.out.1,ai];cases sb <;> rfl);rintro e w8 ⟨A8,n8,c8,rfl,h8,hb8⟩;have r8:=af r7 hb8;replace wa:=wa.belw hb8;replace wb:=wb.belw hb8;replace h2:=h2.belw hb8;replace h3:=h3.belw hb8;replace h4:=h4.belw hb8;replace h5:=h5.belw hb8)
    | (go_at_call 213;(with_reducible refine (bX _ false A5 0 c5 (ak (x % y)) (sgn false x % sgn sb y) ?_ ?_ ?_).mono ?_);(exact h5);(omega);(rw [HZ.out.2,ai];rfl);rintro e w9 ⟨A9,n9,c9,rfl,h9,hb9⟩;have r9:=af r8 hb9;replace wa:=wa.belw hb9;replace wb:=wb.belw hb9;replace h2:=h2.belw hb9;replace h3:=h3.belw hb9;replace h4:=h4.belw hb9;replace h5:=h5.belw hb9;replace h8:=h8.belw hb9;obtain ⟨⟨sc,sf⟩,sr,sz⟩:=bm.of (by omega) hs0 hm0 r9))
  clear hRB;go_wp2_with fail;refine bodyPost_ret (v:=.tuple #[.agg #[.bool _,.slice A8 n8 c8],.agg #[.bool _,.slice A9 n9 c9],.int .i64 0]) (by simp [results,Tryz.results254,go_sem,sr];first | rfl | exact ⟨rfl,rfl⟩) rfl ?_;have y2:=x2.below r9;have y3:=x3.below r9;refine ⟨A8,n8,c8,A9,n9,c9,rfl,?_,?_,?_⟩
  ·exact h8.keep (kp4 y2 y3 (by decide) (by decide) _ _ _ _ _ _ _ _)
  ·exact h9.keep (kp4 y2 y3 (by decide) (by decide) _ _ _ _ _ _ _ _)
  exact ((((b0.trans (r9.mono b0.size)).setCell (by dsimp only;omega) _).setCell (by dsimp only;omega) _).setCell (by dsimp only;omega) _).setCell (by dsimp only;omega) _
 ·go_wp2_with (first
   | (go_at_call 222;(with_reducible refine (dE _ b A n c l true ?_ ?_ ?_).mono ?_);(exact wa);(omega);(exact HS.out.1);rintro e w5 ⟨rfl,hb5⟩;have r5:=af r4 hb5;replace wa:=wa.belw hb5;replace wb:=wb.belw hb5;replace h2:=h2.belw hb5;replace h3:=h3.belw hb5;replace h4:=h4.belw hb5;replace h5:=h5.belw hb5;(try clear sc sf sr sz);obtain ⟨⟨sc,sf⟩,sr,sz⟩:=bm.of (by omega) hs0 hm0 r5))
  have HZ:=Qh (iU (sa:=true) (sb:=sb) (x:=x) HY.out (.inr HR0.out));(try clear sc sf sr sz);have hRB:w.heap.size+1+1≤w.heap.size+1+1+1+1:=by omega
  go_region_held3 (fun w'=>Sees (w.heap.size+1+1) W0 w') (first | exact Sees.of (Nat.le_trans hRB hs0) (by assumption) | exact Sees.of (Nat.le_trans hRB hs0) (aa (by assumption) _) | exact (Sees.set (Sees.of (Nat.le_trans hRB hs0) (by assumption)) (by simp)) | exact (Sees.set (Sees.set (Sees.of (Nat.le_trans hRB hs0) (by assumption)) (by simp)) (by simp)) | exact (Sees.set (Sees.set (Sees.set (Sees.of (Nat.le_trans hRB hs0) (by assumption)) (by simp)) (by simp)) (by simp)) | exact (Sees.set (Sees.set (Sees.set (Sees.set (Sees.of (Nat.le_trans hRB hs0) (by assumption)) (by simp)) (by simp)) (by simp)) (by simp)))
   (first
    | (go_at_call 222;(with_reducible refine (dE _ b A n c l true ?_ ?_ ?_).mono ?_);(exact wa);(omega);(exact HS.out.1);rintro e w6 ⟨rfl,hb6⟩;replace hb6:=af (aa (ae _) 1) hb6;have r6:=af r5 hb6;replace wa:=wa.belw hb6;replace wb:=wb.belw hb6;replace h2:=h2.belw hb6;replace h3:=h3.belw hb6;replace h4:=h4.belw hb6;replace h5:=h5.belw hb6)
    | (go_at_call 222;(with_reducible refine (dE _ b' A' n' c' l' sb ?_ ?_ ?_).mono ?_);(exact wb);(omega);(exact HS.out.2);rintro e w7 ⟨rfl,hb7⟩;have r7:=af r6 hb7;replace wa:=wa.belw hb7;replace wb:=wb.belw hb7;replace h2:=h2.belw hb7;replace h3:=h3.belw hb7;replace h4:=h4.belw hb7;replace h5:=h5.belw hb7)
    | (go_at_call 213;(with_reducible refine (bX _ (!sb) A4 n4 c4 (ak (x / y)) (sgn true x / sgn sb y) ?_ ?_ ?_).mono ?_);(exact h4);(omega);(rw [HZ.out.1,ai];cases sb <;> rfl);rintro e w8 ⟨A8,n8,c8,rfl,h8,hb8⟩;have r8:=af r7 hb8;replace wa:=wa.belw hb8;replace wb:=wb.belw hb8;replace h2:=h2.belw hb8;replace h3:=h3.belw hb8;replace h4:=h4.belw hb8;replace h5:=h5.belw hb8)
    | (go_at_call 213;(with_reducible refine (bX _ false A5 0 c5 (ak (x % y)) (sgn true x % sgn sb y) ?_ ?_ ?_).mono ?_);(exact h5);(omega);(rw [HZ.out.2,ai];rfl);rintro e w9 ⟨A9,n9,c9,rfl,h9,hb9⟩;have r9:=af r8 hb9;replace wa:=wa.belw hb9;replace wb:=wb.belw hb9;replace h2:=h2.belw hb9;replace h3:=h3.belw hb9;replace h4:=h4.belw hb9;replace h5:=h5.belw hb9;replace h8:=h8.belw hb9;obtain ⟨⟨sc,sf⟩,sr,sz⟩:=bm.of (by omega) hs0 hm0 r9))
  clear hRB;go_wp2_with fail;refine bodyPost_ret (v:=.tuple #[.agg #[.bool _,.slice A8 n8 c8],.agg #[.bool _,.slice A9 n9 c9],.int .i64 0]) (by simp [results,Tryz.results254,go_sem,sr];first | rfl | exact ⟨rfl,rfl⟩) rfl ?_;have y2:=x2.below r9;have y3:=x3.below r9;refine ⟨A8,n8,c8,A9,n9,c9,rfl,?_,?_,?_⟩
  ·exact h8.keep (kp4 y2 y3 (by decide) (by decide) _ _ _ _ _ _ _ _)
  ·exact h9.keep (kp4 y2 y3 (by decide) (by decide) _ _ _ _ _ _ _ _)
  exact ((((b0.trans (r9.mono b0.size)).setCell (by dsimp only;omega) _).setCell (by dsimp only;omega) _).setCell (by dsimp only;omega) _).setCell (by dsimp only;omega) _
theorem l9 (w:World) (b A n c z k) (h:IZ w b A n c z k) (b' A' n' c' z' k') (h':IZ w b' A' n' c' z' k') (hk:k+k'≤1000000000) (h0:z'≠0) (hr:z % z'=0):Calls Tryz.prog 254 #[.agg #[.bool b,.slice A n c],.agg #[.bool b',.slice A' n' c']] w (tm w (.int .i64 0) (z / z') (z % z') (k+k')):=by
 have hz:=h.mono (Nat.le_add_right k k') |>.lt
 have hz':=h'.mono (Nat.le_add_left k' k) |>.lt
 obtain ⟨l,h1,rfl,h3⟩:=h;obtain ⟨l',h1',rfl,h3'⟩:=h';refine (qY w b A n c l h1 (by omega) b' A' n' c' l' h1' (by omega) h0 hr).mono fun _ _ r=>?_
 obtain ⟨A1,n1,c1,A2,n2,c2,rfl,r1,r2,r3⟩:=r;refine ⟨_,A1,n1,c1,_,A2,n2,c2,rfl,IV.mk_ r1 rfl ?_,IV.mk_ r2 rfl ?_,r3⟩
 ·exact Nat.lt_of_le_of_lt (Int.natAbs_ediv_le_natAbs _ _) hz
 have e1:=Int.emod_nonneg (WD.z ⟨b,l⟩) h0;have e2:=Int.emod_lt (WD.z ⟨b,l⟩) h0;omega
theorem gY (w:World) (b A n c z k) (h:IZ w b A n c z k) (s:Int) (hs:z.sign=s) (hk:k≤1000000000):Calls Tryz.prog 211 #[.agg #[.bool b,.slice A n c]] w (ax w (.int .i64 s)):=by
 subst hs;exact gL w b A n c z k h hk
theorem pq {z d:Int}{q:Rat}(hz:z≠0) (hd:0 < d) (hq:Rat.divInt z d=q) :
 (rd q).num=(wh (z / ((Nat.gcd z.natAbs d.natAbs:Nat):Int))).mag∧(rd q).den=(wh (d / ((Nat.gcd z.natAbs d.natAbs:Nat):Int))).mag∧(rd q).neg=(wh (z / ((Nat.gcd z.natAbs d.natAbs:Nat):Int))).neg:=by
 rw [← hq,mw hz hd,su _ hd];have hg:0 < Nat.gcd z.natAbs d.natAbs:=Nat.gcd_pos_of_pos_right _ (by omega);have hdv:((Nat.gcd z.natAbs d.natAbs:Nat):Int) ∣ z:=Int.ofNat_dvd_left.2 (Nat.gcd_dvd_left _ _);generalize Nat.gcd z.natAbs d.natAbs=g at *;obtain ⟨m,rfl⟩:=hdv;have e:(g:Int) * m / (g:Int)=m:=Int.mul_ediv_cancel_left _ (by omega);have e2:((g:Int) * m).natAbs / g=m.natAbs:=by rw [Int.natAbs_mul,Int.natAbs_natCast];exact Nat.mul_div_cancel_left _ hg
 rw [e,e2];refine ⟨rfl,rfl,?_⟩;unfold wh;simp only [decide_eq_decide];constructor
 ·intro h;rcases (show m < 0∨0≤m by omega) with h1 | h1;exact h1;exact absurd (Int.mul_nonneg (Int.natCast_nonneg g) h1) (by omega)
 intro h;exact Int.mul_neg_of_pos_of_neg (by omega) h
theorem pr (w:World) (b A n c z k) (h:IZ w b A n c z k) (b' A' n' c' z' k') (h':IZ w b' A' n' c' z' k') (q:Rat) (K:Nat) (hd:z'≠0) (hq:Rat.divInt z z'=q) (hs:Sz q K) (hk:k+k'≤300000000) :
 Calls Tryz.prog 237 #[.agg #[.bool b,.slice A n c],.agg #[.bool b',.slice A' n' c']] w (qq w q K):=by
 have HD:=Qh hd;have HQ:=Qh hq;have HS:=Qh hs;obtain ⟨s,hs1⟩:∃ s,z.sign=s:=⟨_,rfl⟩;obtain ⟨s',hs2⟩:∃ s,z'.sign=s:=⟨_,rfl⟩;have H1:=Qh hs1;have H2:=Qh hs2;clear hd hq hs hs1 hs2;go_in;go_upto_region 1 with fail;refine gN ?_;intro w1 hw1;have k1:B3 w w.heap.size 194 #[.bool b,.slice A n c] 194 #[.bool b',.slice A' n' c'] 65 #[.bool false,.slice none 0 0,.slice none 0 0] w1:=by rw [hw1];exact ⟨((Blk.new w _ _).alloc _).alloc _,(aj _ _ _ (by simp)).alloc _,aj _ _ _ (by simp),(((ae w).alloc Qr _).alloc (by simp) _).alloc (by simp <;> omega) _⟩
 replace h:=h.belw k1.q;replace h':=h'.belw k1.q;clear hw1;have y:=k1.s.v2;go_wp2_with fail;(refine (gY _ b A n c z k h s H1.out (by omega)).mono ?_);rintro e w2 ⟨rfl,hb2⟩;replace k1:=k1.call hb2;replace h:=h.belw hb2;replace h':=h'.belw hb2;clear hb2 y;by_cases hz:z=0
 ·obtain rfl:s=0:=by rw [← H1.out,hz];rfl
  have hq0:q=0:=by rw [← HQ.out,hz,Rat.zero_divInt]
  subst hq0;have y:=k1.r.v3;go_wp2_with fail;refine bodyPost_ret (v:=.agg #[.bool false,.slice none 0 0,.slice none 0 0]) (by simp [results,Tryz.results237,go_sem, *] <;> trivial) rfl ?_;exact ⟨false,none,0,0,none,0,0,rfl,QV.zero _ _,((k1.q.setCell (p:=⟨w.heap.size+1+1,0,none⟩) (by show w.heap.size≤w.heap.size+1+1;omega) (.bool false)).setCell (p:=⟨w.heap.size+1+1,1,none⟩) (by show w.heap.size≤w.heap.size+1+1;omega) (.slice none 0 0)).setCell (p:=⟨w.heap.size+1+1,2,none⟩) (by show w.heap.size≤w.heap.size+1+1;omega) (.slice none 0 0)⟩
 obtain ⟨hp,hqq,hsg⟩:=o5 hz HD.out HQ.out;have HP:=Qh hp;have HQQ:=Qh hqq;have HSG:=Qh hsg;have u1:(s == 0)=false:=beq_eq_false_iff_ne.2 (by rw [← H1.out];exact fun e=>hz (Int.sign_eq_zero_iff_zero.1 e));have u2:(s=0)=False:=by simpa using u1
 clear hz hp hqq hsg HQ;have y:=k1.t.v2;go_wp2_with fail;(refine (gY _ b' A' n' c' z' k' h' s' H2.out (by omega)).mono ?_);rintro e w3 ⟨rfl,hb3⟩;replace k1:=k1.call hb3;replace h:=h.belw hb3;replace h':=h'.belw hb3;clear hb3 y;obtain ⟨y1,hy1⟩:∃ y,sgz z z'=y:=⟨_,rfl⟩;obtain ⟨y2,hy2⟩:∃ y,sgz z' z'=y:=⟨_,rfl⟩;rw [hy1] at HQQ HSG;rw [hy2] at HP HQQ;have HY1:=Qh hy1;have HY2:=Qh hy2;clear hy1 hy2;go_upto_if 18 with fail;go_cut [] (fun wx=>∃ b8 A8 n8 c8 b9 A9 n9 c9,B3 w w.heap.size 194 #[.bool b8,.slice A8 n8 c8] 194 #[.bool b9,.slice A9 n9 c9] 65 #[.bool false,.slice none 0 0,.slice none 0 0] wx∧IZ wx b8 A8 n8 c8 y1 k∧IZ wx b9 A9 n9 c9 y2 k')
 case first =>
  have y:=k1.s.v2;have y9:=k1.t.v2;by_cases hn:z' < 0
  ·obtain rfl:s'=-1:=by rw [← H2.out];exact Int.sign_eq_neg_one_iff_neg.2 hn
   obtain rfl:-z=y1:=by rw [← HY1.out];exact (if_pos hn).symm
   obtain rfl:-z'=y2:=by rw [← HY2.out];exact (if_pos hn).symm
   clear hn;go_wp2_with fail
   go_region_with (first
    | (go_at_call 238;(with_reducible refine (gk _ b A n c z k ?_ ?_).mono ?_);(first | exact h | exact h.belw (aa (ae _) _) | fail);(omega);rintro e w5 ⟨b5,A5,n5,c5,rfl,h5,hb5⟩;replace hb5:=af (aa (ae _) 1) hb5;replace h':=h'.belw hb5;replace k1:=k1.call hb5;have y:=k1.s.v2;have y9:=k1.t.v2)
    | (go_at_call 238;(with_reducible refine (gk _ b' A' n' c' z' k' ?_ ?_).mono ?_);(exact h');(omega);rintro e w6 ⟨b6,A6,n6,c6,rfl,h6,hb6⟩;replace h5:=h5.belw hb6;replace k1:=k1.call hb6;have y:=k1.s.v2;have y9:=k1.t.v2))
   all_goals
    go_wp2_with fail;go_meet;exact ⟨_,_,_,_,_,_,_,_,(k1.p0 _ _).p1 _ _,h5.iz.keep ((k1.s.k2 (by decide) _ _).trans ((k1.p0 _ _).t.k2 (by decide) _ _)),h6.iz.keep ((k1.s.k2 (by decide) _ _).trans ((k1.p0 _ _).t.k2 (by decide) _ _))⟩
  have hp:0 < z':=by have:=HD.out;omega
  obtain rfl:s'=1:=by rw [← H2.out];exact Int.sign_eq_one_iff_pos.2 hp
  obtain rfl:z=y1:=by rw [← HY1.out];exact (if_neg hn).symm
  obtain rfl:z'=y2:=by rw [← HY2.out];exact (if_neg hn).symm
  clear hn hp;go_wp2_with fail;go_meet;exact ⟨_,_,_,_,_,_,_,_,k1,h,h'⟩
 case rest =>
  clear k1 h h' HY1 HY2;obtain ⟨b8,A8,n8,c8,b9,A9,n9,c9,k1,h8,h9⟩:=hcut;rename World=>w7;have y:=And.intro k1.s.v2 k1.t.v2;go_wp2_with fail;(refine (lV _ b8 A8 n8 c8 y1 k h8 b9 A9 n9 c9 y2 k' h9 (by omega)).mono ?_);rintro e w8 ⟨b3,A3,n3,c3,rfl,h3,hb8⟩;replace k1:=k1.call hb8;replace h8:=h8.belw hb8;replace h9:=h9.belw hb8;obtain ⟨g,hg⟩:∃ g:Int,((Nat.gcd y1.natAbs y2.natAbs:Nat):Int)=g:=⟨_,rfl⟩;have HG:=Qh hg;rw [hg] at h3;clear hb8 y hg;go_upto_region 6 with fail;refine gN ?_;intro w9 hw9;have q9:Below w8.heap.size w8 w9:=by rw [hw9];exact (ae w8).alloc Qr _
  have x9:Blk w9 w8.heap.size 194 #[.bool b3,.slice A3 n3 c3]:=by rw [hw9];exact Blk.new w8 _ _
  replace h8:=h8.belw q9;replace h9:=h9.belw q9;replace h3:=h3.belw q9;replace k1:=k1.call q9;clear hw9 q9;have g0:g≠0:=by rw [← HG.out];exact st HP.out
  have m1:y1 % g=0:=by rw [← HG.out];exact Int.emod_eq_zero_of_dvd (Int.ofNat_dvd_left.2 (Nat.gcd_dvd_left _ _))
  have m2:y2 % g=0:=by rw [← HG.out];exact Int.emod_eq_zero_of_dvd (Int.ofNat_dvd_left.2 (Nat.gcd_dvd_right _ _))
  have M1:=Qh m1;have M2:=Qh m2;clear m1 m2;have y:=And.intro k1.s.v2 x9.v2;go_wp2_with fail;(refine (l9 _ b8 A8 n8 c8 y1 k h8 b3 A3 n3 c3 g (k+k') h3.iz (by omega) g0 M1.out).mono ?_);rintro e w10 ⟨b4,A4,n4,c4,bx,Ax,nx,cx,rfl,h4,_,hb10⟩;replace k1:=k1.call hb10;replace x9:=x9.b hb10;replace h9:=h9.belw hb10;replace h3:=h3.belw hb10;clear hb10 y;go_upto_region 7 with fail;refine gN ?_;intro w11 hw11;have q11:Below w10.heap.size w10 w11:=by rw [hw11];exact ((ae w10).alloc Qr _).alloc (by simp) _
  have x11:Blk w11 w10.heap.size 194 #[.bool b4,.slice A4 n4 c4]:=by rw [hw11];exact (Blk.new w10 _ _).alloc _
  replace k1:=k1.call q11;replace x9:=x9.b q11;replace h9:=h9.belw q11;replace h3:=h3.belw q11;replace h4:=h4.belw q11;clear hw11 q11;have y:=And.intro k1.t.v2 x9.v2;go_wp2_with fail;(refine (l9 _ b9 A9 n9 c9 y2 k' h9 b3 A3 n3 c3 g (k+k') h3.iz (by omega) g0 M2.out).mono ?_);rintro e w12 ⟨b5,A5,n5,c5,bz,Az,nz,cz,rfl,h5,_,hb12⟩;replace k1:=k1.call hb12;replace x11:=x11.b hb12;replace h4:=h4.belw hb12;clear hb12 y;go_upto_region 8 with fail;refine gN ?_;intro w13 hw13;have q13:Below w12.heap.size w12 w13:=by rw [hw13];exact ((ae w12).alloc Qr _).alloc (by simp) _
  have x13:Blk w13 w12.heap.size 194 #[.bool b5,.slice A5 n5 c5]:=by rw [hw13];exact (Blk.new w12 _ _).alloc _
  replace k1:=k1.call q13;replace x11:=x11.b q13;replace h4:=h4.belw q13;replace h5:=h5.belw q13;clear hw13 q13;have y:=And.intro x11.v2 (And.intro x13.v2 k1.r.v3);go_wp2_with fail;refine bodyPost_ret (v:=.agg #[.bool b4,.slice A4 n4 c4,.slice A5 n5 c5]) (by simp [results,Tryz.results237,go_sem, *] <;> trivial) rfl ?_;clear y;have kp:=k1.r.k3 (by decide) (.bool b4) (.slice A4 n4 c4) (.slice A5 n5 c5);obtain ⟨e1,e2,e3⟩:=pq (fun e=>by rw [e] at HSG;rcases HSG.out with h | h <;> cases h) HP.out HQQ.out
  rw [HG.out] at e1 e2 e3;exact ⟨_,_,_,_,_,_,_,rfl,QV.mk_ (by rw [e1];exact h4.2.1.keep kp) (by rw [e2];exact h5.2.1.keep kp) (by rw [e3];exact h4.1.symm) HS.out,((k1.q.setCell (p:=⟨w.heap.size+1+1,0,none⟩) (by show w.heap.size≤w.heap.size+1+1;omega) _).setCell (p:=⟨w.heap.size+1+1,1,none⟩) (by show w.heap.size≤w.heap.size+1+1;omega) _).setCell (p:=⟨w.heap.size+1+1,2,none⟩) (by show w.heap.size≤w.heap.size+1+1;omega) _⟩
theorem tI (w:World) (b A n c D m e q k) (h:QZ w b A n c D m e q k) (h0:0 < k) (hk:k≤40000000) :
 Calls Tryz.prog 203 #[.agg #[.bool b,.slice A n c,.slice D m e]] w (qq w (-q) k):=by
 have HS:=Qh (h.sz h0);go_in;go_wp2_with fail;(with_reducible refine (ef _ b A n c D m e (q) (k) ?_ ?_ ?_).mono ?_);(exact (h.belw (((Below.refl _ _).alloc Qr _).alloc (by simp) _)));(omega);(omega);rintro e w1 ⟨b1,A1,n1,c1,b'1,A'1,n'1,c'1,rfl,h1,h'1,hb1⟩;have q1:=hb1.q2;replace h:=h.belw q1;have x1a:Blk w1 w.heap.size 65 #[.bool b,.slice A n c,.slice D m e]:=((aj _ _ _ (by simp)).alloc _).below hb1 (by simp <;> omega);have x1b:=(aj _ _ _ (g:=w.heap.size+1) (by simp)).below hb1 (by simp);have bw1:=(ae w).trans (q1.mono (ae w).size);have lw1:=hb1.l2;clear q1;go_wp2_with fail;have p2:=(((Kp.refl w1).alloc (.cells #[.bool b1,.slice A1 n1 c1] 194)).alloc (.cells #[.bool b'1,.slice A'1 n'1 c'1] 194));have bw2:=((bw1.alloc (by first | omega | (simp <;> omega)) (.cells #[.bool b1,.slice A1 n1 c1] 194)).alloc (by first | omega | (simp <;> omega)) (.cells #[.bool b'1,.slice A'1 n'1 c'1] 194));have x2a:Blk ((w1.alloc (.cells #[.bool b1,.slice A1 n1 c1] 194)).alloc (.cells #[.bool b'1,.slice A'1 n'1 c'1] 194)) w1.heap.size 194 #[.bool b1,.slice A1 n1 c1]:=((aj _ _ _ (by simp)).alloc (.cells #[.bool b'1,.slice A'1 n'1 c'1] 194));have x2b:Blk ((w1.alloc (.cells #[.bool b1,.slice A1 n1 c1] 194)).alloc (.cells #[.bool b'1,.slice A'1 n'1 c'1] 194)) (w1.heap.size+1) 194 #[.bool b'1,.slice A'1 n'1 c'1]:=(aj _ _ _ (by simp));replace x1a:=((x1a.alloc (.cells #[.bool b1,.slice A1 n1 c1] 194)).alloc (.cells #[.bool b'1,.slice A'1 n'1 c'1] 194));replace x1b:=((x1b.alloc (.cells #[.bool b1,.slice A1 n1 c1] 194)).alloc (.cells #[.bool b'1,.slice A'1 n'1 c'1] 194));have lw2:w1.heap.size+2≤((w1.alloc (.cells #[.bool b1,.slice A1 n1 c1] 194)).alloc (.cells #[.bool b'1,.slice A'1 n'1 c'1] 194)).heap.size:=by simp
 generalize hE2:((w1.alloc (.cells #[.bool b1,.slice A1 n1 c1] 194)).alloc (.cells #[.bool b'1,.slice A'1 n'1 c'1] 194))=w2 at p2 bw2 lw2 x2a x2b x1a x1b ⊢;clear hE2;replace h:=h.keep p2;replace h1:=h1.keep p2;replace h'1:=h'1.keep p2;clear bw1;have lx1a:=ci x1a.lt;have cx1ba:w2.cell? ⟨w.heap.size+1,0,none⟩=some (.bool false):=x1b.cell 0;have fx1ba:w2.frozen? ⟨w.heap.size+1,0,none⟩=false:=x1b.frozen 0;have cx1bb:w2.cell? ⟨w.heap.size+1,1,none⟩=some (.slice none 0 0):=x1b.cell 1;have fx1bb:w2.frozen? ⟨w.heap.size+1,1,none⟩=false:=x1b.frozen 1;have cx1bc:w2.cell? ⟨w.heap.size+1,2,none⟩=some (.slice none 0 0):=x1b.cell 2;have fx1bc:w2.frozen? ⟨w.heap.size+1,2,none⟩=false:=x1b.frozen 2;have lx1b:=dC x1b.lt;have cx2a:=x2a.c2;have lx2a:=ci x2a.lt;have cx2b:=x2b.c2;have lx2b:=dC x2b.lt;have nfx1_0_0:¬ w.heap.size=w.heap.size+1:=by omega
 have nex1_0_0:¬ w.heap.size=w.heap.size+1:=by omega
 have nfx2_0_0:¬ w1.heap.size=w.heap.size+1:=by omega
 have nex2_0_0:¬ w1.heap.size=w.heap.size+1:=by omega
 have nfx2_1_0:¬ w1.heap.size+1=w.heap.size+1:=by omega
 have nex2_1_0:¬ w1.heap.size=w.heap.size:=by omega
 go_region_held3 (fun w'=>SeesX w2.heap.size (w.heap.size+1) w2 w') (first | with_reducible exact SeesX.of Qr (by assumption) | with_reducible exact SeesX.of Qr (ae _).drew | with_reducible exact (SeesX.set (SeesX.set (SeesX.set (SeesX.of Qr (by assumption))))) | with_reducible exact (SeesX.set (SeesX.set (SeesX.of Qr (by assumption)))) | with_reducible exact (SeesX.set (SeesX.of Qr (by assumption))) | exact SeesX.of Qr (aa (ae _) 1) | exact SeesX.of Qr (aa (by assumption) _))
  (first
   | (go_at_call 238;(with_reducible refine (gk _ b1 A1 n1 c1 ((q).num) ((k)) ?_ ?_).mono ?_);(exact h1.iz);(omega);rintro e w3 ⟨b3,A3,n3,c3,rfl,h3,hb3⟩;replace hb3:=af (aa (ae _) 1) hb3;have q3:Below w2.heap.size w2 w3:=af (ae w2) hb3;replace h:=h.belw hb3;replace h1:=h1.belw hb3;replace h'1:=h'1.belw hb3)
   | (go_at_call 237;(with_reducible refine (pr _ b3 A3 n3 c3 (-((q).num)) (((k))) ?_ b'1 A'1 n'1 c'1 (((q).den:Int)) ((k)) ?_ (-q) (k) ?_ ?_ ?_ ?_).mono ?_);(exact h3.iz);(exact h'1.iz);(exact eJ _);(exact (s8 q).symm);(exact rO HS.out);(omega);rintro e w4 ⟨b4,A4,n4,c4,A'4,n'4,c'4,rfl,h4,hb4⟩;have q4:Below w2.heap.size w2 w4:=af q3 hb4;replace h:=h.belw hb4;replace h1:=h1.belw hb4;replace h'1:=h'1.belw hb4;replace h3:=h3.belw hb4;have x1b:=x1b.b q4;obtain ⟨cx1ba,cx1bb,cx1bc⟩:=x1b.c3;obtain ⟨fx1ba,fx1bb,fx1bc⟩:=x1b.f3))
 have bw4:=bw2.trans (q4.mono bw2.size);clear lx1a cx1ba fx1ba cx1bb fx1bb cx1bc fx1bc lx1b cx2a lx2a cx2b lx2b;replace x1a:=x1a.b q4;replace x2a:=x2a.b q4;replace x2b:=x2b.b q4;have lw4:=q4.size;obtain ⟨cx1ba,cx1bb,cx1bc⟩:=x1b.c3;obtain ⟨fx1ba,fx1bb,fx1bc⟩:=x1b.f3;go_wp2_with fail;refine bodyPost_ret (v:=.agg #[.bool b4,.slice A4 n4 c4,.slice A'4 n'4 c'4]) (by simp [results,Tryz.results203,go_sem, *] <;> trivial) rfl ?_;exact ⟨b4,A4,n4,c4,A'4,n'4,c'4,rfl,h4.keep ((((Kp.refl w4).sb (w.heap.size+1) 0 x1b.box (by decide) (.bool b4)).sb (w.heap.size+1) 1 (x1b.box.set ⟨w.heap.size+1,0,none⟩ (.bool b4)) (by decide) (.slice A4 n4 c4)).sb (w.heap.size+1) 2 ((x1b.box.set ⟨w.heap.size+1,0,none⟩ (.bool b4)).set ⟨w.heap.size+1,1,none⟩ (.slice A4 n4 c4)) (by decide) (.slice A'4 n'4 c'4)),(((bw4.sc (w.heap.size+1) 0 (by omega) (.bool b4)).sc (w.heap.size+1) 1 (by omega) (.slice A4 n4 c4)).sc (w.heap.size+1) 2 (by omega) (.slice A'4 n'4 c'4))⟩
theorem tJ (w:World) (b A n c D m e q k) (h:QZ w b A n c D m e q k) (b' A' n' c' D' m' e' q' k') (h':QZ w b' A' n' c' D' m' e' q' k') (h0:0 < k) (hk:k≤40000000) (h0':0 < k') (hk':k'≤40000000) :
 Calls Tryz.prog 217 #[.agg #[.bool b,.slice A n c,.slice D m e],.agg #[.bool b',.slice A' n' c',.slice D' m' e']] w (qq w (q+q') (k+k'+1)):=by
 have HS:=Qh (h.sz h0);have HS':=Qh (h'.sz h0');go_in;go_wp2_with fail;(with_reducible refine (ef _ b A n c D m e (q) (k) ?_ ?_ ?_).mono ?_);(exact (h.belw ((((Below.refl _ _).alloc Qr _).alloc (by simp) _).alloc (by simp <;> omega) _)));(omega);(omega);rintro e w1 ⟨b1,A1,n1,c1,b'1,A'1,n'1,c'1,rfl,h1,h'1,hb1⟩;have q1:=hb1.q3;replace h:=h.belw q1;replace h':=h'.belw q1;have x1a:Blk w1 w.heap.size 65 #[.bool b,.slice A n c,.slice D m e]:=(((aj _ _ _ (by simp)).alloc _).alloc _).below hb1 (by simp <;> omega);have x1b:=((aj _ _ _ (g:=w.heap.size+1) (by simp)).alloc _).below hb1 (by simp <;> omega);have x1c:=(aj _ _ _ (g:=w.heap.size+1+1) (by simp)).below hb1 (by simp);have bw1:=(ae w).trans (q1.mono (ae w).size);have lw1:=hb1.l3;clear q1;have cx1b:=x1b.c3;have lx1b:=dC x1b.lt;go_wp2_with fail;(with_reducible refine (ef _ b' A' n' c' D' m' e' (q') (k') ?_ ?_ ?_).mono ?_);(exact (h'.belw (((Below.refl _ _).alloc Qr _).alloc (by simp) _)));(omega);(omega);rintro e w2 ⟨b2,A2,n2,c2,b'2,A'2,n'2,c'2,rfl,h2,h'2,hb2⟩;clear cx1b lx1b;have q2:=hb2.q2;replace h:=h.belw q2;replace h':=h'.belw q2;replace h1:=h1.belw q2;replace h'1:=h'1.belw q2;replace x1a:=x1a.b q2;replace x1b:=x1b.b q2;replace x1c:=x1c.b q2;have x2a:Blk w2 w1.heap.size 194 #[.bool b1,.slice A1 n1 c1]:=((aj _ _ _ (by simp)).alloc _).below hb2 (by simp <;> omega);have x2b:=(aj _ _ _ (g:=w1.heap.size+1) (by simp)).below hb2 (by simp);have bw2:=bw1.trans (q2.mono bw1.size);have lw2:=hb2.l2;clear q2 bw1;go_wp2_with fail;have p3:=(((Kp.refl w2).alloc (.cells #[.bool b2,.slice A2 n2 c2] 194)).alloc (.cells #[.bool b'2,.slice A'2 n'2 c'2] 194));have bw3:=((bw2.alloc (by first | omega | (simp <;> omega)) (.cells #[.bool b2,.slice A2 n2 c2] 194)).alloc (by first | omega | (simp <;> omega)) (.cells #[.bool b'2,.slice A'2 n'2 c'2] 194));have x3a:Blk ((w2.alloc (.cells #[.bool b2,.slice A2 n2 c2] 194)).alloc (.cells #[.bool b'2,.slice A'2 n'2 c'2] 194)) w2.heap.size 194 #[.bool b2,.slice A2 n2 c2]:=((aj _ _ _ (by simp)).alloc (.cells #[.bool b'2,.slice A'2 n'2 c'2] 194));have x3b:Blk ((w2.alloc (.cells #[.bool b2,.slice A2 n2 c2] 194)).alloc (.cells #[.bool b'2,.slice A'2 n'2 c'2] 194)) (w2.heap.size+1) 194 #[.bool b'2,.slice A'2 n'2 c'2]:=(aj _ _ _ (by simp));replace x1a:=((x1a.alloc (.cells #[.bool b2,.slice A2 n2 c2] 194)).alloc (.cells #[.bool b'2,.slice A'2 n'2 c'2] 194));replace x1b:=((x1b.alloc (.cells #[.bool b2,.slice A2 n2 c2] 194)).alloc (.cells #[.bool b'2,.slice A'2 n'2 c'2] 194));replace x1c:=((x1c.alloc (.cells #[.bool b2,.slice A2 n2 c2] 194)).alloc (.cells #[.bool b'2,.slice A'2 n'2 c'2] 194));replace x2a:=((x2a.alloc (.cells #[.bool b2,.slice A2 n2 c2] 194)).alloc (.cells #[.bool b'2,.slice A'2 n'2 c'2] 194));replace x2b:=((x2b.alloc (.cells #[.bool b2,.slice A2 n2 c2] 194)).alloc (.cells #[.bool b'2,.slice A'2 n'2 c'2] 194));have lw3:w2.heap.size+2≤((w2.alloc (.cells #[.bool b2,.slice A2 n2 c2] 194)).alloc (.cells #[.bool b'2,.slice A'2 n'2 c'2] 194)).heap.size:=by simp
 generalize hE3:((w2.alloc (.cells #[.bool b2,.slice A2 n2 c2] 194)).alloc (.cells #[.bool b'2,.slice A'2 n'2 c'2] 194))=w3 at p3 bw3 lw3 x3a x3b x1a x1b x1c x2a x2b ⊢;clear hE3;replace h:=h.keep p3;replace h':=h'.keep p3;replace h1:=h1.keep p3;replace h'1:=h'1.keep p3;replace h2:=h2.keep p3;replace h'2:=h'2.keep p3;clear bw2;have cx2a:=x2a.c2;have lx2a:=ci x2a.lt;have cx2b:=x2b.c2;have lx2b:=dC x2b.lt;have cx3a:=x3a.c2;have lx3a:=ci x3a.lt;have cx3b:=x3b.c2;have lx3b:=dC x3b.lt
 refine iC (B:=w.heap.size) (fr:=fun xf=>⟨List.toArray (.agg #[.bool b,.slice A n c,.slice D m e] :: .agg #[.bool b',.slice A' n' c',.slice D' m' e'] :: .pointer (some ⟨w.heap.size,0,none⟩) :: .pointer (some ⟨w.heap.size+1,0,none⟩) :: .pointer (some ⟨w.heap.size+1+1,0,none⟩) :: .pointer (some ⟨w1.heap.size,0,none⟩) :: .pointer (some ⟨w1.heap.size+1,0,none⟩) :: .pointer (some ⟨w2.heap.size,0,none⟩) :: .pointer (some ⟨w2.heap.size+1,0,none⟩) :: .tuple #[.agg #[.bool b1,.slice A1 n1 c1],.agg #[.bool b'1,.slice A'1 n'1 c'1]] :: .agg #[.bool b,.slice A n c,.slice D m e] :: .tuple #[.agg #[.bool b1,.slice A1 n1 c1],.agg #[.bool b'1,.slice A'1 n'1 c'1]] :: .agg #[.bool b1,.slice A1 n1 c1] :: .agg #[.bool b'1,.slice A'1 n'1 c'1] :: .tuple #[.agg #[.bool b2,.slice A2 n2 c2],.agg #[.bool b'2,.slice A'2 n'2 c'2]] :: .agg #[.bool b',.slice A' n' c',.slice D' m' e'] :: .tuple #[.agg #[.bool b2,.slice A2 n2 c2],.agg #[.bool b'2,.slice A'2 n'2 c'2]] :: .agg #[.bool b2,.slice A2 n2 c2] :: .agg #[.bool b'2,.slice A'2 n'2 c'2] :: xf 0 :: xf 1 :: xf 2 :: xf 3 :: xf 4 :: xf 5 :: xf 6 :: xf 7 :: xf 8 :: xf 9 :: xf 10 :: []),[]⟩) (R:=fun i=>List.getD ((PEq (.agg #[.bool b1,.slice A1 n1 c1])) :: (PEq (.agg #[.bool b'2,.slice A'2 n'2 c'2])) :: (VI (((q).num) * (((q').den:Int))) (((k))+((k')))) :: (PEq (.agg #[.bool b2,.slice A2 n2 c2])) :: (PEq (.agg #[.bool b'1,.slice A'1 n'1 c'1])) :: (VI (((q').num) * (((q).den:Int))) (((k'))+((k)))) :: (VI ((((q).num) * (((q').den:Int)))+(((q').num) * (((q).den:Int)))) ((((k))+((k')))+(((k'))+((k)))+1)) :: (PEq (.agg #[.bool b'1,.slice A'1 n'1 c'1])) :: (PEq (.agg #[.bool b'2,.slice A'2 n'2 c'2])) :: (VI ((((q).den:Int)) * (((q').den:Int))) (((k))+((k')))) :: (VQ (q+q') (k+k'+1)) :: tD :: []) i (fun _ _=>True)) (es:=[]) (ow:=[⟨w.heap.size,12,0,65,#[.bool b,.slice A n c,.slice D m e],ku⟩,⟨w.heap.size+1,12,0,65,#[.bool b',.slice A' n' c',.slice D' m' e'],ku⟩,⟨w.heap.size+1+1,11,0,65,#[.bool false,.slice none 0 0,.slice none 0 0],CQ (q+q') (k+k'+1)⟩,⟨w1.heap.size,12,0,194,#[.bool b1,.slice A1 n1 c1],ku⟩,⟨w1.heap.size+1,12,0,194,#[.bool b'1,.slice A'1 n'1 c'1],ku⟩,⟨w2.heap.size,12,0,194,#[.bool b2,.slice A2 n2 c2],ku⟩,⟨w2.heap.size+1,12,0,194,#[.bool b'2,.slice A'2 n'2 c'2],ku⟩]) (x0:=(fun _=>undef)) (by kernel_rfl)
  (jG ⟨fun _ _=>rfl,fun _ _=>rfl,fun _ _=>rfl,fun _ _=>rfl,fun _ _=>rfl,fun _ _=>rfl,fun _ _=>rfl,fun _ _=>rfl,fun _ _=>rfl,fun _ _=>rfl,fun _ _=>rfl,fun _ _=>rfl,trivial⟩) (jG (m5 _ 0 (by kernel_rfl))) (gm.get _ ⟨m6 _,m6 _,stI _ _,m6 _,m6 _,stI _ _,stI _ _,m6 _,m6 _,stI _ _,stQ _ _,tE,trivial⟩)
  (fun _ h=>nomatch h) (fmc ⟨je,fmc ⟨je,fmc ⟨scQ _ _,fmc ⟨je,fmc ⟨je,fmc ⟨je,fmc ⟨je,fun _ h=>nomatch h⟩⟩⟩⟩⟩⟩⟩) (fun _ h=>nomatch h) bw3.size
  (fmc ⟨⟨x1a,by show w.heap.size≤w.heap.size;omega⟩,fmc ⟨⟨x1b,by show w.heap.size≤w.heap.size+1;omega⟩,fmc ⟨⟨x1c,by show w.heap.size≤w.heap.size+1+1;omega⟩,fmc ⟨⟨x2a,by show w.heap.size≤w1.heap.size;omega⟩,fmc ⟨⟨x2b,by show w.heap.size≤w1.heap.size+1;omega⟩,fmc ⟨⟨x3a,by show w.heap.size≤w2.heap.size;omega⟩,fmc ⟨⟨x3b,by show w.heap.size≤w2.heap.size+1;omega⟩,fun _ h=>nomatch h⟩⟩⟩⟩⟩⟩⟩) (qQ (by simp <;> omega))
  (jG ⟨?_,?_,?_,?_,?_,?_,?_,?_,?_,?_,?_,?_,trivial⟩) ?_
 ·exact .inl ⟨by simp,by simp,fun xf wq hk hbl hd K hK=>by
   have y:Blk wq w1.heap.size 194 #[.bool b1,.slice A1 n1 c1]:=hbl _ (List.Mem.tail _ (List.Mem.tail _ (List.Mem.tail _ (List.Mem.head _)))) (by simp [Region.binds]);obtain ⟨hcl0,hcl1⟩:=y.c2;(try dsimp only);go_simp
   exact hK.out (.agg #[.bool b1,.slice A1 n1 c1]) _ rfl (ae _)⟩
 ·exact .inl ⟨by simp,by simp,fun xf wq hk hbl hd K hK=>by
   have y:Blk wq (w2.heap.size+1) 194 #[.bool b'2,.slice A'2 n'2 c'2]:=hbl _ (List.Mem.tail _ (List.Mem.tail _ (List.Mem.tail _ (List.Mem.tail _ (List.Mem.tail _ (List.Mem.tail _ (List.Mem.head _))))))) (by simp [Region.binds]);obtain ⟨hcl0,hcl1⟩:=y.c2;(try dsimp only);go_simp
   exact hK.out (.agg #[.bool b'2,.slice A'2 n'2 c'2]) _ rfl (ae _)⟩
 ·exact .inl ⟨by simp,by simp,fun xf wq hk hbl hd K hK=>by
   have d0:xf 0=.agg #[.bool b1,.slice A1 n1 c1]:=hd ⟨0,.data⟩ (by simp) rfl;have d1:xf 1=.agg #[.bool b'2,.slice A'2 n'2 c'2]:=hd ⟨1,.data⟩ (by simp) rfl;(try dsimp only);(try simp only [d0,d1]);go_simp;go_at_call 236;(with_reducible refine (jD _ b1 A1 n1 c1 ((q).num) ((k)) ?_ b'2 A'2 n'2 c'2 (((q').den:Int)) ((k')) ?_ ?_).mono ?_);(exact (h1.keep hk).iz);(exact (h'2.keep hk).iz);(omega);rintro e wr ⟨b5,A5,n5,c5,rfl,h5,hbr⟩;have hz:=hK.out _ _ ⟨b5,A5,n5,c5,rfl,h5⟩ hbr;simp only [d0,d1] at hz
   exact hz⟩
 ·exact .inl ⟨by simp,by simp,fun xf wq hk hbl hd K hK=>by
   have y:Blk wq w2.heap.size 194 #[.bool b2,.slice A2 n2 c2]:=hbl _ (List.Mem.tail _ (List.Mem.tail _ (List.Mem.tail _ (List.Mem.tail _ (List.Mem.tail _ (List.Mem.head _)))))) (by simp [Region.binds]);obtain ⟨hcl0,hcl1⟩:=y.c2;(try dsimp only);go_simp
   exact hK.out (.agg #[.bool b2,.slice A2 n2 c2]) _ rfl (ae _)⟩
 ·exact .inl ⟨by simp,by simp,fun xf wq hk hbl hd K hK=>by
   have y:Blk wq (w1.heap.size+1) 194 #[.bool b'1,.slice A'1 n'1 c'1]:=hbl _ (List.Mem.tail _ (List.Mem.tail _ (List.Mem.tail _ (List.Mem.tail _ (List.Mem.head _))))) (by simp [Region.binds]);obtain ⟨hcl0,hcl1⟩:=y.c2;(try dsimp only);go_simp
   exact hK.out (.agg #[.bool b'1,.slice A'1 n'1 c'1]) _ rfl (ae _)⟩
 ·exact .inl ⟨by simp,by simp,fun xf wq hk hbl hd K hK=>by
   have d3:xf 3=.agg #[.bool b2,.slice A2 n2 c2]:=hd ⟨3,.data⟩ (by simp) rfl;have d4:xf 4=.agg #[.bool b'1,.slice A'1 n'1 c'1]:=hd ⟨4,.data⟩ (by simp) rfl;(try dsimp only);(try simp only [d3,d4]);go_simp;go_at_call 236;(with_reducible refine (jD _ b2 A2 n2 c2 ((q').num) ((k')) ?_ b'1 A'1 n'1 c'1 (((q).den:Int)) ((k)) ?_ ?_).mono ?_);(exact (h2.keep hk).iz);(exact (h'1.keep hk).iz);(omega);rintro e wr ⟨b6,A6,n6,c6,rfl,h6,hbr⟩;have hz:=hK.out _ _ ⟨b6,A6,n6,c6,rfl,h6⟩ hbr;simp only [d3,d4] at hz
   exact hz⟩
 ·exact .inl ⟨by simp,by simp,fun xf wq hk hbl hd K hK=>by
   obtain ⟨b5,A5,n5,c5,d2,h5⟩:VI (((q).num) * (((q').den:Int))) (((k))+((k'))) (xf 2) wq:=hd ⟨2,.data⟩ (by simp) rfl;obtain ⟨b6,A6,n6,c6,d5,h6⟩:VI (((q').num) * (((q).den:Int))) (((k'))+((k))) (xf 5) wq:=hd ⟨5,.data⟩ (by simp) rfl;(try dsimp only);(try simp only [d2,d5]);go_simp;go_at_call 242;(with_reducible refine (lW _ b5 A5 n5 c5 (((q).num) * (((q').den:Int))) (((k))+((k'))) ?_ b6 A6 n6 c6 (((q').num) * (((q).den:Int))) (((k'))+((k))) ?_ ?_).mono ?_);(exact h5.iz);(exact h6.iz);(omega);rintro e wr ⟨b7,A7,n7,c7,rfl,h7,hbr⟩;have hz:=hK.out _ _ ⟨b7,A7,n7,c7,rfl,h7⟩ hbr;simp only [d2,d5] at hz
   exact hz⟩
 ·exact .inl ⟨by simp,by simp,fun xf wq hk hbl hd K hK=>by
   have y:Blk wq (w1.heap.size+1) 194 #[.bool b'1,.slice A'1 n'1 c'1]:=hbl _ (List.Mem.tail _ (List.Mem.tail _ (List.Mem.tail _ (List.Mem.tail _ (List.Mem.head _))))) (by simp [Region.binds]);obtain ⟨hcl0,hcl1⟩:=y.c2;(try dsimp only);go_simp
   exact hK.out (.agg #[.bool b'1,.slice A'1 n'1 c'1]) _ rfl (ae _)⟩
 ·exact .inl ⟨by simp,by simp,fun xf wq hk hbl hd K hK=>by
   have y:Blk wq (w2.heap.size+1) 194 #[.bool b'2,.slice A'2 n'2 c'2]:=hbl _ (List.Mem.tail _ (List.Mem.tail _ (List.Mem.tail _ (List.Mem.tail _ (List.Mem.tail _ (List.Mem.tail _ (List.Mem.head _))))))) (by simp [Region.binds]);obtain ⟨hcl0,hcl1⟩:=y.c2;(try dsimp only);go_simp
   exact hK.out (.agg #[.bool b'2,.slice A'2 n'2 c'2]) _ rfl (ae _)⟩
 ·exact .inl ⟨by simp,by simp,fun xf wq hk hbl hd K hK=>by
   have d7:xf 7=.agg #[.bool b'1,.slice A'1 n'1 c'1]:=hd ⟨7,.data⟩ (by simp) rfl;have d8:xf 8=.agg #[.bool b'2,.slice A'2 n'2 c'2]:=hd ⟨8,.data⟩ (by simp) rfl;(try dsimp only);(try simp only [d7,d8]);go_simp;go_at_call 236;(with_reducible refine (jD _ b'1 A'1 n'1 c'1 (((q).den:Int)) ((k)) ?_ b'2 A'2 n'2 c'2 (((q').den:Int)) ((k')) ?_ ?_).mono ?_);(exact (h'1.keep hk).iz);(exact (h'2.keep hk).iz);(omega);rintro e wr ⟨b8,A8,n8,c8,rfl,h8,hbr⟩;have hz:=hK.out _ _ ⟨b8,A8,n8,c8,rfl,h8⟩ hbr;simp only [d7,d8] at hz
   exact hz⟩
 ·exact .inl ⟨by simp,by simp,fun xf wq hk hbl hd K hK=>by
   obtain ⟨b7,A7,n7,c7,d6,h7⟩:VI ((((q).num) * (((q').den:Int)))+(((q').num) * (((q).den:Int)))) ((((k))+((k')))+(((k'))+((k)))+1) (xf 6) wq:=hd ⟨6,.data⟩ (by simp) rfl;obtain ⟨b8,A8,n8,c8,d9,h8⟩:VI ((((q).den:Int)) * (((q').den:Int))) (((k))+((k'))) (xf 9) wq:=hd ⟨9,.data⟩ (by simp) rfl;(try dsimp only);(try simp only [d6,d9]);go_simp;go_at_call 237;(with_reducible refine (pr _ b7 A7 n7 c7 ((((q).num) * (((q').den:Int)))+(((q').num) * (((q).den:Int)))) ((((k))+((k')))+(((k'))+((k)))+1) ?_ b8 A8 n8 c8 ((((q).den:Int)) * (((q').den:Int))) (((k))+((k'))) ?_ (q+q') (k+k'+1) ?_ ?_ ?_ ?_).mono ?_);(exact h7.iz);(exact h8.iz);(exact Int.mul_ne_zero (eJ _) (eJ _));(exact (ro _ _).symm);(exact rN HS.out HS'.out);(omega);rintro e wr ⟨b9,A9,n9,c9,A'9,n'9,c'9,rfl,h9,hbr⟩;have hz:=hK.out _ _ ⟨b9,A9,n9,c9,A'9,n'9,c'9,rfl,h9⟩ hbr;simp only [d6,d9] at hz
   exact hz⟩
 ·exact .inr (.inr (.inr ⟨⟨w.heap.size+1+1,11,0,65,#[.bool false,.slice none 0 0,.slice none 0 0],CQ (q+q') (k+k'+1)⟩,by simp,rfl,by simp,by simp,(show KT 65=false by decide),fun _ _=>True.intro,fun xf wq hblk hd=>by
   obtain ⟨b9,A9,n9,c9,A'9,n'9,c'9,d10,h9⟩:VQ (q+q') (k+k'+1) (xf 10) wq:=hd ⟨10,.data⟩ (by simp) rfl;dsimp only at hblk;refine ⟨[.bool b9,.slice A9 n9 c9,.slice A'9 n'9 c'9],fun w' hk=>⟨b9,A9,n9,c9,A'9,n'9,c'9,rfl,h9.keep hk⟩,fun K hK=>?_⟩;have hc0:wq.cell? ⟨w.heap.size+1+1,0,none⟩=some (.bool false):=hblk.cell 0;have hc1:wq.cell? ⟨w.heap.size+1+1,1,none⟩=some (.slice none 0 0):=hblk.cell 1;have hc2:wq.cell? ⟨w.heap.size+1+1,2,none⟩=some (.slice none 0 0):=hblk.cell 2;have hf0:wq.frozen? ⟨w.heap.size+1+1,0,none⟩=false:=hblk.frozen 0;have hf1:wq.frozen? ⟨w.heap.size+1+1,1,none⟩=false:=hblk.frozen 1;have hf2:wq.frozen? ⟨w.heap.size+1+1,2,none⟩=false:=hblk.frozen 2;(try dsimp only);simp only [d10];go_simp;have hz:=hK.out undef;simp only [d10] at hz
   exact hz⟩))
 clear cx2a lx2a cx2b lx2b cx3a lx3a cx3b lx3b;intro y4 w4 kq4 hbl4 lw4 how hrr hfl hds;replace h:=h.keep kq4;replace h':=h'.keep kq4;replace h1:=h1.keep kq4;replace h'1:=h'1.keep kq4;replace h2:=h2.keep kq4;replace h'2:=h'2.keep kq4;obtain ⟨_,z4_0,ez,_⟩:=how _ (List.Mem.head _);obtain rfl:=ez (by simp);dsimp only at z4_0;obtain ⟨_,z4_1,ez,_⟩:=how _ (List.Mem.tail _ (List.Mem.head _));obtain rfl:=ez (by simp);dsimp only at z4_1;obtain ⟨_,z4_2,_,ez⟩:=how _ (List.Mem.tail _ (List.Mem.tail _ (List.Mem.head _)));obtain ⟨b9,A9,n9,c9,A'9,n'9,c'9,rfl,h9⟩:=ez (by simp);dsimp only at z4_2;obtain ⟨_,z4_3,ez,_⟩:=how _ (List.Mem.tail _ (List.Mem.tail _ (List.Mem.tail _ (List.Mem.head _))));obtain rfl:=ez (by simp);dsimp only at z4_3;obtain ⟨_,z4_4,ez,_⟩:=how _ (List.Mem.tail _ (List.Mem.tail _ (List.Mem.tail _ (List.Mem.tail _ (List.Mem.head _)))));obtain rfl:=ez (by simp);dsimp only at z4_4;obtain ⟨_,z4_5,ez,_⟩:=how _ (List.Mem.tail _ (List.Mem.tail _ (List.Mem.tail _ (List.Mem.tail _ (List.Mem.tail _ (List.Mem.head _))))));obtain rfl:=ez (by simp);dsimp only at z4_5;obtain ⟨_,z4_6,ez,_⟩:=how _ (List.Mem.tail _ (List.Mem.tail _ (List.Mem.tail _ (List.Mem.tail _ (List.Mem.tail _ (List.Mem.tail _ (List.Mem.head _)))))));obtain rfl:=ez (by simp);dsimp only at z4_6;(try dsimp only);clear hrr hfl how hds;clear x1a x1b x1c x2a x2b x3a x3b;have bw4:=bw3.trans hbl4;clear bw3;have cz4_2_0:w4.cell? ⟨w.heap.size+1+1,0,none⟩=some (.bool b9):=z4_2.cell 0;have cz4_2_1:w4.cell? ⟨w.heap.size+1+1,1,none⟩=some (.slice A9 n9 c9):=z4_2.cell 1;have cz4_2_2:w4.cell? ⟨w.heap.size+1+1,2,none⟩=some (.slice A'9 n'9 c'9):=z4_2.cell 2;have lz4_2:=nV z4_2.lt;go_wp2_with fail;refine bodyPost_ret (v:=.agg #[.bool b9,.slice A9 n9 c9,.slice A'9 n'9 c'9]) (by simp [results,Tryz.results217,go_sem, *] <;> trivial) rfl ?_;exact ⟨b9,A9,n9,c9,A'9,n'9,c'9,rfl,h9.keep (Kp.refl w4),bw4⟩
theorem tK (w:World) (b A n c D m e q k) (h:QZ w b A n c D m e q k) (b' A' n' c' D' m' e' q' k') (h':QZ w b' A' n' c' D' m' e' q' k') (h0:0 < k) (hk:k≤40000000) (h0':0 < k') (hk':k'≤40000000) :
 Calls Tryz.prog 175 #[.agg #[.bool b,.slice A n c,.slice D m e],.agg #[.bool b',.slice A' n' c',.slice D' m' e']] w (qq w (q - q') (k+k'+1)):=by
 rw [show q - q'=q+-q' from Rat.sub_eq_add_neg q q'];go_in;go_wp2_with fail;have p1:=((((Kp.refl w).alloc (.cells #[.bool b,.slice A n c,.slice D m e] 65)).alloc (.cells #[.bool b',.slice A' n' c',.slice D' m' e'] 65)).alloc (.cells #[.bool false,.slice none 0 0,.slice none 0 0] 65));have bw1:=((((ae w).alloc (by first | omega | (simp <;> omega)) (.cells #[.bool b,.slice A n c,.slice D m e] 65)).alloc (by first | omega | (simp <;> omega)) (.cells #[.bool b',.slice A' n' c',.slice D' m' e'] 65)).alloc (by first | omega | (simp <;> omega)) (.cells #[.bool false,.slice none 0 0,.slice none 0 0] 65));have x1a:Blk (((w.alloc (.cells #[.bool b,.slice A n c,.slice D m e] 65)).alloc (.cells #[.bool b',.slice A' n' c',.slice D' m' e'] 65)).alloc (.cells #[.bool false,.slice none 0 0,.slice none 0 0] 65)) w.heap.size 65 #[.bool b,.slice A n c,.slice D m e]:=(((aj _ _ _ (by simp)).alloc (.cells #[.bool b',.slice A' n' c',.slice D' m' e'] 65)).alloc (.cells #[.bool false,.slice none 0 0,.slice none 0 0] 65));have x1b:Blk (((w.alloc (.cells #[.bool b,.slice A n c,.slice D m e] 65)).alloc (.cells #[.bool b',.slice A' n' c',.slice D' m' e'] 65)).alloc (.cells #[.bool false,.slice none 0 0,.slice none 0 0] 65)) (w.heap.size+1) 65 #[.bool b',.slice A' n' c',.slice D' m' e']:=((aj _ _ _ (by simp)).alloc (.cells #[.bool false,.slice none 0 0,.slice none 0 0] 65));have x1c:Blk (((w.alloc (.cells #[.bool b,.slice A n c,.slice D m e] 65)).alloc (.cells #[.bool b',.slice A' n' c',.slice D' m' e'] 65)).alloc (.cells #[.bool false,.slice none 0 0,.slice none 0 0] 65)) (w.heap.size+1+1) 65 #[.bool false,.slice none 0 0,.slice none 0 0]:=(aj _ _ _ (by simp));have lw1:w.heap.size+3≤(((w.alloc (.cells #[.bool b,.slice A n c,.slice D m e] 65)).alloc (.cells #[.bool b',.slice A' n' c',.slice D' m' e'] 65)).alloc (.cells #[.bool false,.slice none 0 0,.slice none 0 0] 65)).heap.size:=by simp
 generalize hE1:(((w.alloc (.cells #[.bool b,.slice A n c,.slice D m e] 65)).alloc (.cells #[.bool b',.slice A' n' c',.slice D' m' e'] 65)).alloc (.cells #[.bool false,.slice none 0 0,.slice none 0 0] 65))=w1 at p1 bw1 lw1 x1a x1b x1c ⊢;clear hE1;replace h:=h.keep p1;replace h':=h'.keep p1;have cx1a:=x1a.c3;have lx1a:=ci x1a.lt;have cx1b:=x1b.c3;have lx1b:=dC x1b.lt;obtain ⟨cx1ca,cx1cb,cx1cc⟩:=x1c.c3;obtain ⟨fx1ca,fx1cb,fx1cc⟩:=x1c.f3;have lx1c:=nV x1c.lt;have nfx1_0_0:¬ w.heap.size=w.heap.size+1+1:=by omega
 have nex1_0_0:¬ w.heap.size=w.heap.size+2:=by omega
 have nfx1_1_0:¬ w.heap.size+1=w.heap.size+1+1:=by omega
 have nex1_1_0:¬ w.heap.size=w.heap.size+1:=by omega
 go_region_held3 (fun w'=>SeesX w1.heap.size (w.heap.size+1+1) w1 w') (first | with_reducible exact SeesX.of Qr (by assumption) | with_reducible exact SeesX.of Qr (ae _).drew | with_reducible exact (SeesX.set (SeesX.set (SeesX.set (SeesX.of Qr (by assumption))))) | with_reducible exact (SeesX.set (SeesX.set (SeesX.of Qr (by assumption)))) | with_reducible exact (SeesX.set (SeesX.of Qr (by assumption))) | exact SeesX.of Qr (aa (ae _) 1) | exact SeesX.of Qr (aa (by assumption) _))
  (first
   | (go_at_call 203;(with_reducible refine (tI _ b' A' n' c' D' m' e' (q') (k') ?_ ?_ ?_).mono ?_);(exact h');(omega);(omega);rintro e w2 ⟨b2,A2,n2,c2,A'2,n'2,c'2,rfl,h2,hb2⟩;replace hb2:=af (aa (ae _) 1) hb2;have q2:Below w1.heap.size w1 w2:=af (ae w1) hb2;replace h:=h.belw hb2;replace h':=h'.belw hb2)
   | (go_at_call 217;(with_reducible refine (tJ _ b A n c D m e (q) (k) ?_ b2 A2 n2 c2 A'2 n'2 c'2 (-(q')) ((k')) ?_ ?_ ?_ ?_ ?_).mono ?_);(exact h);(exact h2.qz);(omega);(omega);(omega);(omega);rintro e w3 ⟨b3,A3,n3,c3,A'3,n'3,c'3,rfl,h3,hb3⟩;have q3:Below w1.heap.size w1 w3:=af q2 hb3;replace h:=h.belw hb3;replace h':=h'.belw hb3;replace h2:=h2.belw hb3;have x1c:=x1c.b q3;obtain ⟨cx1ca,cx1cb,cx1cc⟩:=x1c.c3;obtain ⟨fx1ca,fx1cb,fx1cc⟩:=x1c.f3))
 have bw3:=bw1.trans (q3.mono bw1.size);clear cx1a lx1a cx1b lx1b cx1ca fx1ca cx1cb fx1cb cx1cc fx1cc lx1c;replace x1a:=x1a.b q3;replace x1b:=x1b.b q3;have lw3:=q3.size;obtain ⟨cx1ca,cx1cb,cx1cc⟩:=x1c.c3;obtain ⟨fx1ca,fx1cb,fx1cc⟩:=x1c.f3;go_wp2_with fail;refine bodyPost_ret (v:=.agg #[.bool b3,.slice A3 n3 c3,.slice A'3 n'3 c'3]) (by simp [results,Tryz.results175,go_sem, *] <;> trivial) rfl ?_;exact ⟨b3,A3,n3,c3,A'3,n'3,c'3,rfl,h3.keep ((((Kp.refl w3).sb (w.heap.size+1+1) 0 x1c.box (by decide) (.bool b3)).sb (w.heap.size+1+1) 1 (x1c.box.set ⟨w.heap.size+1+1,0,none⟩ (.bool b3)) (by decide) (.slice A3 n3 c3)).sb (w.heap.size+1+1) 2 ((x1c.box.set ⟨w.heap.size+1+1,0,none⟩ (.bool b3)).set ⟨w.heap.size+1+1,1,none⟩ (.slice A3 n3 c3)) (by decide) (.slice A'3 n'3 c'3)),(((bw3.sc (w.heap.size+1+1) 0 (by omega) (.bool b3)).sc (w.heap.size+1+1) 1 (by omega) (.slice A3 n3 c3)).sc (w.heap.size+1+1) 2 (by omega) (.slice A'3 n'3 c'3))⟩
theorem tL (w:World) (b A n c D m e q k) (h:QZ w b A n c D m e q k) (b' A' n' c' D' m' e' q' k') (h':QZ w b' A' n' c' D' m' e' q' k') (h0:0 < k) (hk:k≤10000000) (h0':0 < k') (hk':k'≤10000000) :
 Calls Tryz.prog 136 #[.agg #[.bool b,.slice A n c,.slice D m e],.agg #[.bool b',.slice A' n' c',.slice D' m' e']] w (ax w (.int .i64 (q - q').num.sign)):=by
 go_in;go_wp2_with fail;(with_reducible refine (tK _ b A n c D m e (q) (k) ?_ b' A' n' c' D' m' e' (q') (k') ?_ ?_ ?_ ?_ ?_).mono ?_);(exact (h.belw (((Below.refl _ _).alloc Qr _).alloc (by simp) _)));(exact (h'.belw (((Below.refl _ _).alloc Qr _).alloc (by simp) _)));(omega);(omega);(omega);(omega);rintro e w1 ⟨b1,A1,n1,c1,A'1,n'1,c'1,rfl,h1,hb1⟩;have q1:=hb1.q2;replace h:=h.belw q1;replace h':=h'.belw q1;have x1a:Blk w1 w.heap.size 65 #[.bool b,.slice A n c,.slice D m e]:=((aj _ _ _ (by simp)).alloc _).below hb1 (by simp <;> omega);have x1b:=(aj _ _ _ (g:=w.heap.size+1) (by simp)).below hb1 (by simp);have bw1:=(ae w).trans (q1.mono (ae w).size);have lw1:=hb1.l2;clear q1;go_wp2_with fail;(with_reducible refine (sy _ b1 A1 n1 c1 A'1 n'1 c'1 ((q) - (q')) ((k)+(k')+1) ?_ ?_ ?_).mono ?_);(exact h1.qz);(omega);(omega);rintro e w2 ⟨rfl,q2⟩;replace h:=h.belw q2;replace h':=h'.belw q2;replace h1:=h1.belw q2;replace x1a:=x1a.b q2;replace x1b:=x1b.b q2;have bw2:=bw1.trans (q2.mono bw1.size);have lw2:=q2.size;clear q2 bw1;go_wp2;go_ret;exact dk rfl bw2
theorem Four.b {w w':World}{g1 g2 g3 g4 t:Nat}{c1 c2 c3 c4:Array Value}(X:Blk w g1 t c1∧Blk w g2 t c2∧Blk w g3 t c3∧Blk w g4 t c4) (hb:Below w.heap.size w w'):Blk w' g1 t c1∧Blk w' g2 t c2∧Blk w' g3 t c3∧Blk w' g4 t c4:=⟨X.1.below hb X.1.lt,X.2.1.below hb X.2.1.lt,X.2.2.1.below hb X.2.2.1.lt,X.2.2.2.below hb X.2.2.2.lt⟩
theorem FourV.b {w w':World}{b1 b2 b3 b4:Bool}{A1 A2 A3 A4:Option Addr}{n1 n2 n3 n4 c1 c2 c3 c4 k1 k2 k3 k4:Nat}{z1 z2 z3 z4:Int}(H:IV w b1 A1 n1 c1 z1 k1∧IV w b2 A2 n2 c2 z2 k2∧IV w b3 A3 n3 c3 z3 k3∧IV w b4 A4 n4 c4 z4 k4) (hb:Below w.heap.size w w'):IV w' b1 A1 n1 c1 z1 k1∧IV w' b2 A2 n2 c2 z2 k2∧IV w' b3 A3 n3 c3 z3 k3∧IV w' b4 A4 n4 c4 z4 k4:=⟨H.1.belw hb,H.2.1.belw hb,H.2.2.1.belw hb,H.2.2.2.belw hb⟩
end Go.Proofs.YtfilnhompchciaaGreatDoor
namespace Bn
open Go.Lib
def aQ (q:Rat):List UInt8:=if q.den=1 then itoa q.num else itoa q.num ++ 47 :: itoa (q.den:Int)
end Bn

/- Walks: the opening of the integer laws. -/
namespace Go.Proofs.YtfilnhompchciaaGreatDoor
open Go Go.RowKit Bn
attribute [local go_sem ↓] Go.wp_at_zero Go.wp_at_succ
theorem IZ.short {w:World}{b:Bool}{A:Option Addr}{n c k:Nat}{z:Int}(h:IZ w b A n c z k) (hs:n≤30):IZ w b A n c z 30:=by
 obtain ⟨l,h1,h2,_⟩:=h;exact ⟨l,h1,h2,hs⟩
theorem qZ (a b:Rat):bV (a.num * b.den) (b.num * a.den)=gf a b:=by
 unfold bV gf;have h:=s9 a b;by_cases h1:a < b
 ·rw [if_pos h1,if_pos (h.1.2 h1)]
 rw [if_neg h1,if_neg (fun x=>h1 (h.1.1 x))];by_cases h2:a=b
 ·rw [if_pos h2,if_pos (h.2.2 h2)]
 rw [if_neg h2,if_neg (fun x=>h2 (h.2.1 x))]
theorem sH (q q':Rat):(q - q').num.sign=gf q q':=by
 have h1:=rM (q - q');rw [h1];unfold gf;have h2:(q - q' < 0) ↔ q < q':=by constructor <;> intro h <;> grind
 have h3:(q - q'=0) ↔ q=q':=by constructor <;> intro h <;> grind
 by_cases h4:q < q'
 ·rw [if_pos h4,if_pos (h2.2 h4)]
 rw [if_neg h4,if_neg (fun h=>h4 (h2.1 h))];by_cases h5:q=q'
 ·rw [if_pos h5,if_pos (h3.2 h5)]
 rw [if_neg h5,if_neg (fun h=>h5 (h3.1 h))]
theorem gr (w:World) (b A n c D m e q k) (h:QZ w b A n c D m e q k) (b' A' n' c' D' m' e' q' k') (h':QZ w b' A' n' c' D' m' e' q' k') (s:Int) (hs:gf q q'=s) (h0:0 < k) (hk:k≤40000000) (h0':0 < k') (hk':k'≤40000000):Calls Tryz.prog 155 #[.agg #[.bool b,.slice A n c,.slice D m e],.agg #[.bool b',.slice A' n' c',.slice D' m' e']] w (ax w (.int .i64 s)):=by
 subst hs;rw [← qZ];exact tC w b A n c D m e q k h b' A' n' c' D' m' e' q' k' h' h0 hk h0' hk'
theorem ma (w:World) (b A n c D m e q k) (h:QZ w b A n c D m e q k) (b' A' n' c' D' m' e' q' k') (h':QZ w b' A' n' c' D' m' e' q' k') (s:Int) (hs:gf q q'=s) (h0:0 < k) (hk:k≤10000000) (h0':0 < k') (hk':k'≤10000000):Calls Tryz.prog 136 #[.agg #[.bool b,.slice A n c,.slice D m e],.agg #[.bool b',.slice A' n' c',.slice D' m' e']] w (ax w (.int .i64 s)):=by
 subst hs;rw [← sH];exact tL w b A n c D m e q k h b' A' n' c' D' m' e' q' k' h' h0 hk h0' hk'

theorem nh {N k r:Nat}{s:List UInt8}(h:DgI N 0 k r s) (hr:¬ 0 < r):Lib.decDigits N=dg 0 ++ s:=by
 have:r=0:=by omega
 subst this;exact h.done0
def dch (d:Nat):UInt8:=UInt8.ofNat (48+d)
theorem ni {d:Nat}(h:d < 10):(⟨#[48,49,50,51,52,53,54,55,56,57]⟩:ByteArray).extract d (d+1)=⟨[dch d].toArray⟩:=by
 have:∀ d:Fin 10,(⟨#[48,49,50,51,52,53,54,55,56,57]⟩:ByteArray).extract d (d+1)=⟨[UInt8.ofNat (48+d)].toArray⟩:=by decide
 exact this ⟨d,h⟩
theorem rD (w:World) (b:Bool) (A:Option Addr) (n c:Nat) (l:List Nat) (f:Bool) (wa:Wd w A n c l) (hn:n≤1000000000) (hf:WD.s ⟨b,l⟩=f) :
 Calls Tryz.prog 222 #[.agg #[.bool b,.slice A n c]] w (ax w (.bool f)):=dE w b A n c l f wa (by omega) hf
def sI (M:Nat) (W0 wr:World) (m sv:Value):Prop:=∃ A1 n1 c1 q s,m=.slice A1 n1 c1∧sv=ah s∧n1≤1000000000∧nU (Wd wr A1 n1 c1 (ak q)∧Lib.decDigits M=dg q ++ s)∧Below W0.heap.size W0 wr
def tM (M q:Nat) (sv rv kv:Value):Prop:=∃ k r s,sv=ah s∧rv=.int .u64 (r:Nat)∧kv=.int .i64 (k:Nat)∧k≤9∧r < 1000000000∧nU (DgI M q k r s)
theorem pt (w:World) (b:Bool) (A n c l) (wa:Wd w A n c l) (hn:n≤1000000000) :
 Calls Tryz.prog 185 #[.agg #[.bool b,.slice A n c]] w (ax w (ah (Lib.itoa (WD.z ⟨b,l⟩)))):=by
 have HL:=Qh wa.2.1;have hcm:aI (WD.m ⟨b,l⟩):=WD.canon_m wa.1;obtain ⟨M,hM⟩:∃ M,WD.m ⟨b,l⟩=ak M:=⟨_,(cq hcm).symm⟩;have hab:(WD.z ⟨b,l⟩).natAbs=M:=by rw [fU,hM,ai]
 obtain ⟨T,hT⟩:∃ T,T=Lib.itoa (WD.z ⟨b,l⟩):=⟨_,rfl⟩;rw [dI,hab] at hT;rw [dI,hab,← hT];have HT:=Qh hT;have HM:=Qh hM;have HA:=Qh hab;clear hT hM hab hcm;have b0:Below w.heap.size w (w.alloc (.cells #[.bool b,.slice A n c] 194)):=(Below.refl _ _).alloc Qr _;have x0:Blk (w.alloc (.cells #[.bool b,.slice A n c] 194)) w.heap.size 194 #[.bool b,.slice A n c]:=aj _ _ _ rfl;by_cases hM0:M=0
 ·subst hM0
  have hz:(WD.z ⟨b,l⟩) < 0→False:=by have:=HA.out;omega
  have hT0:T=[48]:=by rw [HT.out,if_neg (fun h=>hz h)];exact Lib.decDigits_one (by omega)
  subst hT0;go_in;go_wp2_with (go_at_call 215;(with_reducible refine (bK _ b A n c l ?_ ?_).mono ?_);(exact wa.belw b0);(omega);rintro e w1 ⟨A1,n1,c1,rfl,h1,hb1⟩;rw [HM.out,ap] at h1;obtain rfl:n1=0:=h1.2.1);go_ret;exact ⟨rfl,b0.trans (hb1.mono b0.size)⟩
 have hMp:0 < M:=Nat.pos_of_ne_zero hM0;have HMP:=Qh hMp;clear hM0 hMp;go_in;go_wp2_with (go_at_call 215;(with_reducible refine (bK _ b A n c l ?_ ?_).mono ?_);(exact wa.belw b0);(omega);rintro e w1 ⟨A1,n1,c1,rfl,h1,hb1⟩;have hn1:n1≤1000000000:=h1.m_len (by rw [← HL.out];exact hn);rw [HM.out] at h1;have e1:((n1:Int) == 0)=false:=(by have h9:n1≠0:=(fun e=>by have h8:=h1.2.1;rw [e] at h8;exact absurd (aE.1 (List.eq_nil_of_length_eq_zero h8.symm)) (by have:=HMP.out;omega));simp;exact h9));clear e1;go_loopw [3,4] (fun mv sv wr=>sI M w1 wr mv sv) (fun mv _ wr=>valOf wr mv)
 case atStart=>exact ⟨A1,n1,c1,M,[],rfl,rfl,hn1,⟨h1,by rw [sA HMP.out];simp⟩,ae _⟩
 case round =>
  obtain ⟨wo,hwo⟩:∃ x,x=wr:=⟨_,rfl⟩;subst hwo;obtain ⟨A3,n3,c3,q,s,rfl,rfl,hn3,hK,rr⟩:=hrel;have hm5:valOf wo (.slice A3 n3 c3)=q:=by rw [hK.1.valOf,ai]
  have hnd:Lib.nDigits M≤10 * 1000000000:=cV hn1 (by omega) (by have:=h1.vlt Qr;rw [ai] at this;exact this);have hln:=pg hK.2;have x1:Blk w1 w.heap.size 194 #[.bool b,.slice A n c]:=x0.below hb1 (by simp);have x2:=x1.below rr x1.lt;have bw:=((b0.trans (hb1.mono b0.size)).trans (rr.mono (by have:=hb1.size;have:=b0.size;omega)));by_cases hq0:q=0
  ·subst hq0
   have h0:n3=0:=by have:=hK.1.2.1;rw [ap] at this;exact this
   subst h0;have hps:Lib.decDigits M=s:=by have:=hK.2;rw [qR] at this;exact this
   have cx0:=x2.c2;have HP:=Qh hps;have HA2:=Qh (show (WD.z ⟨b,l⟩)=sgn (WD.s ⟨b,l⟩) M by rw [WD.z_eq,HM.out,ai]);have hsz:(⟨s.toArray⟩:ByteArray).size≤10000000000:=by show s.length≤_;omega
   clear hps x1 x2;cases hs:WD.s ⟨b,l⟩
   ·have HS:=Qh hs
    have HT2:=Qh (show T=s by rw [HT.out,HP.out,HA2.out,hs,if_neg (by simp [sgn])];rfl);clear hs;go_wp2_with (go_at_call 222;(with_reducible refine (rD _ b A n c l false ?_ ?_ HS.out).mono ?_);(exact wa.belw bw);omega;rintro e w3 ⟨rfl,hb3⟩);go_ret;exact ⟨by rw [HT2.out];rfl,bw.trans (hb3.mono bw.size)⟩
   have HS:=Qh hs;have HT2:=Qh (show T=45 :: s by rw [HT.out,HP.out,HA2.out,hs,if_pos (by simp [sgn];have:=HMP.out;omega)];rfl);clear hs;go_wp2_with (go_at_call 222;(with_reducible refine (rD _ b A n c l true ?_ ?_ HS.out).mono ?_);(exact wa.belw bw);omega;rintro e w3 ⟨rfl,hb3⟩);go_ret;refine ⟨?_,bw.trans (hb3.mono bw.size)⟩;rw [HT2.out];exact congrArg (fun x=>Ending.returned (.string x)) (fV [45] s)
  have hqp:0 < q:=Nat.pos_of_ne_zero hq0;have hn30:n3≠0:=fun e=>hq0 (aE.1 (List.eq_nil_of_length_eq_zero (by rw [← hK.1.2.1];exact e)))
  have hn3p:0 < n3:=by omega
  have HL3:=Qh hK.1.2.1;have HQP:=Qh hqp;obtain ⟨lq,hlq⟩:∃ lq,ak q=lq:=⟨_,rfl⟩;have HLQ:=Qh hlq;have hvq:val lq=q:=by rw [← hlq,ai]
  have HVQ:=Qh hvq;have hw3:=hK.1;rw [hlq] at hw3 HL3;clear hq0 hqp hn30 hlq hvq x1;go_wp2_with (at_make;refine aF _ rfl _ _ rfl _ _ _ _ n3 rfl rfl (by omega) (by omega) (by omega) ?_);go_loopw [5,7] (fun rv iv wx=>∃ (k r:Nat) (L:List Nat),k≤n3∧iv=.int .i64 ((k:Int) - 1)∧rv=.int .u64 (r:Nat)∧r < 1000000000∧L.length=n3∧oj lq L 1000000000 k r∧Blk wx wo.heap.size 58 (cellsOf L)∧Below wo.heap.size wo wx) (fun _ iv _=>(intOf iv+1).toNat)
  case atStart=>exact ⟨n3,0,List.replicate n3 0,Qr,rfl,rfl,by omega,by simp,⟨by intro x hx;rw [List.eq_of_mem_replicate hx];omega,by omega,by rw [HL3.out];simp [val]⟩,Blk.new _ _ _,(Below.refl _ _).alloc Qr _⟩
  case round =>
   obtain ⟨k,r,L,hk,rfl,rfl,hr,hLM,hI,hB,hbel⟩:=hrel;have HI:=Qh hI;have HB:=Qh hB;have HLM:=Qh hLM;clear hI hB hLM;by_cases hk0:k=0
   ·subst hk0
    have h1':=HI.out.2.2;simp only [List.drop_zero] at h1'
    have hq':val lq / 1000000000=val L:=by
     rw [h1',Nat.mul_add_div (by omega),Nat.div_eq_of_lt HI.out.2.1,Nat.add_zero]
    have hm':val lq % 1000000000=r:=by rw [h1'];rw [Nat.mul_add_mod];exact Nat.mod_eq_of_lt HI.out.2.1
    rw [HVQ.out] at hq' hm';have hst:=DgI.start hK.2;rw [hm',hq'] at hst;obtain ⟨q',hqq⟩:∃ q',val L=q':=⟨_,rfl⟩;rw [hqq] at hst hq';have HQ:=Qh (And.intro hq' hm');have HQQ:=Qh hqq;have HST:=Qh hst;clear hq' hm' h1' hqq hst;go_wp2_with (go_at_call 221;(with_reducible refine (cA _ _ n3 n3 L ?_ ?_).mono ?_);(exact HB.out.wdN HI.out.1 HLM.out);omega;rintro e w4 ⟨A4,n4,c4,rfl,h4,hb4⟩;rw [HQQ.out] at h4)
    have hn4:n4≤1000000000:=by
     rw [h4.2.1];exact Nat.le_trans (aD (Nat.lt_of_le_of_lt (by rw [← HQ.out.1];exact Nat.div_le_self _ _) (by have:=hK.1.vlt Qr;rw [ai] at this;exact this))) hn3
    have H4:=Qh h4;have HLT:=Qh (show q' < q by rw [← HQ.out.1];exact Nat.div_lt_self HQP.out (by omega));have hb5:Below wo.heap.size wo w4:=hbel.trans (hb4.mono hbel.size);clear h4;go_loop [4,5,8] (fun sv rv kv=>tM M q' sv rv kv) (fun _ _ kv=>9 - (intOf kv).toNat)
    case atStart=>exact ⟨0,r,s,rfl,rfl,rfl,by omega,hr,HST.out⟩
    case round =>
     obtain ⟨j,r1,s1,rfl,rfl,rfl,hj,hr1,hG⟩:=hrel;have hl1:=hG.len;have hsz:(⟨s1.toArray⟩:ByteArray).size≤10000000000:=by show s1.length≤_;omega
     by_cases hj9:j=9
     ·subst hj9
      go_wp2;go_roundw
      case rel=>exact ⟨A4,n4,c4,q',s1,rfl,rfl,hn4,⟨H4.out,hG.done9⟩,rr.trans (hb5.mono rr.size)⟩
      case measure=>rw [H4.out.valOf,hm5,ai];exact HLT.out
     have hj8:j < 9:=by omega
     obtain ⟨d,hd⟩:∃ d,r1 % 10=d:=⟨_,rfl⟩;obtain ⟨r2,hr2⟩:∃ r2,r1 / 10=r2:=⟨_,rfl⟩;have hd10:d < 10:=by omega
     have e1:(r1:Int) % 10=(d:Int):=by omega
     have e2:(r1:Int) / 10=(r2:Int):=by omega
     have e4:(⟨#[48,49,50,51,52,53,54,55,56,57]⟩:ByteArray).extract d (d+1)=⟨[dch d].toArray⟩:=ni hd10;have HD:=Qh (And.intro hd hr2);clear hd hr2 hj9;by_cases h0:0 < r1
     ·have HG:=Qh (hG.step hj8 (.inl h0))
      rw [HD.out.1,HD.out.2] at HG;clear hG;go_wp2;go_round
      case rel=>exact ⟨j+1,r2,_,rfl,rfl,by go_num,by omega,by have:=HD.out.2;omega,HG.out⟩
      case measure=>simp [intOf];omega
     by_cases h1:q'=0
     ·subst h1
      have hn40:n4=0:=by have:=H4.out.2.1;rw [ap] at this;exact this
      subst hn40;go_wp2;go_roundw
      case rel=>exact ⟨A4,0,c4,0,s1,rfl,rfl,by omega,⟨H4.out,nh hG h0⟩,rr.trans (hb5.mono rr.size)⟩
      case measure=>rw [H4.out.valOf,hm5,ai];exact HLT.out
     have hn4p:0 < n4:=Nat.pos_of_ne_zero fun e=>h1 (aE.1 (List.eq_nil_of_length_eq_zero (by rw [← H4.out.2.1];exact e)))
     have HG:=Qh (hG.step hj8 (.inr (Nat.pos_of_ne_zero h1)));rw [HD.out.1,HD.out.2] at HG;clear hG h1;go_wp2;go_round
     case rel=>exact ⟨j+1,r2,_,rfl,rfl,by go_num,by omega,by have:=HD.out.2;omega,HG.out⟩
     case measure=>simp [intOf];omega
   obtain ⟨g,o,rfl,hgl,hc1⟩:=(hw3.keep ((Kp.refl wo).below hbel)).at2 hn3p;have hcx:=hc1 (k - 1) (by omega);obtain ⟨x,hx⟩:∃ x,wd lq (k - 1)=x:=⟨_,rfl⟩;have hx1:x < 4294967296:=by rw [← hx];exact hw3.lt _
   rw [hx] at hcx;have HX:=Qh hx;have hck:=HB.out.cell (k - 1);rw [au (by rw [HLM.out];omega)] at hck;have hfk:=HB.out.frozen (k - 1);have hkp:0 < k:=by omega
   obtain ⟨sx,hs⟩:∃ s:Nat,s=r * 4294967296+x:=⟨_,rfl⟩;have e1:bits .or .u64 ((r:Int) * 4294967296) (x:Int)=(sx:Int):=by rw [hs];exact dW (by omega) hx1
   have HS:=Qh hs;have hsb:sx / 1000000000 < 4294967296:=by rw [hs];omega
   obtain ⟨t,ht⟩:∃ t:Nat,sx / 1000000000=t:=⟨_,rfl⟩;obtain ⟨r2,hr2⟩:∃ r2,sx % 1000000000=r2:=⟨_,rfl⟩;rw [ht] at hsb;have e2:(sx:Int) / 1000000000=(t:Int):=by omega
   have e3:(sx:Int) % 1000000000=(r2:Int):=by omega
   have hsx:sx < 18446744073709551616:=by omega
   have hr3:r2 < 1000000000:=by omega
   have HT:=Qh (And.intro ht hr2);clear hx hc1 hk0 hs ht hr2;go_wp2;clear e1 e2 e3;go_roundw
   case rel =>
    refine ⟨k - 1,r2,L.set (k - 1) t,by omega,by go_num,by congr 1;have:=HT.out.2;omega,hr3,by rw [List.length_set];exact HLM.out,⟨wds_set HI.out.1 _ hsb,hr3,?_⟩,?_,hbel.setCell Qr _⟩
    ·rw [dK lq (by rw [← HL3.out];omega),dK (L.set (k - 1) t) (by rw [List.length_set,HLM.out];omega),eF,show k - 1+1=k by omega,HX.out,bf,if_pos ⟨rfl,by rw [HLM.out];omega⟩,← HT.out.1,← HT.out.2,HS.out]
     exact gz HI.out.2.2
    exact HB.out.setW (k - 1) _ _ (by omega)
   case measure=>simp [intOf];omega

theorem nk (w:World):Calls Tryz.prog 13 #[.nilIface] w (ax w (.int .i64 0)):=by
 go_in;go_wp2;go_ret;exact ⟨rfl,ae w⟩
theorem lz (x:Int) (w:World):(Instr.typeAssert (.iface 49 (.int .i64 x)) 26 49 true).run Tryz.prog w=.ok (.tuple #[.int .i64 x,.bool true]) w:=by
 simp [Instr.typeAssert,run_underlying Tryz.underlying49]
theorem nl (w:World) (x:Int):Calls Tryz.prog 13 #[.iface 49 (.int .i64 x)] w (ax w (.int .i64 x)):=by
 go_in;have hr:=lz x;go_wp2;go_ret;exact ⟨rfl,ae w⟩
theorem gZ (w:World) (b A n c z k) (h:IZ w b A n c z k) (T:List UInt8) (hk:k≤1000000000) (ht:Tab w) (hT:Lib.itoa z=T):Calls Tryz.prog 182 #[.agg #[.bool b,.slice A n c]] w (ax w (ah T)):=by
 subst hT;obtain ⟨l,h1,rfl,h3⟩:=h;exact sh w b A n c l h1 (by omega) ht
theorem eO (w:World) (b A n c z k) (h:IZ w b A n c z k) (T:List UInt8) (hk:k≤1000000000) (hT:Lib.itoa z=T):Calls Tryz.prog 185 #[.agg #[.bool b,.slice A n c]] w (ax w (ah T)):=by
 subst hT;obtain ⟨l,h1,rfl,h3⟩:=h;exact pt w b A n c l h1 (by omega)
theorem mb (w:World) (b A n c z k) (h:IZ w b A n c z k) (b' A' n' c' z' k') (h':IZ w b' A' n' c' z' k') (v:Int) (hv:bV z z'=v) (hk:k+k'≤1000000000):Calls Tryz.prog 152 #[.agg #[.bool b,.slice A n c],.agg #[.bool b',.slice A' n' c']] w (ax w (.int .i64 v)):=by
 subst hv;exact oG w b A n c z k h b' A' n' c' z' k' h' hk
end Go.Proofs.YtfilnhompchciaaGreatDoor
namespace Bn
open Go.Lib
def rE (F B:List UInt8):Bool:=okZ (fv F) && decide (0≤jH (fv F)) && decide (B≠[]) && B.all bZ
def tN (F B:List UInt8):Int:=jH (fv F) * 10 ^ B.length+bH B
def ur (F B:List UInt8):Rat:=Rat.divInt (if ph F then -(tN F B) else tN F B) (10 ^ B.length)
def rF (F B:List UInt8):Bool:=okZ F && okZ B && decide (0 < jH B) && decide (jH B≠1) && decide (Nat.gcd (jH F).natAbs (jH B).natAbs=1)
inductive ub (s:List UInt8) (x:Int) (q:Rat):Prop
  | big (h:65536 < s.length) (hx:x=4) (hq:q=0)
  | dot (F B:List UInt8) (hl:s.length≤65536) (hs:s=F ++ 46 :: B) (hF:46 ∉ F) (h64:s.length≤64) (h:rE F B=true) (hx:x=0) (hq:q=ur F B)
  | dotNo (F B:List UInt8) (hl:s.length≤65536) (hs:s=F ++ 46 :: B) (hF:46 ∉ F) (h:64 < s.length∨rE F B=false) (hx:x=2) (hq:q=0)
  | quo (F B:List UInt8) (hl:s.length≤65536) (hd:46 ∉ s) (hs:s=F ++ 47 :: B) (hF:47 ∉ F) (h:rF F B=true) (hx:x=0) (hq:q=Rat.divInt (jH F) (jH B))
  | quoNo (F B:List UInt8) (hl:s.length≤65536) (hd:46 ∉ s) (hs:s=F ++ 47 :: B) (hF:47 ∉ F) (h:rF F B=false) (hx:x=2) (hq:q=0)
  | whole (hl:s.length≤65536) (hd:46 ∉ s) (hs:47 ∉ s) (h:okZ s=true) (hx:x=0) (hq:q=((jH s:Int):Rat))
  | wholeNo (hl:s.length≤65536) (hd:46 ∉ s) (hs:47 ∉ s) (h:okZ s=false) (hx:x=2) (hq:q=0)
end Bn

/- Walks: linkworkref01.Parse. -/
namespace Go.Proofs.YtfilnhompchciaaGreatDoor
open Go Go.RowKit Bn
attribute [local go_sem ↓] Go.wp_at_zero Go.wp_at_succ

def sJ (w:World) (T:List UInt8) (m:Bool) (k:Nat) (e:Ending) (w':World):Prop :=
  if T.all bZ=true then iX w (.int .i64 0) (if m then -(bH T:Int) else bH T) k e w' else iX w (.int .i64 2) 0 0 e w'
theorem sJ.good {w w':World}{T:List UInt8}{m:Bool}{k:Nat}{e:Ending}(h:T.all bZ=true) (hr:iX w (.int .i64 0) (if m then -(bH T:Int) else bH T) k e w'):sJ w T m k e w':=by
 unfold sJ;rw [if_pos h];exact hr
def cS (x:Int):Value:=if x=0 then .nilIface else .iface 49 (.int .i64 x)
theorem iX.mono {w w':World}{v:Value}{z:Int}{k j:Nat}{e:Ending}(h:iX w v z k e w') (hk:k≤j):iX w v z j e w':=by
 obtain ⟨b,A,n,c,h1,h2,h3⟩:=h;exact ⟨b,A,n,c,h1,h2.mono hk,h3⟩
theorem ra (w:World) (x:Int):Calls Tryz.prog 13 #[cS x] w (ax w (.int .i64 x)):=by
 unfold cS;split
 ·rename_i h;subst h;exact nk w
 exact nl w x
def ut (t:Tkn):List Value:=[.int .i64 (t.kind:Nat),ah t.text,.int .i64 (t.line:Nat),.int .i64 (t.col:Nat)]
def fZ (l:List Tkn):List Value:=l.flatMap ut
def TkS (w:World) (A:Option Addr) (n c:Nat) (l:List Tkn):Prop:=l.length=n∧((n=0∧A=none∧c=0)∨∃ g,A=some ⟨g,0,none⟩∧n≤c∧∀ i v,(fZ l)[i]?=some v→w.cell? ⟨g,i,none⟩=some v)
theorem TkS.belw {w w':World}{A:Option Addr}{n c:Nat}{l:List Tkn}(h:TkS w A n c l) (hb:Below w.heap.size w w'):TkS w' A n c l:=by
 refine ⟨h.1,?_⟩;rcases h.2 with h | ⟨g,e,hc,h⟩
 ·exact .inl h
 exact .inr ⟨g,e,hc,fun i v hv=>(hb.cell (p:=⟨g,i,none⟩) (World.block_lt_of_cell? w _ (h i v hv))).trans (h i v hv)⟩
theorem TkS.nil (w:World):TkS w none 0 0 []:=⟨rfl,.inl ⟨rfl,rfl,rfl⟩⟩
theorem TkS.of_own {w:World}{base:Nat}{e:TypeId}{v:Value}{l:List Tkn}(h:w.ownsRow base e 4 v l.length (fZ l)):∃ A c,v=.slice A l.length c∧TkS w A l.length c l:=by
 rcases h.2 with ⟨rfl,h0⟩ | ⟨g,cap,cur,rfl,hb,hg,hn,hc,hs,ht⟩
 ·exact ⟨none,0,by rw [h0],rfl,.inl ⟨h0,rfl,rfl⟩⟩
 refine ⟨_,_,rfl,rfl,.inr ⟨g,rfl,hn,fun i v hv=>?_⟩⟩;rw [cell_of_row w g i cur e (0,0) hg];rw [← ht,List.getElem?_take] at hv;split at hv
 ·simpa using hv
 cases hv
def pre (d:List Tkn):jI→jI
  | .ok l=>.ok (d ++ l)
  | .err x=>.err x
inductive tP (s:List UInt8) (x:Int) (l:List Tkn):Prop
  | big (h:65536 < s.length) (hx:x=4) (hl:l=[])
  | ok (h:s.length≤65536) (ht:jK s=.ok l) (hx:x=0)
  | err (n:Nat) (h:s.length≤65536) (ht:jK s=.err n) (hx:x=(n:Int)) (hl:l=[])
theorem pu {l:List Tkn}{i:Nat}(h:i < l.length):(fZ l)[i * 4]?=some (.int .i64 (l[i].kind:Nat))∧(fZ l)[i * 4+1]?=some (ah l[i].text)∧(fZ l)[i * 4+2]?=some (.int .i64 (l[i].line:Nat))∧(fZ l)[i * 4+3]?=some (.int .i64 (l[i].col:Nat)):=by
 induction l generalizing i with
 | nil=>simp at h
 | cons t l ih =>
  have e:fZ (t :: l)=[.int .i64 (t.kind:Nat),ah t.text,.int .i64 (t.line:Nat),.int .i64 (t.col:Nat)] ++ fZ l:=rfl;rw [e]
  cases i with
  | zero=>simp
  | succ i =>
   have h1:=ih (i:=i) (by simpa using h);have s:(i+1) * 4=i * 4+4:=by omega
   rw [s];simp only [List.getElem_cons_succ];refine ⟨?_,?_,?_,?_⟩
   ·rw [List.getElem?_append_right (by simp)];exact h1.1
   ·rw [List.getElem?_append_right (by simp)];exact h1.2.1
   ·rw [List.getElem?_append_right (by simp)];exact h1.2.2.1
   rw [List.getElem?_append_right (by simp)];exact h1.2.2.2
theorem TkS.cells {w:World}{A:Option Addr}{n c:Nat}{l:List Tkn}(h:TkS w A n c l) {i:Nat}(hi:i < n):∃ g t,A=some ⟨g,0,none⟩∧n≤c∧l[i]?=some t∧w.cell? ⟨g,i * 4,none⟩=some (.int .i64 (t.kind:Nat))∧w.cell? ⟨g,i * 4+1,none⟩=some (ah t.text)∧w.cell? ⟨g,i * 4+2,none⟩=some (.int .i64 (t.line:Nat))∧w.cell? ⟨g,i * 4+3,none⟩=some (.int .i64 (t.col:Nat)):=by
 have hl:=h.1;rcases h.2 with ⟨h0,_⟩ | ⟨g,e,hc,h2⟩
 ·omega
 have h3:=pu (l:=l) (i:=i) (by omega);exact ⟨g,_,e,hc,List.getElem?_eq_getElem (by omega),h2 _ _ h3.1,h2 _ _ h3.2.1,h2 _ _ h3.2.2.1,h2 _ _ h3.2.2.2⟩
def aW (s:List UInt8):Bool:=decide (0 < bL s) && decide (bL s=s.length) && decide (bL s≤24)
def dG:List (List UInt8)→List UInt8
  | []=>[]
  | [x]=>x
  | x :: y :: r=>x ++ 32 :: dG (y :: r)
theorem kH (xs:List (List UInt8)):Lib.join xs [32]=dG xs:=by
 induction xs with
 | nil=>rfl
 | cons x r ih =>
  cases r with
  | nil=>rw [Lib.join_one];rfl
  | cons y r =>
   rw [dG,← ih];rw [Lib.join_cons,Lib.join_cons];simp [Lib.joinTail]
theorem av (a b:List UInt8):(⟨a.toArray⟩:ByteArray) ++ (⟨b.toArray⟩:ByteArray)=⟨(a ++ b).toArray⟩:=by
 apply ByteArray.ext;simp
theorem g5 (w:World) (s:List UInt8) (hs:s.length < 4611686018427387904) (v:Bool) (hv:aW s=v):Calls Tryz.prog 75 #[ah s] w (ax w (.bool v)):=by
 have hszs:=ag s;obtain ⟨n,hwn⟩:∃ n,bL s=n:=⟨_,rfl⟩;have hnl:n≤s.length:=by rw [← hwn];exact gQ s
 unfold aW at hv;rw [hwn] at hv;rcases (show n=0∨(0 < n∧n≠s.length)∨(0 < n∧n=s.length∧24 < n)∨(0 < n∧n=s.length∧n≤24) by omega) with h1 | ⟨h1,h2⟩ | ⟨h1,h2,h3⟩ | ⟨h1,h2,h3⟩
 ·have g0:((0:Int) < (n:Int))=False:=eq_false (by omega)
  obtain rfl:v=false:=by rw [← hv];simp;omega
  have g8:(n == 0)=true:=by simp;omega
  clear hv;go_in;go_wp2_with fail;(with_reducible refine (jR _ (s) hs n hwn).mono ?_);rintro e w1 ⟨rfl,q1⟩;have bw1:=(ae w).trans (q1.mono (ae w).size);have lw1:=q1.size;clear q1;go_wp2;go_ret;exact bA rfl bw1
 ·have g0:((0:Int) < (n:Int))=True:=eq_true (by omega)
  have g1:((n:Int) == (s.length:Int))=false:=by simp;omega
  obtain rfl:v=false:=by rw [← hv];simp;omega
  clear hv h2;go_in;go_wp2_with fail;(with_reducible refine (jR _ (s) hs n hwn).mono ?_);rintro e w1 ⟨rfl,q1⟩;have bw1:=(ae w).trans (q1.mono (ae w).size);have lw1:=q1.size;clear q1;go_wp2;go_ret;exact bA rfl bw1
 ·have g0:((0:Int) < (n:Int))=True:=eq_true (by omega)
  have g1:((n:Int) == (s.length:Int))=true:=by simp;omega
  have g2:((n:Int)≤24)=False:=eq_false (by omega);obtain rfl:v=false:=by rw [← hv];simp;omega
  clear hv h2;go_in;go_wp2_with fail;(with_reducible refine (jR _ (s) hs n hwn).mono ?_);rintro e w1 ⟨rfl,q1⟩;have bw1:=(ae w).trans (q1.mono (ae w).size);have lw1:=q1.size;clear q1;go_wp2;go_ret;exact bA rfl bw1
 have g0:((0:Int) < (n:Int))=True:=eq_true (by omega);have g1:((n:Int) == (s.length:Int))=true:=by simp;omega
 have g2:((n:Int)≤24)=True:=eq_true (by omega);obtain rfl:v=true:=by rw [← hv,decide_eq_true (show 0 < n by omega),decide_eq_true (show n=s.length by omega),decide_eq_true (show n≤24 by omega)];rfl
 clear hv h2;go_in;go_wp2_with fail;(with_reducible refine (jR _ (s) hs n hwn).mono ?_);rintro e w1 ⟨rfl,q1⟩;have bw1:=(ae w).trans (q1.mono (ae w).size);have lw1:=q1.size;clear q1;go_wp2;go_ret;exact bA rfl bw1
theorem g7 (w:World) (s:List UInt8) (hs:s.length < 4611686018427387904) (v:Bool) (hv:aW s=v):Calls Tryz.prog 52 #[ah s] w (ax w (.bool v)):=by
 have hszs:=ag s;obtain ⟨n,hwn⟩:∃ n,bL s=n:=⟨_,rfl⟩;have hnl:n≤s.length:=by rw [← hwn];exact gQ s
 unfold aW at hv;rw [hwn] at hv;rcases (show s.length=0∨24 < s.length∨(0 < s.length∧s.length≤24∧n≠s.length)∨(0 < s.length∧s.length≤24∧n=s.length) by omega) with h1 | h1 | ⟨h1,h2,h3⟩ | ⟨h1,h2,h3⟩
 ·have g0:((0:Int) < (s.length:Int))=False:=eq_false (by omega)
  obtain rfl:v=false:=by rw [← hv];simp;omega
  clear hv;go_in;go_wp2;go_ret;exact bA (by first | rfl | (simp;omega)) (ae w)
 ·have g0:((0:Int) < (s.length:Int))=True:=eq_true (by omega)
  have g1:((s.length:Int)≤24)=False:=eq_false (by omega);obtain rfl:v=false:=by rw [← hv];simp;omega
  clear hv;go_in;go_wp2;go_ret;exact bA (by first | rfl | (simp;omega)) (ae w)
 ·have g0:((0:Int) < (s.length:Int))=True:=eq_true (by omega)
  have g1:((s.length:Int)≤24)=True:=eq_true (by omega);have g2:((n:Int) == (s.length:Int))=false:=by simp;omega
  obtain rfl:v=false:=by rw [← hv];simp;omega
  clear hv;go_in;go_wp2_with fail;(with_reducible refine (fY _ (s) (0) 0 rfl (Nat.zero_le _) hs (n:Nat) (by rw [List.drop_zero,hwn,Nat.zero_add])).mono ?_);rintro e w1 ⟨rfl,q1⟩;have bw1:=(ae w).trans (q1.mono (ae w).size);have lw1:=q1.size;clear q1;go_wp2;go_ret;exact bA (by first | rfl | (simp;omega)) bw1
 have g0:((0:Int) < (s.length:Int))=True:=eq_true (by omega);have g1:((s.length:Int)≤24)=True:=eq_true (by omega);have g2:((n:Int) == (s.length:Int))=true:=by simp;omega
 obtain rfl:v=true:=by rw [← hv,decide_eq_true (show 0 < n by omega),decide_eq_true (show n=s.length by omega),decide_eq_true (show n≤24 by omega)];rfl
 clear hv;go_in;go_wp2_with fail;(with_reducible refine (fY _ (s) (0) 0 rfl (Nat.zero_le _) hs (n:Nat) (by rw [List.drop_zero,hwn,Nat.zero_add])).mono ?_);rintro e w1 ⟨rfl,q1⟩;have bw1:=(ae w).trans (q1.mono (ae w).size);have lw1:=q1.size;clear q1;go_wp2;go_ret;exact bA (by first | rfl | (simp;omega)) bw1
structure aX where
  name:List UInt8
  x:RD
  y:RD
structure aA where
  name:List UInt8
  pts:List aX
structure bi where
  name:List UInt8
  kind:Int
  a:Int
  point:Int
  b:Int
  on:Int
  to_:Int
structure bq where
  name:List UInt8
  body:Int
structure ay where
  name:List UInt8
  bodies:List aA
  joints:List bi
  drivers:List bq
def aU {α:Type}(f:List α→α→Int):List α→List α→Int
  | _,[]=>0
  | prev,a :: r=>if f prev a=0 then aU f (prev ++ [a]) r else f prev a
theorem bT {α:Type}{f:List α→α→Int}{l:List α}{i:Nat}{x:Int}(h:aU f (l.take i) (l.drop i)=x) {a:α}(ha:l[i]?=some a) :
 (f (l.take i) a=0∧aU f (l.take (i+1)) (l.drop (i+1))=x)∨(f (l.take i) a≠0∧f (l.take i) a=x):=by
 obtain ⟨hl,he⟩:=List.getElem?_eq_some_iff.1 ha;have hd:l.drop i=a :: l.drop (i+1):=by rw [List.drop_eq_getElem_cons hl,he]
 have ht:l.take (i+1)=l.take i ++ [a]:=by rw [List.take_add_one,ha];rfl
 rw [hd] at h;unfold aU at h;rw [ht];split at h
 ·left;rename_i h0;exact ⟨h0,h⟩
 right;rename_i h0;exact ⟨h0,h⟩
theorem cE {α:Type}{f:List α→α→Int}{l:List α}{i:Nat}{x:Int}(h:aU f (l.take i) (l.drop i)=x) (hi:l.length≤i):x=0:=by
 rw [List.drop_eq_nil_of_le hi] at h;exact h.symm
theorem bI {α:Type}{f:List α→α→Int}{l:List α}{x:Int}(h:aU f [] l=x):aU f (l.take 0) (l.drop 0)=x:=h
def twN (l:List (List UInt8)) (n:List UInt8):Bool:=l.any fun m=>m == n
theorem cF {α:Type}{f:α→List UInt8}{l:List α}{j:Nat}{a:α}{nm:List UInt8}(ha:l[j]?=some a) (h:twN ((l.take j).map f) nm=false) (hne:f a≠nm):twN ((l.take (j+1)).map f) nm=false:=by
 have ht:l.take (j+1)=l.take j ++ [a]:=by rw [List.take_add_one,ha];rfl
 unfold twN at h ⊢;rw [ht,List.map_append,List.any_append,h];simpa using hne
theorem cZ {α:Type}{f:α→List UInt8}{l:List α}{j i:Nat}{a:α}{nm:List UInt8}(ha:l[j]?=some a) (hji:j < i) (he:f a=nm):twN ((l.take i).map f) nm=true:=by
 unfold twN;rw [List.any_eq_true];refine ⟨f a,?_,by simpa using he⟩;have h1:(l.take i)[j]?=some a:=by rw [List.getElem?_take,if_pos hji];exact ha
 exact List.mem_map_of_mem (List.mem_of_getElem? h1)
def inI (i:Int) (n:Nat):Bool:=decide (0≤i) && decide (i < (n:Int))
def aR (prev:List aX) (m:aX):Int :=
  if aW m.name=false then 5 else if twN (prev.map aX.name) m.name=true then 6 else if m.x.ok=false then 3 else if m.y.ok=false then 3 else 0
def aK (prev:List aA) (b:aA):Int :=
  if aW b.name=false then 5 else if twN (prev.map aA.name) b.name=true then 6 else if 8 < b.pts.length then 4 else aU aR [] b.pts
def bM (L:ay) (i:Int):List aX:=match L.bodies[i.toNat]? with | some b=>b.pts | none=>[]
def cM (l:List aX) (i j:Int):Bool:=match l[i.toNat]?,l[j.toNat]? with | some p,some q=>decide (p.x.q=q.x.q) && decide (p.y.q=q.y.q) | _,_=>false
def aN (L:ay) (j:bi):Int :=
  if j.kind≠0∧j.kind≠1 then 7 else if inI j.a L.bodies.length=false then 9 else if inI j.b L.bodies.length=false then 9 else if j.a=j.b then 13
  else if inI j.point (bM L j.a).length=false then 9 else if inI j.on (bM L j.b).length=false then 9
  else if j.kind=0 then (if j.to_=0 then 0 else 2) else if inI j.to_ (bM L j.b).length=false then 9 else if cM (bM L j.b) j.on j.to_=true then 8 else 0
def aG (L:ay) (prev:List bi) (j:bi):Int :=
  if aW j.name=false then 5 else if twN (prev.map bi.name) j.name=true then 6 else aN L j
def ar (n:Nat) (prev:List bq) (d:bq):Int :=
  if aW d.name=false then 5 else if twN (prev.map bq.name) d.name=true then 6 else if inI d.body n=false then 9 else if d.body=0 then 7
  else if (prev.any fun p=>p.body == d.body)=true then 6 else 0
def bN (L:ay):Int :=
  if aW L.name=false then 5 else if L.bodies.length=0 then 10 else if 8 < L.bodies.length then 4 else if aU aK [] L.bodies≠0 then aU aK [] L.bodies
  else if 16 < L.joints.length then 4 else if aU (aG L) [] L.joints≠0 then aU (aG L) [] L.joints
  else if 2 < L.drivers.length then 4 else aU (ar L.bodies.length) [] L.drivers
abbrev NmL (s:List UInt8):Prop:=s.length < 4611686018427387904
def du (w:World) (g o:Nat) (r:RD) (k:Nat):Prop:=∃ b A n c D m e,w.cell? ⟨g,o,none⟩=some (.bool b)∧w.cell? ⟨g,o+1,none⟩=some (.slice A n c)∧w.cell? ⟨g,o+2,none⟩=some (.slice D m e)∧QD w b A n c D m e r k
def dw (k:Nat) (w:World) (g o:Nat) (m:aX):Prop:=w.cell? ⟨g,o,none⟩=some (ah m.name)∧du w g (o+1) m.x k∧du w g (o+4) m.y k∧NmL m.name
def SlS {α:Type}(P:World→Nat→Nat→α→Prop) (s:Nat) (w:World) (A:Option Addr) (n c:Nat) (l:List α):Prop :=
  l.length=n∧n≤c∧(0 < n→∃ g o,A=some ⟨g,o,none⟩∧g < w.heap.size∧∀ i a,l[i]?=some a→P w g (o+i * s) a)
def dd (k:Nat) (w:World) (g o:Nat) (b:aA):Prop:=∃ A n c,w.cell? ⟨g,o,none⟩=some (ah b.name)∧w.cell? ⟨g,o+1,none⟩=some (.slice A n c)∧SlS (dw k) 7 w A n c b.pts∧NmL b.name
def g9 (w:World) (g o:Nat) (j:bi):Prop:=w.cell? ⟨g,o,none⟩=some (ah j.name)∧w.cell? ⟨g,o+1,none⟩=some (.int .i64 j.kind)∧w.cell? ⟨g,o+2,none⟩=some (.int .i64 j.a)∧w.cell? ⟨g,o+3,none⟩=some (.int .i64 j.point)∧w.cell? ⟨g,o+4,none⟩=some (.int .i64 j.b)∧w.cell? ⟨g,o+5,none⟩=some (.int .i64 j.on)∧w.cell? ⟨g,o+6,none⟩=some (.int .i64 j.to_)∧NmL j.name
def hH (w:World) (g o:Nat) (d:bq):Prop:=w.cell? ⟨g,o,none⟩=some (ah d.name)∧w.cell? ⟨g,o+1,none⟩=some (.int .i64 d.body)∧NmL d.name
structure LkS (k:Nat) (w:World) (A:Option Addr) (n c:Nat) (B:Option Addr) (p d:Nat) (C:Option Addr) (q e:Nat) (L:ay):Prop where
  name:NmL L.name
  bodies:SlS (dd k) 2 w A n c L.bodies
  joints:SlS g9 7 w B p d L.joints
  drivers:SlS hH 2 w C q e L.drivers
theorem aw {w w':World}{g o:Nat}{v:Value}(h:w.cell? ⟨g,o,none⟩=some v) (hb:Below w.heap.size w w'):w'.cell? ⟨g,o,none⟩=some v:=(hb.cell (p:=⟨g,o,none⟩) (World.block_lt_of_cell? w _ h)).trans h
theorem du.belw {w w':World}{g o:Nat}{r:RD}{k:Nat}(h:du w g o r k) (hb:Below w.heap.size w w'):du w' g o r k:=by
 obtain ⟨b,A,n,c,D,m,e,h1,h2,h3,h4⟩:=h;exact ⟨b,A,n,c,D,m,e,aw h1 hb,aw h2 hb,aw h3 hb,h4.belw hb⟩
theorem dw.belw {w w':World}{g o:Nat}{m:aX}{k:Nat}(h:dw k w g o m) (hb:Below w.heap.size w w'):dw k w' g o m:=⟨aw h.1 hb,h.2.1.belw hb,h.2.2.1.belw hb,h.2.2.2⟩
theorem SlS.belw {α:Type}{P:World→Nat→Nat→α→Prop}{s:Nat}{w w':World}{A:Option Addr}{n c:Nat}{l:List α}(hP:∀ g o a,P w g o a→P w' g o a) (h:SlS P s w A n c l) (hb:Below w.heap.size w w'):SlS P s w' A n c l:=by
 refine ⟨h.1,h.2.1,fun hn=>?_⟩;obtain ⟨g,o,e,hg,h3⟩:=h.2.2 hn;exact ⟨g,o,e,Nat.lt_of_lt_of_le hg hb.size,fun i a ha=>hP _ _ _ (h3 i a ha)⟩
theorem dd.belw {w w':World}{g o:Nat}{b:aA}{k:Nat}(h:dd k w g o b) (hb:Below w.heap.size w w'):dd k w' g o b:=by
 obtain ⟨A,n,c,h1,h2,h3,h4⟩:=h;exact ⟨A,n,c,aw h1 hb,aw h2 hb,h3.belw (fun _ _ _ h=>h.belw hb) hb,h4⟩
theorem g9.belw {w w':World}{g o:Nat}{j:bi}(h:g9 w g o j) (hb:Below w.heap.size w w'):g9 w' g o j :=
 ⟨aw h.1 hb,aw h.2.1 hb,aw h.2.2.1 hb,aw h.2.2.2.1 hb,aw h.2.2.2.2.1 hb,aw h.2.2.2.2.2.1 hb,aw h.2.2.2.2.2.2.1 hb,h.2.2.2.2.2.2.2⟩
theorem hH.belw {w w':World}{g o:Nat}{d:bq}(h:hH w g o d) (hb:Below w.heap.size w w'):hH w' g o d:=⟨aw h.1 hb,aw h.2.1 hb,h.2.2⟩
theorem LkS.belw {k:Nat}{w w':World}{A B C:Option Addr}{n c p d q e:Nat}{L:ay}(h:LkS k w A n c B p d C q e L) (hb:Below w.heap.size w w'):LkS k w' A n c B p d C q e L :=
 ⟨h.name,h.bodies.belw (fun _ _ _ h=>h.belw hb) hb,h.joints.belw (fun _ _ _ h=>h.belw hb) hb,h.drivers.belw (fun _ _ _ h=>h.belw hb) hb⟩
theorem SlS.bd {k:Nat}{w w':World}{A:Option Addr}{n c:Nat}{l:List aA}(h:SlS (dd k) 2 w A n c l) (hb:Below w.heap.size w w'):SlS (dd k) 2 w' A n c l:=h.belw (fun _ _ _ h=>h.belw hb) hb
theorem SlS.mk_ {k:Nat}{w w':World}{A:Option Addr}{n c:Nat}{l:List aX}(h:SlS (dw k) 7 w A n c l) (hb:Below w.heap.size w w'):SlS (dw k) 7 w' A n c l:=h.belw (fun _ _ _ h=>h.belw hb) hb
theorem SlS.jt {w w':World}{A:Option Addr}{n c:Nat}{l:List bi}(h:SlS g9 7 w A n c l) (hb:Below w.heap.size w w'):SlS g9 7 w' A n c l:=h.belw (fun _ _ _ h=>h.belw hb) hb
theorem SlS.dr {w w':World}{A:Option Addr}{n c:Nat}{l:List bq}(h:SlS hH 2 w A n c l) (hb:Below w.heap.size w w'):SlS hH 2 w' A n c l:=h.belw (fun _ _ _ h=>h.belw hb) hb
theorem SlS.at_ {α:Type}{P:World→Nat→Nat→α→Prop}{s:Nat}{w:World}{A:Option Addr}{n c:Nat}{l:List α}(h:SlS P s w A n c l) {i:Nat}(hi:i < n):∃ g o a,A=some ⟨g,o,none⟩∧g < w.heap.size∧n≤c∧l[i]?=some a∧P w g (o+i * s) a:=by
 obtain ⟨g,o,e,hg,h3⟩:=h.2.2 (by omega);have hl:i < l.length:=by rw [h.1];exact hi
 exact ⟨g,o,l[i],e,hg,h.2.1,List.getElem?_eq_getElem hl,h3 i _ (List.getElem?_eq_getElem hl)⟩
theorem SlS.rowAt {α:Type}{P:World→Nat→Nat→α→Prop}{s:Nat}{w:World}{g o n c:Nat}{l:List α}(h:SlS P s w (some ⟨g,o,none⟩) n c l) {j:Nat}(hj:j < n):∃ a,l[j]?=some a∧P w g (o+j * s) a:=by
 obtain ⟨g',o',a,e,_,_,ha,hp⟩:=h.at_ hj;injection e with e;injection e with e1 e2 _;subst e1 e2;exact ⟨a,ha,hp⟩
end Go.Proofs.YtfilnhompchciaaGreatDoor
namespace Go.Proofs.YtfilnhompchciaaGreatDoor
open Go Go.RowKit Bn Go.ChangeShapes Go.WideShapes
attribute [local go_sem ↓] Go.wp_at_zero Go.wp_at_succ
section
variable {H:Type}{enc:TypeId × Value→H}{W:World}
theorem jj {a:Addr}{v:Value}(h:W.cell? a=some v):∃ g o,a=⟨g,o,none⟩∧g < W.heap.size:=by
 obtain ⟨g,o,s⟩:=a;unfold World.cell? at h;dsimp only at h;split at h
 ·rename_i c _ _ hb
  cases s with
  | none=>exact ⟨g,o,rfl,lt_of_block hb⟩
  | some _=>simp at h
 cases h
def Szd (t:TypeId) (d:DataW H):Prop:=∀ n∈DataW.weights Tryz.prog t d,n≤reachBytes
theorem Szd.field {t:TypeId}{fs:Array Field}{xs:List (DataW H × List MemPlace)}(hu:Tryz.prog.underlying t=some (.struct fs)) (h:Szd t (.agg (xs.map (·.1)))) {i:Nat}{f:Field}{y:DataW H × List MemPlace}(hf:fs[i]?=some f) (hy:xs[i]?=some y):Szd f.type y.1:=by
 intro n hn;refine h n ?_;rw [DataW.weights,hu];exact DataW.weights_mem_each (j:=i) (t:=f.type) (d:=y.1) (by rw [List.getElem?_map,Array.getElem?_toList,hf];rfl) (by rw [List.getElem?_map,hy];rfl) n hn
theorem dH {P:Program}{e:TypeId}:∀ {ds:List (DataW H)}{d:DataW H},d∈ds→∀ n∈DataW.weights P e d,n∈DataW.weightsAll P e ds
 | x :: ds,d,hd,n,hn=>by
  rw [DataW.weightsAll,List.mem_append];rcases List.mem_cons.1 hd with rfl | hd
  ·exact .inl hn
  exact .inr (dH hd n hn)
 | [],_,hd,_,_=>by cases hd
theorem Szd.elem {t e:TypeId}{l sp:List (DataW H)}(hu:Tryz.prog.underlying t=some (.slice e)) (h:Szd t (.slice l sp)) {d:DataW H}(hd:d∈l):Szd e d:=by
 intro n hn;refine h n ?_;rw [DataW.weights,hu];exact List.mem_cons_of_mem _ (List.mem_append_left _ (dH hd n hn))
theorem Szd.room {t e:TypeId}{l sp:List (DataW H)}(hu:Tryz.prog.underlying t=some (.slice e)) (h:Szd t (.slice l sp)):(l.length+sp.length) * Tryz.prog.bytesOf e≤reachBytes:=by
 refine h _ ?_;rw [DataW.weights,hu];exact List.mem_cons_self
theorem Szd.str {t:TypeId}{l:List UInt8}(h:Szd t (.lit (.string l):DataW H)):l.length≤reachBytes:=h _ (by simp [DataW.weights])
theorem sK {ts:List TypeId}{ds:List (DataW H)}(h:(DataW.weightsEach Tryz.prog ts ds).all (·≤reachBytes)=true) {j:Nat}{t:TypeId}{d:DataW H}(ht:ts[j]?=some t) (hd:ds[j]?=some d):Szd t d:=fun n hn=>by simpa using List.all_eq_true.1 h n (DataW.weights_mem_each ht hd n hn)
theorem sL {g o i:Nat}:(⟨g,o,none⟩:Addr).add i=⟨g,o+i,none⟩:=add_plain g o i
theorem ia {v:Value}{fuel:Nat}{x:DataW H × List MemPlace}(ht:DataW.trod enc Tryz.prog W 0 (fun _=>true) true fuel 63 [v]=some x) (hz:Szd 63 x.1) :
 ∃ A n c l,v=.slice A n c∧Wd W A n c l∧n≤reachBytes:=by
 rcases open_ints Tryz.underlying63 Tryz.underlying58 (by kernel_rfl) ht with ⟨hv,_⟩ | ⟨a,len,cap,zs,hv,_,hl,hcm,hzl,hx,hc,hwf⟩
 ·injection hv with hv _
  exact ⟨none,0,0,[],hv,Wd.nil_ W,Nat.zero_le _⟩
 injection hv with hv _;subst hv;rw [hx] at hz;have hrm:=hz.room Tryz.underlying63;have hb4:Tryz.prog.bytesOf 58=4:=by kernel_rfl
 rw [hb4] at hrm;have hz:zs.length=cap:=by simpa using hzl
 have hlr:len≤reachBytes:=by
  have:(lits (H:=H) .u32 (zs.take len)).length=len:=by simp [lits];omega
  omega
 have h0:∀ i,i < zs.length→0≤zs.getD i 0∧zs.getD i 0≤4294967295:=by
  intro i hi;have h1:=hwf (zs.getD i 0) (by rw [List.getD_eq_getElem?_getD,List.getElem?_eq_getElem hi];simp);simpa [Lit.wf,IntKind.min,IntKind.max,IntKind.signed,IntKind.bits] using h1
 refine ⟨some a,len,cap,(zs.take len).map Int.toNat,rfl,⟨?_,?_,hl,fun hn=>?_⟩,hlr⟩
 ·intro y hy
  obtain ⟨z,hz1,rfl⟩:=List.mem_map.1 hy;obtain ⟨i,hi,he⟩:=List.getElem_of_mem hz1;have hi2:i < zs.length:=by rw [List.length_take] at hi;omega
  have h1:=h0 i hi2;rw [List.getD_eq_getElem?_getD,List.getElem?_eq_getElem hi2] at h1;rw [List.getElem_take] at he;simp only [Option.getD_some] at h1;rw [he] at h1;omega
 ·rw [List.length_map,List.length_take];omega
 have hc0:=hc 0 (by omega);have e0:a.add 0=a:=by simp [Addr.add]
 rw [e0] at hc0;obtain ⟨g,o,rfl,_⟩:=jj hc0;have hc1:=hc0;unfold World.cell? at hc1;dsimp only at hc1;split at hc1
 ·rename_i cur el fr hb
  have hr:da W g cur fr:=⟨el,.inr (rR (i:=o) (k:=.u32) (z:=zs.getD 0 0) (by simpa using hc1)),hb⟩;refine ⟨g,o,cur,fr,rfl,hr,fun i hi=>?_⟩;have h1:=hc i (by omega);have h2:=h0 i (by omega);rw [sL,hr.cell] at h1;rw [h1]
  have e4:wd ((zs.take len).map Int.toNat) i=(zs.getD i 0).toNat:=by
   unfold wd;rw [List.getD_eq_getElem?_getD,List.getElem?_map,List.getElem?_take,if_pos hi,List.getD_eq_getElem?_getD];rcases zs[i]? with _ | z <;> rfl
  rw [e4,Int.toNat_of_nonneg h2.1]
 cases hc1
theorem lA:Tryz.prog.cellsOf 4=1:=by kernel_rfl
theorem jk:Tryz.prog.cellsOf 3=1:=by kernel_rfl
theorem dx:Tryz.prog.cellsOf 9=1:=by kernel_rfl
theorem kI:Tryz.prog.cellsOf 63=1:=by kernel_rfl
theorem nq:Tryz.prog.cellsOf 65=3:=by kernel_rfl
theorem aq {α:Type}{xs:List α}{i:Nat}(h:i < xs.length):xs[i]?=some xs[i]:=List.getElem?_eq_getElem h
theorem kJ {v0 v1 v2:Value}{fuel:Nat}{x:DataW H × List MemPlace}(ht:DataW.trod enc Tryz.prog W 0 (fun _=>true) true fuel 65 [v0,v1,v2]=some x) (hz:Szd 65 x.1) :
 ∃ b A n c D m e r,v0=.bool b∧v1=.slice A n c∧v2=.slice D m e∧QD W b A n c D m e r reachBytes:=by
 obtain ⟨xs,n,_,hx,_,hxl,hf⟩:=DataW.trod_struct Tryz.underlying65 ht;rw [hx] at hz;have f0:DataW.trod enc Tryz.prog W 0 (fun _=>true) true n 4 (List.take (Tryz.prog.cellsOf 4) [v0,v1,v2])=xs[0]?:=hf 0 _ rfl;have f1:DataW.trod enc Tryz.prog W 0 (fun _=>true) true n 63 (List.take (Tryz.prog.cellsOf 63) [v1,v2])=xs[1]?:=hf 1 _ rfl;have f2:DataW.trod enc Tryz.prog W 0 (fun _=>true) true n 63 (List.take (Tryz.prog.cellsOf 63) [v2])=xs[2]?:=hf 2 _ rfl;rw [lA] at f0;rw [kI] at f1 f2;have hx0:xs.length=3:=hxl;rw [aq (show 0 < xs.length by omega)] at f0;have z0:=hz.field Tryz.underlying65 (i:=0) rfl (aq (show 0 < xs.length by omega));rw [aq (show 1 < xs.length by omega)] at f1;have z1:=hz.field Tryz.underlying65 (i:=1) rfl (aq (show 1 < xs.length by omega));rw [aq (show 2 < xs.length by omega)] at f2;have z2:=hz.field Tryz.underlying65 (i:=2) rfl (aq (show 2 < xs.length by omega));obtain ⟨b,hb,_⟩:=DataW.trod_bool Tryz.underlying4 f0;obtain ⟨A,n1,cc,l,rfl,h1,k1⟩:=ia f1 z1;obtain ⟨D,m,e,l',rfl,h2,k2⟩:=ia f2 z2;injection hb with hb _;exact ⟨b,A,n1,cc,D,m,e,⟨b,l,l'⟩,hb,rfl,rfl,rfl,h1,h2,k1,k2⟩
theorem dN {v:Value}{fuel:Nat}{x:DataW H × List MemPlace}(ht:DataW.trod enc Tryz.prog W 0 (fun _=>true) true fuel 9 [v]=some x) (hz:Szd 9 x.1):∃ t:List UInt8,v=ah t∧NmL t:=by
 obtain ⟨s,hs,hx,_⟩:=DataW.trod_string Tryz.underlying9 ht;injection hs with hs _;subst hs;obtain ⟨t,rfl⟩:∃ t:List UInt8,s=⟨t.toArray⟩:=⟨s.data.toList,by simp⟩;refine ⟨t,rfl,?_⟩;rw [hx] at hz;have h9:t.length≤reachBytes:=hz.str;have h8:=reachBytes_lt;unfold NmL;omega
theorem dP {α:Type} [Inhabited α] (P0:World→Nat→Nat→α→Prop) {t e:TypeId}(s:Nat) (ht:Tryz.prog.underlying t=some (.slice e)) (hs:Tryz.prog.cellsOf e=s) (hs0:0 < s)
 (one:∀ (fuel:Nat) (cs:List Value) (y:DataW H × List MemPlace) (g o:Nat),cs.length=s→(∀ i,i < s→W.cell? ⟨g,o+i,none⟩=cs[i]?)→DataW.trod enc Tryz.prog W 0 (fun _=>true) true fuel e cs=some y→Szd e y.1→∃ a,P0 W g o a)
 {v:Value}{fuel:Nat}{x:DataW H × List MemPlace}(h:DataW.trod enc Tryz.prog W 0 (fun _=>true) true fuel t [v]=some x) (hz:Szd t x.1):∃ A n c l,v=.slice A n c∧SlS P0 s W A n c l:=by
 rcases Go.Deep.open_slice ht h with ⟨hv,_⟩ | ⟨a,len,cap,m,n,D,Pl,hv,_,hl,hm,hmm,hxe,hx⟩
 ·injection hv with hv _
  exact ⟨none,0,0,[],hv,⟨rfl,Qr,fun h=>absurd h (by omega)⟩⟩
 injection hv with hv _;subst hv;rw [hxe] at hz;have hmc:m=cap:=by simpa using hmm
 subst hmc;rw [hs] at hx;rcases Nat.eq_zero_or_pos len with h0 | h0
 ·subst h0
  exact ⟨some a,0,m,[],rfl,⟨rfl,Nat.zero_le _,fun h=>absurd h (by omega)⟩⟩
 obtain ⟨cs0,hc0,_⟩:=hx 0 (by omega);obtain ⟨_,hl0,hce⟩:=World.cells?_some hc0;have h00:=hce 0 hs0;rw [aq (show 0 < cs0.length by omega)] at h00;have e0:(a.add (0 * s)).add 0=a:=by simp [Addr.add]
 rw [e0] at h00;obtain ⟨g,o,rfl,hg⟩:=jj h00
 obtain ⟨f,hf⟩:=Go.Deep.choose_lt (n:=len) (p:=fun i a=>P0 W g (o+i * s) a) (fun i hi=>by
  obtain ⟨cs,h1,h2⟩:=hx i (by omega);obtain ⟨_,h3,h4⟩:=World.cells?_some h1;refine one n cs _ g (o+i * s) h3 (fun j hj=>?_) h2 (hz.elem ht (List.mem_map.2 ⟨i,List.mem_range.2 hi,rfl⟩))
  rw [← h4 j hj,sL,sL])
 refine ⟨_,len,m,(List.range len).map f,rfl,⟨by simp,hl,fun _=>⟨g,o,rfl,hg,fun i a ha=>?_⟩⟩⟩;rw [List.getElem?_map] at ha;rcases Nat.lt_or_ge i len with hi | hi
 ·rw [List.getElem?_range hi] at ha
  injection ha with ha;subst ha;exact hf i hi
 rw [List.getElem?_eq_none (by simpa using hi)] at ha;cases ha
instance:Inhabited aX:=⟨⟨[],⟨false,[],[]⟩,⟨false,[],[]⟩⟩⟩
instance:Inhabited aA:=⟨⟨[],[]⟩⟩
instance:Inhabited bi:=⟨⟨[],0,0,0,0,0,0⟩⟩
instance:Inhabited bq:=⟨⟨[],0⟩⟩
theorem pw (fuel:Nat) (cs:List Value) (y:DataW H × List MemPlace) (g o:Nat) (hl:cs.length=7) (hc:∀ i,i < 7→W.cell? ⟨g,o+i,none⟩=cs[i]?) (ht:DataW.trod enc Tryz.prog W 0 (fun _=>true) true fuel 67 cs=some y) (hz:Szd 67 y.1):∃ a,dw reachBytes W g o a:=by
 match cs,hl with
 | [v0,v1,v2,v3,v4,v5,v6],_ =>
  obtain ⟨xs,n,_,hx,_,hxl,hf⟩:=DataW.trod_struct Tryz.underlying67 ht;rw [hx] at hz;have f0:DataW.trod enc Tryz.prog W 0 (fun _=>true) true n 9 (List.take (Tryz.prog.cellsOf 9) [v0,v1,v2,v3,v4,v5,v6])=xs[0]?:=hf 0 _ rfl;have f1:DataW.trod enc Tryz.prog W 0 (fun _=>true) true n 65 (List.take (Tryz.prog.cellsOf 65) [v1,v2,v3,v4,v5,v6])=xs[1]?:=hf 1 _ rfl;have f2:DataW.trod enc Tryz.prog W 0 (fun _=>true) true n 65 (List.take (Tryz.prog.cellsOf 65) [v4,v5,v6])=xs[2]?:=hf 2 _ rfl;rw [dx] at f0;rw [nq] at f1 f2;have hx0:xs.length=3:=hxl;rw [aq (show 0 < xs.length by omega)] at f0;have z0:=hz.field Tryz.underlying67 (i:=0) rfl (aq (show 0 < xs.length by omega));rw [aq (show 1 < xs.length by omega)] at f1;have z1:=hz.field Tryz.underlying67 (i:=1) rfl (aq (show 1 < xs.length by omega));rw [aq (show 2 < xs.length by omega)] at f2;have z2:=hz.field Tryz.underlying67 (i:=2) rfl (aq (show 2 < xs.length by omega));obtain ⟨nm,rfl,hn⟩:=dN f0 z0;obtain ⟨b,A,n1,c,D,m,e,r,rfl,rfl,rfl,h1⟩:=kJ f1 z1;obtain ⟨b',A',n1',c',D',m',e',r',rfl,rfl,rfl,h2⟩:=kJ f2 z2;have k0:=hc 0 (by omega);have k1:=hc 1 (by omega);have k2:=hc 2 (by omega);have k3:=hc 3 (by omega);have k4:=hc 4 (by omega);have k5:=hc 5 (by omega);have k6:=hc 6 (by omega);exact ⟨⟨nm,r,r'⟩,k0,⟨b,A,n1,c,D,m,e,k1,k2,k3,h1⟩,⟨b',A',n1',c',D',m',e',k4,k5,k6,h2⟩,hn⟩
theorem px (fuel:Nat) (cs:List Value) (y:DataW H × List MemPlace) (g o:Nat) (hl:cs.length=2) (hc:∀ i,i < 2→W.cell? ⟨g,o+i,none⟩=cs[i]?) (ht:DataW.trod enc Tryz.prog W 0 (fun _=>true) true fuel 62 cs=some y) (hz:Szd 62 y.1):∃ a,dd reachBytes W g o a:=by
 match cs,hl with
 | [v0,v1],_ =>
  obtain ⟨xs,n,_,hx,_,hxl,hf⟩:=DataW.trod_struct Tryz.underlying62 ht;rw [hx] at hz;have f0:DataW.trod enc Tryz.prog W 0 (fun _=>true) true n 9 (List.take (Tryz.prog.cellsOf 9) [v0,v1])=xs[0]?:=hf 0 _ rfl;have f1:DataW.trod enc Tryz.prog W 0 (fun _=>true) true n 60 (List.take (Tryz.prog.cellsOf 60) [v1])=xs[1]?:=hf 1 _ rfl;have c1:Tryz.prog.cellsOf 60=1:=by kernel_rfl
  rw [dx] at f0;rw [c1] at f1;have hx0:xs.length=2:=hxl;rw [aq (show 0 < xs.length by omega)] at f0;have z0:=hz.field Tryz.underlying62 (i:=0) rfl (aq (show 0 < xs.length by omega));rw [aq (show 1 < xs.length by omega)] at f1;have z1:=hz.field Tryz.underlying62 (i:=1) rfl (aq (show 1 < xs.length by omega));obtain ⟨nm,rfl,hn⟩:=dN f0 z0;obtain ⟨A,n1,c,l,rfl,h1⟩:=dP (dw reachBytes) 7 Tryz.underlying60 (by kernel_rfl) (by decide) pw f1 z1;have k0:=hc 0 (by omega);have k1:=hc 1 (by omega);exact ⟨⟨nm,l⟩,A,n1,c,k0,k1,h1,hn⟩
theorem cT {v:Value}{fuel:Nat}{x:DataW H × List MemPlace}(ht:DataW.trod enc Tryz.prog W 0 (fun _=>true) true fuel 3 [v]=some x):∃ i:Int,v=.int .i64 i:=by
 obtain ⟨i,hi,_⟩:=DataW.trod_int Tryz.underlying3 ht;injection hi with hi _;exact ⟨i,hi⟩
theorem nr (fuel:Nat) (cs:List Value) (y:DataW H × List MemPlace) (g o:Nat) (hl:cs.length=7) (hc:∀ i,i < 7→W.cell? ⟨g,o+i,none⟩=cs[i]?) (ht:DataW.trod enc Tryz.prog W 0 (fun _=>true) true fuel 79 cs=some y) (hz:Szd 79 y.1):∃ a,g9 W g o a:=by
 match cs,hl with
 | [v0,v1,v2,v3,v4,v5,v6],_ =>
  obtain ⟨xs,n,_,hx,_,hxl,hf⟩:=DataW.trod_struct Tryz.underlying79 ht;rw [hx] at hz;have f0:DataW.trod enc Tryz.prog W 0 (fun _=>true) true n 9 (List.take (Tryz.prog.cellsOf 9) [v0,v1,v2,v3,v4,v5,v6])=xs[0]?:=hf 0 _ rfl;have f1:DataW.trod enc Tryz.prog W 0 (fun _=>true) true n 3 (List.take (Tryz.prog.cellsOf 3) [v1,v2,v3,v4,v5,v6])=xs[1]?:=hf 1 _ rfl;have f2:DataW.trod enc Tryz.prog W 0 (fun _=>true) true n 3 (List.take (Tryz.prog.cellsOf 3) [v2,v3,v4,v5,v6])=xs[2]?:=hf 2 _ rfl;have f3:DataW.trod enc Tryz.prog W 0 (fun _=>true) true n 3 (List.take (Tryz.prog.cellsOf 3) [v3,v4,v5,v6])=xs[3]?:=hf 3 _ rfl;have f4:DataW.trod enc Tryz.prog W 0 (fun _=>true) true n 3 (List.take (Tryz.prog.cellsOf 3) [v4,v5,v6])=xs[4]?:=hf 4 _ rfl;have f5:DataW.trod enc Tryz.prog W 0 (fun _=>true) true n 3 (List.take (Tryz.prog.cellsOf 3) [v5,v6])=xs[5]?:=hf 5 _ rfl;have f6:DataW.trod enc Tryz.prog W 0 (fun _=>true) true n 3 (List.take (Tryz.prog.cellsOf 3) [v6])=xs[6]?:=hf 6 _ rfl;rw [dx] at f0;rw [jk] at f1 f2 f3 f4 f5 f6;have hx0:xs.length=7:=hxl;rw [aq (show 0 < xs.length by omega)] at f0;have z0:=hz.field Tryz.underlying79 (i:=0) rfl (aq (show 0 < xs.length by omega));rw [aq (show 1 < xs.length by omega)] at f1;have z1:=hz.field Tryz.underlying79 (i:=1) rfl (aq (show 1 < xs.length by omega));rw [aq (show 2 < xs.length by omega)] at f2;have z2:=hz.field Tryz.underlying79 (i:=2) rfl (aq (show 2 < xs.length by omega));rw [aq (show 3 < xs.length by omega)] at f3;have z3:=hz.field Tryz.underlying79 (i:=3) rfl (aq (show 3 < xs.length by omega));rw [aq (show 4 < xs.length by omega)] at f4;have z4:=hz.field Tryz.underlying79 (i:=4) rfl (aq (show 4 < xs.length by omega));rw [aq (show 5 < xs.length by omega)] at f5;have z5:=hz.field Tryz.underlying79 (i:=5) rfl (aq (show 5 < xs.length by omega));rw [aq (show 6 < xs.length by omega)] at f6;have z6:=hz.field Tryz.underlying79 (i:=6) rfl (aq (show 6 < xs.length by omega));obtain ⟨nm,rfl,hn⟩:=dN f0 z0;obtain ⟨i1,rfl⟩:=cT f1;obtain ⟨i2,rfl⟩:=cT f2;obtain ⟨i3,rfl⟩:=cT f3;obtain ⟨i4,rfl⟩:=cT f4;obtain ⟨i5,rfl⟩:=cT f5;obtain ⟨i6,rfl⟩:=cT f6;have k0:=hc 0 (by omega);have k1:=hc 1 (by omega);have k2:=hc 2 (by omega);have k3:=hc 3 (by omega);have k4:=hc 4 (by omega);have k5:=hc 5 (by omega);have k6:=hc 6 (by omega);exact ⟨⟨nm,i1,i2,i3,i4,i5,i6⟩,k0,k1,k2,k3,k4,k5,k6,hn⟩
theorem lB (fuel:Nat) (cs:List Value) (y:DataW H × List MemPlace) (g o:Nat) (hl:cs.length=2) (hc:∀ i,i < 2→W.cell? ⟨g,o+i,none⟩=cs[i]?) (ht:DataW.trod enc Tryz.prog W 0 (fun _=>true) true fuel 81 cs=some y) (hz:Szd 81 y.1):∃ a,hH W g o a:=by
 match cs,hl with
 | [v0,v1],_ =>
  obtain ⟨xs,n,_,hx,_,hxl,hf⟩:=DataW.trod_struct Tryz.underlying81 ht;rw [hx] at hz;have f0:DataW.trod enc Tryz.prog W 0 (fun _=>true) true n 9 (List.take (Tryz.prog.cellsOf 9) [v0,v1])=xs[0]?:=hf 0 _ rfl;have f1:DataW.trod enc Tryz.prog W 0 (fun _=>true) true n 3 (List.take (Tryz.prog.cellsOf 3) [v1])=xs[1]?:=hf 1 _ rfl;rw [dx] at f0;rw [jk] at f1;have hx0:xs.length=2:=hxl;rw [aq (show 0 < xs.length by omega)] at f0;have z0:=hz.field Tryz.underlying81 (i:=0) rfl (aq (show 0 < xs.length by omega));rw [aq (show 1 < xs.length by omega)] at f1;have z1:=hz.field Tryz.underlying81 (i:=1) rfl (aq (show 1 < xs.length by omega));obtain ⟨nm,rfl,hn⟩:=dN f0 z0;obtain ⟨i1,rfl⟩:=cT f1;have k0:=hc 0 (by omega);have k1:=hc 1 (by omega);exact ⟨⟨nm,i1⟩,k0,k1,hn⟩
theorem nt {v0 v1 v2 v3:Value}{fuel:Nat}{x:DataW H × List MemPlace}(ht:DataW.trod enc Tryz.prog W 0 (fun _=>true) true fuel 36 [v0,v1,v2,v3]=some x) (hz:Szd 36 x.1) :
 ∃ A n c B p d C q e L,v0=ah L.name∧v1=.slice A n c∧v2=.slice B p d∧v3=.slice C q e∧LkS reachBytes W A n c B p d C q e L:=by
 obtain ⟨xs,n,_,hx,_,hxl,hf⟩:=DataW.trod_struct Tryz.underlying36 ht;rw [hx] at hz;have f0:DataW.trod enc Tryz.prog W 0 (fun _=>true) true n 9 (List.take (Tryz.prog.cellsOf 9) [v0,v1,v2,v3])=xs[0]?:=hf 0 _ rfl;have f1:DataW.trod enc Tryz.prog W 0 (fun _=>true) true n 32 (List.take (Tryz.prog.cellsOf 32) [v1,v2,v3])=xs[1]?:=hf 1 _ rfl;have f2:DataW.trod enc Tryz.prog W 0 (fun _=>true) true n 33 (List.take (Tryz.prog.cellsOf 33) [v2,v3])=xs[2]?:=hf 2 _ rfl;have f3:DataW.trod enc Tryz.prog W 0 (fun _=>true) true n 34 (List.take (Tryz.prog.cellsOf 34) [v3])=xs[3]?:=hf 3 _ rfl;have c1:Tryz.prog.cellsOf 32=1:=by kernel_rfl
 have c2:Tryz.prog.cellsOf 33=1:=by kernel_rfl
 have c3:Tryz.prog.cellsOf 34=1:=by kernel_rfl
 rw [dx] at f0;rw [c1] at f1;rw [c2] at f2;rw [c3] at f3;have hx0:xs.length=4:=hxl;rw [aq (show 0 < xs.length by omega)] at f0;have z0:=hz.field Tryz.underlying36 (i:=0) rfl (aq (show 0 < xs.length by omega));rw [aq (show 1 < xs.length by omega)] at f1;have z1:=hz.field Tryz.underlying36 (i:=1) rfl (aq (show 1 < xs.length by omega));rw [aq (show 2 < xs.length by omega)] at f2;have z2:=hz.field Tryz.underlying36 (i:=2) rfl (aq (show 2 < xs.length by omega));rw [aq (show 3 < xs.length by omega)] at f3;have z3:=hz.field Tryz.underlying36 (i:=3) rfl (aq (show 3 < xs.length by omega));obtain ⟨nm,rfl,hn⟩:=dN f0 z0;obtain ⟨A,n1,c,l1,rfl,h1⟩:=dP (dd reachBytes) 2 Tryz.underlying32 (by kernel_rfl) (by decide) px f1 z1;obtain ⟨B,p,d,l2,rfl,h2⟩:=dP g9 7 Tryz.underlying33 (by kernel_rfl) (by decide) nr f2 z2;obtain ⟨C,q,e,l3,rfl,h3⟩:=dP hH 2 Tryz.underlying34 (by kernel_rfl) (by decide) lB f3 z3;exact ⟨A,n1,c,B,p,d,C,q,e,⟨nm,l1,l2,l3⟩,rfl,rfl,rfl,rfl,hn,h1,h2,h3⟩
variable {base:Nat}
end
end Go.Proofs.YtfilnhompchciaaGreatDoor
namespace Go.Proofs.YtfilnhompchciaaGreatDoor
open Go Go.RowKit Bn
attribute [local go_sem ↓] Go.wp_at_zero Go.wp_at_succ
theorem dF {z:Int}{k K:Nat}(h:z.natAbs < 4294967296 ^ k) (hk:k≤K) (h0:0 < K):(Lib.itoa z).length≤10 * K+1:=by
 have h2:Lib.nDigits z.natAbs≤10 * K:=cV hk h0 h;rw [dI,List.length_append,Lib.decDigits_length];split <;> simp <;> omega
theorem jl (X Y:List UInt8):((⟨X.toArray⟩:ByteArray) ++ ⟨#[47]⟩) ++ ⟨Y.toArray⟩=⟨(X ++ 47 :: Y).toArray⟩:=by
 rw [show (⟨#[47]⟩:ByteArray)=⟨[47].toArray⟩ from rfl,fV,fV,List.append_assoc];rfl
theorem fN {q:Rat}(h:q.den=1):aQ q=Lib.itoa q.num:=if_pos h
theorem fO {q:Rat}(h:q.den≠1):aQ q=Lib.itoa q.num ++ 47 :: Lib.itoa (q.den:Int):=if_neg h
theorem jm (w:World) (b A n c z k) (h:IZ w b A n c z k) (b' A' n' c' z' k') (h':IZ w b' A' n' c' z' k') (v:Int) (hv:bV z z'=v) (hk:k+k'≤999999999):Calls Tryz.prog 171 #[.agg #[.bool b,.slice A n c],.agg #[.bool b',.slice A' n' c']] w (ax w (.int .i64 v)):=by
 subst hv;exact lX w b A n c z k h b' A' n' c' z' k' h' hk
theorem mc {x y:Int}(h:x≠y):bV x y≠0:=by
 unfold bV;(repeat' split) <;> omega
theorem kK:bV 1 1=0:=by decide
theorem py (w:World) (b A n c D m e q k) (h:QZ w b A n c D m e q k) (h0:0 < k) (hk:k≤40000000) (htab:Tab w) (hd:q.den=1) :
 Calls Tryz.prog 141 #[.agg #[.bool b,.slice A n c,.slice D m e]] w (ax w (ah (aQ q))):=by
 rw [fN hd];have HC:=Qh (show bV (q.den:Int) 1=0 by rw [hd];exact kK);clear hd;go_in;go_wp2_with fail;(with_reducible refine (gl _ b A n c D m e (q) (k) ?_ ?_ ?_).mono ?_);(exact (h.belw ((Below.refl _ _).alloc Qr _)));(omega);(omega);rintro e w1 ⟨b1,A1,n1,c1,b'1,A'1,n'1,c'1,rfl,h1,h'1,hb1⟩;have q1:=hb1.q1;replace h:=h.belw q1;have x1a:Blk w1 w.heap.size 65 #[.bool b,.slice A n c,.slice D m e]:=(aj _ _ _ (by simp)).below hb1 (by simp);have bw1:=(ae w).trans (q1.mono (ae w).size);have lw1:=hb1.l1;clear q1;go_wp2_with fail;have p2:=(((Kp.refl w1).alloc (.cells #[.bool b1,.slice A1 n1 c1] 194)).alloc (.cells #[.bool b'1,.slice A'1 n'1 c'1] 194));have bw2:=((bw1.alloc (by first | omega | (simp <;> omega)) (.cells #[.bool b1,.slice A1 n1 c1] 194)).alloc (by first | omega | (simp <;> omega)) (.cells #[.bool b'1,.slice A'1 n'1 c'1] 194));have x2a:Blk ((w1.alloc (.cells #[.bool b1,.slice A1 n1 c1] 194)).alloc (.cells #[.bool b'1,.slice A'1 n'1 c'1] 194)) w1.heap.size 194 #[.bool b1,.slice A1 n1 c1]:=((aj _ _ _ (by simp)).alloc (.cells #[.bool b'1,.slice A'1 n'1 c'1] 194));have x2b:Blk ((w1.alloc (.cells #[.bool b1,.slice A1 n1 c1] 194)).alloc (.cells #[.bool b'1,.slice A'1 n'1 c'1] 194)) (w1.heap.size+1) 194 #[.bool b'1,.slice A'1 n'1 c'1]:=(aj _ _ _ (by simp));replace x1a:=((x1a.alloc (.cells #[.bool b1,.slice A1 n1 c1] 194)).alloc (.cells #[.bool b'1,.slice A'1 n'1 c'1] 194));have lw2:w1.heap.size+2≤((w1.alloc (.cells #[.bool b1,.slice A1 n1 c1] 194)).alloc (.cells #[.bool b'1,.slice A'1 n'1 c'1] 194)).heap.size:=by simp
 generalize hE2:((w1.alloc (.cells #[.bool b1,.slice A1 n1 c1] 194)).alloc (.cells #[.bool b'1,.slice A'1 n'1 c'1] 194))=w2 at p2 bw2 lw2 x2a x2b x1a ⊢;clear hE2;replace h:=h.keep p2;replace h1:=h1.keep p2;replace h'1:=h'1.keep p2;clear bw1;have lx1a:=ci x1a.lt;obtain ⟨lx2aa,lx2ab,lx2ac,lx2ad⟩:=ci x2a.lt;have cx2b:=x2b.c2;have lx2b:=dC x2b.lt
 go_region_held3 (fun w'=>Sees w2.heap.size w2 w') (first | with_reducible exact Sees.of Qr (by assumption) | with_reducible exact Sees.of Qr (ae _).drew | exact Sees.of Qr (aa (ae _) 1) | exact Sees.of Qr (aa (by assumption) _))
  (first
   | (go_at_call 154;(with_reducible refine (lZ _).mono ?_);rintro e w3 ⟨b3,A3,n3,c3,rfl,h3,hb3⟩;replace hb3:=af (aa (ae _) 1) hb3;have q3:Below w2.heap.size w2 w3:=af (ae w2) hb3;replace h:=h.belw hb3;replace h1:=h1.belw hb3;replace h'1:=h'1.belw hb3)
   | (go_at_call 152;(with_reducible refine (mb _ b'1 A'1 n'1 c'1 (((q).den:Int)) ((k)) ?_ b3 A3 n3 c3 (1) (1) ?_ 0 HC.out ?_).mono ?_);(exact h'1.iz);(exact h3.iz);(omega);rintro e w4 ⟨rfl,hb4⟩;have q4:Below w2.heap.size w2 w4:=af q3 hb4;replace h:=h.belw hb4;replace h1:=h1.belw hb4;replace h'1:=h'1.belw hb4;replace h3:=h3.belw hb4))
 have bw4:=bw2.trans (q4.mono bw2.size);clear lx1a lx2aa lx2ab lx2ac lx2ad cx2b lx2b;replace x1a:=x1a.b q4;replace x2a:=x2a.b q4;replace x2b:=x2b.b q4;have lw4:=q4.size;have cx2a:=x2a.c2;obtain ⟨lx2aa,lx2ab,lx2ac,lx2ad⟩:=ci x2a.lt;go_wp2_with fail;(with_reducible refine (gZ _ b1 A1 n1 c1 ((q).num) ((k)) ?_ (Lib.itoa q.num) ?_ ?_ ?_).mono ?_);(exact h1.iz);(omega);(first | exact htab.belw bw4 | exact (htab.belw bw4).belw (aa (ae _) 1) | exact (htab.belw bw4).belw (ae _).drew | exact (htab.belw bw4).belw (by assumption) | fail);(exact rfl);rintro e w5 ⟨rfl,q5⟩;clear cx2a lx2aa lx2ab lx2ac lx2ad;replace h:=h.belw q5;replace h1:=h1.belw q5;replace h'1:=h'1.belw q5;replace h3:=h3.belw q5;replace x1a:=x1a.b q5;replace x2a:=x2a.b q5;replace x2b:=x2b.b q5;have bw5:=bw4.trans (q5.mono bw4.size);have lw5:=q5.size;clear q5 bw4;go_wp2;go_ret;exact ⟨rfl,bw5⟩
theorem pz (w:World) (b A n c D m e q k) (h:QZ w b A n c D m e q k) (h0:0 < k) (hk:k≤40000000) (htab:Tab w) (hd:q.den≠1) :
 Calls Tryz.prog 141 #[.agg #[.bool b,.slice A n c,.slice D m e]] w (ax w (ah (aQ q))):=by
 rw [fO hd];obtain ⟨u,hu⟩:∃ u,bV (q.den:Int) 1=u:=⟨_,rfl⟩;have hu0:u≠0:=by rw [← hu];exact mc (by omega)
 have e0:((u:Int) == 0)=false:=by simp;exact hu0
 have HC:=Qh hu;obtain ⟨X,hX⟩:∃ X,Lib.itoa q.num=X:=⟨_,rfl⟩;obtain ⟨Y,hY⟩:∃ Y,Lib.itoa (q.den:Int)=Y:=⟨_,rfl⟩;have hs:=h.sz h0;have hx1:(⟨X.toArray⟩:ByteArray).size≤1000000000:=by show X.length≤_;rw [← hX];have:=dF hs.1 hk (by omega);omega
 have hy1:(⟨Y.toArray⟩:ByteArray).size≤1000000000:=by show Y.length≤_;rw [← hY];have:=dF (z:=(q.den:Int)) (by simpa using hs.2) hk (by omega);omega
 obtain ⟨N,hN⟩:∃ N,(⟨X.toArray⟩:ByteArray).size=N:=⟨_,rfl⟩;obtain ⟨M,hM⟩:∃ M,(⟨Y.toArray⟩:ByteArray).size=M:=⟨_,rfl⟩;rw [hN] at hx1;rw [hM] at hy1;have hc1:(9223372036854775807 < N+1)=False:=by simp;omega
 have hc2:(9223372036854775807≤N)=False:=by simp;omega
 have hc3:(9223372036854775807 < N+1+M)=False:=by simp;omega
 rw [hX,hY];have HX:=Qh hX;have HY:=Qh hY;clear hd hu hu0 hX hY hs;go_in;go_wp2_with fail;(with_reducible refine (gl _ b A n c D m e (q) (k) ?_ ?_ ?_).mono ?_);(exact (h.belw ((Below.refl _ _).alloc Qr _)));(omega);(omega);rintro e w1 ⟨b1,A1,n1,c1,b'1,A'1,n'1,c'1,rfl,h1,h'1,hb1⟩;have q1:=hb1.q1;replace h:=h.belw q1;have x1a:Blk w1 w.heap.size 65 #[.bool b,.slice A n c,.slice D m e]:=(aj _ _ _ (by simp)).below hb1 (by simp);have bw1:=(ae w).trans (q1.mono (ae w).size);have lw1:=hb1.l1;clear q1;go_wp2_with fail;have p2:=(((Kp.refl w1).alloc (.cells #[.bool b1,.slice A1 n1 c1] 194)).alloc (.cells #[.bool b'1,.slice A'1 n'1 c'1] 194));have bw2:=((bw1.alloc (by first | omega | (simp <;> omega)) (.cells #[.bool b1,.slice A1 n1 c1] 194)).alloc (by first | omega | (simp <;> omega)) (.cells #[.bool b'1,.slice A'1 n'1 c'1] 194));have x2a:Blk ((w1.alloc (.cells #[.bool b1,.slice A1 n1 c1] 194)).alloc (.cells #[.bool b'1,.slice A'1 n'1 c'1] 194)) w1.heap.size 194 #[.bool b1,.slice A1 n1 c1]:=((aj _ _ _ (by simp)).alloc (.cells #[.bool b'1,.slice A'1 n'1 c'1] 194));have x2b:Blk ((w1.alloc (.cells #[.bool b1,.slice A1 n1 c1] 194)).alloc (.cells #[.bool b'1,.slice A'1 n'1 c'1] 194)) (w1.heap.size+1) 194 #[.bool b'1,.slice A'1 n'1 c'1]:=(aj _ _ _ (by simp));replace x1a:=((x1a.alloc (.cells #[.bool b1,.slice A1 n1 c1] 194)).alloc (.cells #[.bool b'1,.slice A'1 n'1 c'1] 194));have lw2:w1.heap.size+2≤((w1.alloc (.cells #[.bool b1,.slice A1 n1 c1] 194)).alloc (.cells #[.bool b'1,.slice A'1 n'1 c'1] 194)).heap.size:=by simp
 generalize hE2:((w1.alloc (.cells #[.bool b1,.slice A1 n1 c1] 194)).alloc (.cells #[.bool b'1,.slice A'1 n'1 c'1] 194))=w2 at p2 bw2 lw2 x2a x2b x1a ⊢;clear hE2;replace h:=h.keep p2;replace h1:=h1.keep p2;replace h'1:=h'1.keep p2;clear bw1;obtain ⟨lx1aa,lx1ab,lx1ac,lx1ad⟩:=ci x1a.lt;obtain ⟨lx2aa,lx2ab,lx2ac,lx2ad⟩:=ci x2a.lt;obtain ⟨cx2ba,cx2bb⟩:=x2b.c2;obtain ⟨lx2ba,lx2bb,lx2bc,lx2bd⟩:=dC x2b.lt
 go_region_held3 (fun w'=>Sees w2.heap.size w2 w') (first | with_reducible exact Sees.of Qr (by assumption) | with_reducible exact Sees.of Qr (ae _).drew | exact Sees.of Qr (aa (ae _) 1) | exact Sees.of Qr (aa (by assumption) _))
  (first
   | (go_at_call 154;(with_reducible refine (lZ _).mono ?_);rintro e w3 ⟨b3,A3,n3,c3,rfl,h3,hb3⟩;replace hb3:=af (aa (ae _) 1) hb3;have q3:Below w2.heap.size w2 w3:=af (ae w2) hb3;replace h:=h.belw hb3;replace h1:=h1.belw hb3;replace h'1:=h'1.belw hb3)
   | (go_at_call 152;(with_reducible refine (mb _ b'1 A'1 n'1 c'1 (((q).den:Int)) ((k)) ?_ b3 A3 n3 c3 (1) (1) ?_ u HC.out ?_).mono ?_);(exact h'1.iz);(exact h3.iz);(omega);rintro e w4 ⟨rfl,hb4⟩;have q4:Below w2.heap.size w2 w4:=af q3 hb4;replace h:=h.belw hb4;replace h1:=h1.belw hb4;replace h'1:=h'1.belw hb4;replace h3:=h3.belw hb4))
 have bw4:=bw2.trans (q4.mono bw2.size);clear lx1aa lx1ab lx1ac lx1ad lx2aa lx2ab lx2ac lx2ad cx2ba cx2bb lx2ba lx2bb lx2bc lx2bd;replace x1a:=x1a.b q4;replace x2a:=x2a.b q4;replace x2b:=x2b.b q4;have lw4:=q4.size;obtain ⟨lx1aa,lx1ab,lx1ac,lx1ad⟩:=ci x1a.lt;have cx2a:=x2a.c2;obtain ⟨lx2aa,lx2ab,lx2ac,lx2ad⟩:=ci x2a.lt;obtain ⟨cx2ba,cx2bb⟩:=x2b.c2;obtain ⟨lx2ba,lx2bb,lx2bc,lx2bd⟩:=dC x2b.lt;go_wp2_with fail
 go_region_held3 (fun w'=>Sees w4.heap.size w4 w') (first | with_reducible exact Sees.of Qr (by assumption) | with_reducible exact Sees.of Qr (ae _).drew | exact Sees.of Qr (aa (ae _) 1) | exact Sees.of Qr (aa (by assumption) _))
  (first
   | (go_at_call 182;(with_reducible refine (gZ _ b1 A1 n1 c1 ((q).num) ((k)) ?_ X ?_ ?_ ?_).mono ?_);(exact h1.iz);(omega);(first | exact htab.belw bw4 | exact (htab.belw bw4).belw (aa (ae _) 1) | exact (htab.belw bw4).belw (ae _).drew | exact (htab.belw bw4).belw (by assumption) | fail);(exact HX.out);rintro e w5 ⟨rfl,hb5⟩;replace hb5:=af (aa (ae _) 1) hb5;have q5:Below w4.heap.size w4 w5:=af (ae w4) hb5;replace h:=h.belw hb5;replace h1:=h1.belw hb5;replace h'1:=h'1.belw hb5;replace h3:=h3.belw hb5)
   | (go_at_call 182;(with_reducible refine (gZ _ b'1 A'1 n'1 c'1 (((q).den:Int)) ((k)) ?_ Y ?_ ?_ ?_).mono ?_);(exact h'1.iz);(omega);(first | exact htab.belw bw4 | exact (htab.belw bw4).belw (aa (ae _) 1) | exact (htab.belw bw4).belw (ae _).drew | exact (htab.belw bw4).belw (by assumption) | fail);(exact HY.out);rintro e w6 ⟨rfl,hb6⟩;have q6:Below w4.heap.size w4 w6:=af q5 hb6;replace h:=h.belw hb6;replace h1:=h1.belw hb6;replace h'1:=h'1.belw hb6;replace h3:=h3.belw hb6))
 have bw6:=bw4.trans (q6.mono bw4.size);clear lx1aa lx1ab lx1ac lx1ad cx2a lx2aa lx2ab lx2ac lx2ad cx2ba cx2bb lx2ba lx2bb lx2bc lx2bd;replace x1a:=x1a.b q6;replace x2a:=x2a.b q6;replace x2b:=x2b.b q6;have lw6:=q6.size;go_wp2;go_ret;refine ⟨?_,bw6⟩;exact congrArg (fun x=>Ending.returned (.string x)) (jl X Y)
theorem sM (w:World) (b A n c D m e q k) (h:QZ w b A n c D m e q k) (h0:0 < k) (hk:k≤40000000) (htab:Tab w) (T:List UInt8) (hT:aQ q=T):Calls Tryz.prog 141 #[.agg #[.bool b,.slice A n c,.slice D m e]] w (ax w (ah T)):=by
 subst hT;by_cases hd:q.den=1
 ·exact py w b A n c D m e q k h h0 hk htab hd
 exact pz w b A n c D m e q k h h0 hk htab hd
theorem pA (w:World) (b A n c D m e q k) (h:QZ w b A n c D m e q k) (h0:0 < k) (hk:k≤40000000) (hd:q.den=1) :
 Calls Tryz.prog 146 #[.agg #[.bool b,.slice A n c,.slice D m e]] w (ax w (ah (aQ q))):=by
 rw [fN hd];have HC:=Qh (show bV (q.den:Int) 1=0 by rw [hd];exact kK);clear hd;go_in;go_wp2_with fail;(with_reducible refine (ef _ b A n c D m e (q) (k) ?_ ?_ ?_).mono ?_);(exact (h.belw ((Below.refl _ _).alloc Qr _)));(omega);(omega);rintro e w1 ⟨b1,A1,n1,c1,b'1,A'1,n'1,c'1,rfl,h1,h'1,hb1⟩;have q1:=hb1.q1;replace h:=h.belw q1;have x1a:Blk w1 w.heap.size 65 #[.bool b,.slice A n c,.slice D m e]:=(aj _ _ _ (by simp)).below hb1 (by simp);have bw1:=(ae w).trans (q1.mono (ae w).size);have lw1:=hb1.l1;clear q1;go_wp2_with fail;have p2:=(((Kp.refl w1).alloc (.cells #[.bool b1,.slice A1 n1 c1] 194)).alloc (.cells #[.bool b'1,.slice A'1 n'1 c'1] 194));have bw2:=((bw1.alloc (by first | omega | (simp <;> omega)) (.cells #[.bool b1,.slice A1 n1 c1] 194)).alloc (by first | omega | (simp <;> omega)) (.cells #[.bool b'1,.slice A'1 n'1 c'1] 194));have x2a:Blk ((w1.alloc (.cells #[.bool b1,.slice A1 n1 c1] 194)).alloc (.cells #[.bool b'1,.slice A'1 n'1 c'1] 194)) w1.heap.size 194 #[.bool b1,.slice A1 n1 c1]:=((aj _ _ _ (by simp)).alloc (.cells #[.bool b'1,.slice A'1 n'1 c'1] 194));have x2b:Blk ((w1.alloc (.cells #[.bool b1,.slice A1 n1 c1] 194)).alloc (.cells #[.bool b'1,.slice A'1 n'1 c'1] 194)) (w1.heap.size+1) 194 #[.bool b'1,.slice A'1 n'1 c'1]:=(aj _ _ _ (by simp));replace x1a:=((x1a.alloc (.cells #[.bool b1,.slice A1 n1 c1] 194)).alloc (.cells #[.bool b'1,.slice A'1 n'1 c'1] 194));have lw2:w1.heap.size+2≤((w1.alloc (.cells #[.bool b1,.slice A1 n1 c1] 194)).alloc (.cells #[.bool b'1,.slice A'1 n'1 c'1] 194)).heap.size:=by simp
 generalize hE2:((w1.alloc (.cells #[.bool b1,.slice A1 n1 c1] 194)).alloc (.cells #[.bool b'1,.slice A'1 n'1 c'1] 194))=w2 at p2 bw2 lw2 x2a x2b x1a ⊢;clear hE2;replace h:=h.keep p2;replace h1:=h1.keep p2;replace h'1:=h'1.keep p2;clear bw1;have lx1a:=ci x1a.lt;obtain ⟨lx2aa,lx2ab,lx2ac,lx2ad⟩:=ci x2a.lt;have cx2b:=x2b.c2;have lx2b:=dC x2b.lt
 go_region_held3 (fun w'=>Sees w2.heap.size w2 w') (first | with_reducible exact Sees.of Qr (by assumption) | with_reducible exact Sees.of Qr (ae _).drew | exact Sees.of Qr (aa (ae _) 1) | exact Sees.of Qr (aa (by assumption) _))
  (first
   | (go_at_call 173;(with_reducible refine (l5 _).mono ?_);rintro e w3 ⟨b3,A3,n3,c3,rfl,h3,hb3⟩;replace hb3:=af (aa (ae _) 1) hb3;have q3:Below w2.heap.size w2 w3:=af (ae w2) hb3;replace h:=h.belw hb3;replace h1:=h1.belw hb3;replace h'1:=h'1.belw hb3)
   | (go_at_call 171;(with_reducible refine (jm _ b'1 A'1 n'1 c'1 (((q).den:Int)) ((k)) ?_ b3 A3 n3 c3 (1) (1) ?_ 0 HC.out ?_).mono ?_);(exact h'1.iz);(exact h3.iz);(omega);rintro e w4 ⟨rfl,hb4⟩;have q4:Below w2.heap.size w2 w4:=af q3 hb4;replace h:=h.belw hb4;replace h1:=h1.belw hb4;replace h'1:=h'1.belw hb4;replace h3:=h3.belw hb4))
 have bw4:=bw2.trans (q4.mono bw2.size);clear lx1a lx2aa lx2ab lx2ac lx2ad cx2b lx2b;replace x1a:=x1a.b q4;replace x2a:=x2a.b q4;replace x2b:=x2b.b q4;have lw4:=q4.size;have cx2a:=x2a.c2;obtain ⟨lx2aa,lx2ab,lx2ac,lx2ad⟩:=ci x2a.lt;go_wp2_with fail;(with_reducible refine (eO _ b1 A1 n1 c1 ((q).num) ((k)) ?_ (Lib.itoa q.num) ?_ ?_).mono ?_);(exact h1.iz);(omega);(exact rfl);rintro e w5 ⟨rfl,q5⟩;clear cx2a lx2aa lx2ab lx2ac lx2ad;replace h:=h.belw q5;replace h1:=h1.belw q5;replace h'1:=h'1.belw q5;replace h3:=h3.belw q5;replace x1a:=x1a.b q5;replace x2a:=x2a.b q5;replace x2b:=x2b.b q5;have bw5:=bw4.trans (q5.mono bw4.size);have lw5:=q5.size;clear q5 bw4;go_wp2;go_ret;exact ⟨rfl,bw5⟩
theorem pB (w:World) (b A n c D m e q k) (h:QZ w b A n c D m e q k) (h0:0 < k) (hk:k≤40000000) (hd:q.den≠1) :
 Calls Tryz.prog 146 #[.agg #[.bool b,.slice A n c,.slice D m e]] w (ax w (ah (aQ q))):=by
 rw [fO hd];obtain ⟨u,hu⟩:∃ u,bV (q.den:Int) 1=u:=⟨_,rfl⟩;have hu0:u≠0:=by rw [← hu];exact mc (by omega)
 have e0:((u:Int) == 0)=false:=by simp;exact hu0
 have HC:=Qh hu;obtain ⟨X,hX⟩:∃ X,Lib.itoa q.num=X:=⟨_,rfl⟩;obtain ⟨Y,hY⟩:∃ Y,Lib.itoa (q.den:Int)=Y:=⟨_,rfl⟩;have hs:=h.sz h0;have hx1:(⟨X.toArray⟩:ByteArray).size≤1000000000:=by show X.length≤_;rw [← hX];have:=dF hs.1 hk (by omega);omega
 have hy1:(⟨Y.toArray⟩:ByteArray).size≤1000000000:=by show Y.length≤_;rw [← hY];have:=dF (z:=(q.den:Int)) (by simpa using hs.2) hk (by omega);omega
 obtain ⟨N,hN⟩:∃ N,(⟨X.toArray⟩:ByteArray).size=N:=⟨_,rfl⟩;obtain ⟨M,hM⟩:∃ M,(⟨Y.toArray⟩:ByteArray).size=M:=⟨_,rfl⟩;rw [hN] at hx1;rw [hM] at hy1;have hc1:(9223372036854775807 < N+1)=False:=by simp;omega
 have hc2:(9223372036854775807≤N)=False:=by simp;omega
 have hc3:(9223372036854775807 < N+1+M)=False:=by simp;omega
 rw [hX,hY];have HX:=Qh hX;have HY:=Qh hY;clear hd hu hu0 hX hY hs;go_in;go_wp2_with fail;(with_reducible refine (ef _ b A n c D m e (q) (k) ?_ ?_ ?_).mono ?_);(exact (h.belw ((Below.refl _ _).alloc Qr _)));(omega);(omega);rintro e w1 ⟨b1,A1,n1,c1,b'1,A'1,n'1,c'1,rfl,h1,h'1,hb1⟩;have q1:=hb1.q1;replace h:=h.belw q1;have x1a:Blk w1 w.heap.size 65 #[.bool b,.slice A n c,.slice D m e]:=(aj _ _ _ (by simp)).below hb1 (by simp);have bw1:=(ae w).trans (q1.mono (ae w).size);have lw1:=hb1.l1;clear q1;go_wp2_with fail;have p2:=(((Kp.refl w1).alloc (.cells #[.bool b1,.slice A1 n1 c1] 194)).alloc (.cells #[.bool b'1,.slice A'1 n'1 c'1] 194));have bw2:=((bw1.alloc (by first | omega | (simp <;> omega)) (.cells #[.bool b1,.slice A1 n1 c1] 194)).alloc (by first | omega | (simp <;> omega)) (.cells #[.bool b'1,.slice A'1 n'1 c'1] 194));have x2a:Blk ((w1.alloc (.cells #[.bool b1,.slice A1 n1 c1] 194)).alloc (.cells #[.bool b'1,.slice A'1 n'1 c'1] 194)) w1.heap.size 194 #[.bool b1,.slice A1 n1 c1]:=((aj _ _ _ (by simp)).alloc (.cells #[.bool b'1,.slice A'1 n'1 c'1] 194));have x2b:Blk ((w1.alloc (.cells #[.bool b1,.slice A1 n1 c1] 194)).alloc (.cells #[.bool b'1,.slice A'1 n'1 c'1] 194)) (w1.heap.size+1) 194 #[.bool b'1,.slice A'1 n'1 c'1]:=(aj _ _ _ (by simp));replace x1a:=((x1a.alloc (.cells #[.bool b1,.slice A1 n1 c1] 194)).alloc (.cells #[.bool b'1,.slice A'1 n'1 c'1] 194));have lw2:w1.heap.size+2≤((w1.alloc (.cells #[.bool b1,.slice A1 n1 c1] 194)).alloc (.cells #[.bool b'1,.slice A'1 n'1 c'1] 194)).heap.size:=by simp
 generalize hE2:((w1.alloc (.cells #[.bool b1,.slice A1 n1 c1] 194)).alloc (.cells #[.bool b'1,.slice A'1 n'1 c'1] 194))=w2 at p2 bw2 lw2 x2a x2b x1a ⊢;clear hE2;replace h:=h.keep p2;replace h1:=h1.keep p2;replace h'1:=h'1.keep p2;clear bw1;obtain ⟨lx1aa,lx1ab,lx1ac,lx1ad⟩:=ci x1a.lt;obtain ⟨lx2aa,lx2ab,lx2ac,lx2ad⟩:=ci x2a.lt;obtain ⟨cx2ba,cx2bb⟩:=x2b.c2;obtain ⟨lx2ba,lx2bb,lx2bc,lx2bd⟩:=dC x2b.lt
 go_region_held3 (fun w'=>Sees w2.heap.size w2 w') (first | with_reducible exact Sees.of Qr (by assumption) | with_reducible exact Sees.of Qr (ae _).drew | exact Sees.of Qr (aa (ae _) 1) | exact Sees.of Qr (aa (by assumption) _))
  (first
   | (go_at_call 173;(with_reducible refine (l5 _).mono ?_);rintro e w3 ⟨b3,A3,n3,c3,rfl,h3,hb3⟩;replace hb3:=af (aa (ae _) 1) hb3;have q3:Below w2.heap.size w2 w3:=af (ae w2) hb3;replace h:=h.belw hb3;replace h1:=h1.belw hb3;replace h'1:=h'1.belw hb3)
   | (go_at_call 171;(with_reducible refine (jm _ b'1 A'1 n'1 c'1 (((q).den:Int)) ((k)) ?_ b3 A3 n3 c3 (1) (1) ?_ u HC.out ?_).mono ?_);(exact h'1.iz);(exact h3.iz);(omega);rintro e w4 ⟨rfl,hb4⟩;have q4:Below w2.heap.size w2 w4:=af q3 hb4;replace h:=h.belw hb4;replace h1:=h1.belw hb4;replace h'1:=h'1.belw hb4;replace h3:=h3.belw hb4))
 have bw4:=bw2.trans (q4.mono bw2.size);clear lx1aa lx1ab lx1ac lx1ad lx2aa lx2ab lx2ac lx2ad cx2ba cx2bb lx2ba lx2bb lx2bc lx2bd;replace x1a:=x1a.b q4;replace x2a:=x2a.b q4;replace x2b:=x2b.b q4;have lw4:=q4.size;obtain ⟨lx1aa,lx1ab,lx1ac,lx1ad⟩:=ci x1a.lt;have cx2a:=x2a.c2;obtain ⟨lx2aa,lx2ab,lx2ac,lx2ad⟩:=ci x2a.lt;obtain ⟨cx2ba,cx2bb⟩:=x2b.c2;obtain ⟨lx2ba,lx2bb,lx2bc,lx2bd⟩:=dC x2b.lt;go_wp2_with fail
 go_region_held3 (fun w'=>Sees w4.heap.size w4 w') (first | with_reducible exact Sees.of Qr (by assumption) | with_reducible exact Sees.of Qr (ae _).drew | exact Sees.of Qr (aa (ae _) 1) | exact Sees.of Qr (aa (by assumption) _))
  (first
   | (go_at_call 185;(with_reducible refine (eO _ b1 A1 n1 c1 ((q).num) ((k)) ?_ X ?_ ?_).mono ?_);(exact h1.iz);(omega);(exact HX.out);rintro e w5 ⟨rfl,hb5⟩;replace hb5:=af (aa (ae _) 1) hb5;have q5:Below w4.heap.size w4 w5:=af (ae w4) hb5;replace h:=h.belw hb5;replace h1:=h1.belw hb5;replace h'1:=h'1.belw hb5;replace h3:=h3.belw hb5)
   | (go_at_call 185;(with_reducible refine (eO _ b'1 A'1 n'1 c'1 (((q).den:Int)) ((k)) ?_ Y ?_ ?_).mono ?_);(exact h'1.iz);(omega);(exact HY.out);rintro e w6 ⟨rfl,hb6⟩;have q6:Below w4.heap.size w4 w6:=af q5 hb6;replace h:=h.belw hb6;replace h1:=h1.belw hb6;replace h'1:=h'1.belw hb6;replace h3:=h3.belw hb6))
 have bw6:=bw4.trans (q6.mono bw4.size);clear lx1aa lx1ab lx1ac lx1ad cx2a lx2aa lx2ab lx2ac lx2ad cx2ba cx2bb lx2ba lx2bb lx2bc lx2bd;replace x1a:=x1a.b q6;replace x2a:=x2a.b q6;replace x2b:=x2b.b q6;have lw6:=q6.size;go_wp2;go_ret;refine ⟨?_,bw6⟩;exact congrArg (fun x=>Ending.returned (.string x)) (jl X Y)
theorem sN (w:World) (b A n c D m e q k) (h:QZ w b A n c D m e q k) (h0:0 < k) (hk:k≤40000000) (T:List UInt8) (hT:aQ q=T):Calls Tryz.prog 146 #[.agg #[.bool b,.slice A n c,.slice D m e]] w (ax w (ah T)):=by
 subst hT;by_cases hd:q.den=1
 ·exact pA w b A n c D m e q k h h0 hk hd
 exact pB w b A n c D m e q k h h0 hk hd
def aH (m:aX):List UInt8:=32 :: (m.name ++ 32 :: (aQ m.x.q ++ 32 :: (aQ m.y.q ++ [59])))
def dy (b:aA):List UInt8:=[98,111,100,121,32] ++ b.name ++ [32,123] ++ b.pts.flatMap aH ++ [32,125]
theorem cj {q:Rat}{k:Nat}(hs:Sz q k) (hk:k≤40):(aQ q).length≤1000:=by
 have h1:=dF (z:=q.num) (k:=k) (K:=40) hs.1 hk (by decide);have h2:=dF (z:=(q.den:Int)) (k:=k) (K:=40) (by simpa using hs.2) hk (by decide);by_cases h:q.den=1
 ·rw [fN h];omega
 rw [fO h,List.length_append,List.length_cons];omega
def ek (m:aX):Prop:=m.name.length≤1000∧Sz m.x.q 40∧Sz m.y.q 40
theorem jS {m:aX}(h:ek m):(aH m).length≤3010:=by
 have h1:=cj h.2.1 Qr;have h2:=cj h.2.2 Qr;have h3:=h.1;unfold aH;simp only [List.length_cons,List.length_append,List.length_nil];omega
theorem em:∀ {l:List aX},(∀ m∈l,ek m)→(l.flatMap aH).length≤3010 * l.length
 | [],_=>by simp
 | m :: l,h=>by
  have h1:=jS (h m (by simp));have h2:=em (l:=l) (fun x hx=>h x (by simp [hx]));simp only [List.flatMap_cons,List.length_append,List.length_cons];omega
theorem bE {α:Type}(f:α→List UInt8) {l:List α}{i:Nat}{a:α}(h:l[i]?=some a):(l.take (i+1)).flatMap f=(l.take i).flatMap f ++ f a:=by
 rw [List.take_add_one,h];simp
theorem bC {α:Type}(f:α→List UInt8):∀ (l:List α) (i:Nat),((l.take i).flatMap f).length≤(l.flatMap f).length
 | [],i=>by simp
 | a :: l,0=>by simp
 | a :: l,i+1=>by
  have:=bC f l i;simp only [List.take_succ_cons,List.flatMap_cons,List.length_append];omega
theorem pC (b:Nat) (w:World) (h0:w.cell? ⟨b,0,none⟩=some (.pointer (some ⟨b,0,none⟩))) :
 Calls Tryz.prog 58 #[.pointer (some ⟨b,0,none⟩)] w fun e w'=>e=.returned (.tuple #[])∧w'=w:=by
 obtain ⟨j,hj,_⟩:=Option.map_eq_some_iff.1 (show (Tryz.prog.info? 70).map TypeInfo.size=some 2 by kernel_rfl);go_in;go_wp2;rw [Lib.run_neq_ptr_same w _ Tryz.underlying68 hj];go_wp2;go_end0;exact ⟨rfl,rfl⟩
theorem nw (b:Nat) (w:World) (h0:w.cell? ⟨b,0,none⟩=some (.pointer none)) (hsh:w.shape? b=some (70,2)) (hfz:w.frozen? ⟨b,0,none⟩=false) :
 Calls Tryz.prog 58 #[.pointer (some ⟨b,0,none⟩)] w fun e w'=>e=.returned (.tuple #[])∧w'=w.setCell ⟨b,0,none⟩ (.pointer (some ⟨b,0,none⟩)):=by
 obtain ⟨j,hj,hjs⟩:=Option.map_eq_some_iff.1 (show (Tryz.prog.info? 70).map TypeInfo.size=some 2 by kernel_rfl);go_in;go_wp2;rw [Lib.run_to_unsafe w ⟨b,0,none⟩ Tryz.underlying68 Tryz.underlying152 hj (by rw [hjs];decide) hsh (Nat.zero_lt_succ 1)];simp only [Result.andThen];rw [Oper.upon_value];go_wp2;rw [run_callFunc_extern Tryz.func99 (by kernel_rfl) (by kernel_rfl) (by kernel_rfl) (e:=Extern.AbiNoEscape.same) (by kernel_rfl)];rw [Lib.run_noEscape];simp only [Result.andThen];rw [Oper.upon_value];go_wp2;rw [Lib.run_from_unsafe w ⟨b,0,none⟩ Tryz.underlying152 Tryz.underlying68 hj hsh (by kernel_rfl)];simp only [Result.andThen];rw [Oper.upon_value];go_wp2;go_end0;exact ⟨rfl,rfl⟩
def Oth (b:Nat) (w w':World):Prop:=∀ g T cs,g≠b→T≠5→Blk w g T cs→Blk w' g T cs
theorem Oth.refl (b:Nat) (w:World):Oth b w w:=fun _ _ _ _ _ h=>h
theorem Oth.set {b:Nat}{w w':World}(h:Oth b w w') (i:Nat) (u:Value):Oth b w (w'.setCell ⟨b,i,none⟩ u):=fun g T cs hg hT hb=>(h g T cs hg hT hb).far hg u
theorem nA (B b:Nat) (bs:List Value) (w:World) (h:Lib.IsBuilder 70 5 B b bs w) :
 Calls Tryz.prog 58 #[.pointer (some ⟨b,0,none⟩)] w fun e w'=>e=.returned (.tuple #[])∧(Lib.BuilderAt 70 5 B b (.pointer (some ⟨b,0,none⟩)) bs w'∧Below B w w'∧Oth b w w'):=by
 rcases h with h | h
 ·refine (nw b w h.cell0 h.shape h.frozen0).mono ?_
  rintro e w' ⟨rfl,rfl⟩;exact ⟨rfl,h.used _,(Below.refl B w).setCell (p:=⟨b,0,none⟩) h.1 _,(Oth.refl b w).set 0 _⟩
 refine (pC b w h.cell0).mono ?_;rintro e w' ⟨rfl,rfl⟩;exact ⟨rfl,h,Below.refl B _,Oth.refl b _⟩
theorem nB (B b:Nat) (bs:List Value) (s:ByteArray) (w:World) (h:Lib.IsBuilder 70 5 B b bs w) (hlen:bs.length+s.size≤140737488355328) (hBw:B≤w.heap.size) :
 Calls Tryz.prog 27 #[.pointer (some ⟨b,0,none⟩),.string s] w fun e w'=>e=.returned (.tuple #[.int .i64 s.size,.nilIface])∧(Lib.BuilderAt 70 5 B b (.pointer (some ⟨b,0,none⟩)) (bs ++ Lib.strCells s) w'∧Below B w w'∧Oth b w w'):=by
 obtain ⟨i0,hi,hz0,hz1,hz2⟩:=info_parts (show (Tryz.prog.info? 5).map (fun i=>(i.zero,i.size,i.bytes))=some (some (.int .u8 0),1,1) by kernel_rfl);go_in;go_wp2_with (go_at_call 58;refine (nA B b bs _ h).mono ?_);rintro e w1 ⟨rfl,h1,hb1,ho1⟩;obtain ⟨hB,v,hbk,hown,hne⟩:=h1;have c0:w1.cell? ⟨b,0,none⟩=some (.pointer (some ⟨b,0,none⟩)):=by rw [Lib.cell_of_heap hbk];rfl
 have c1:w1.cell? ⟨b,1,none⟩=some v:=by rw [Lib.cell_of_heap hbk];rfl
 go_wp2_with (at_builtin;refine Lib.wpList_append_own_string _ rfl _ _ 47 9 rfl B 5 i0 Tryz.underlying47 Tryz.underlying9 hi hz0 hz1 hz2 _ _ _ rfl hown s rfl ?c3 ?c4 ?c5 ?_)
 case c3=>unfold maxLen;omega
 case c4=>omega
 case c5=>have:=hb1.size;omega
 intro v' w2 hown' hgrow _
 have hlt:b < w1.heap.size:=by
  rcases Nat.lt_or_ge b w1.heap.size with h' | h'
  ·exact h'
  simp [Array.getElem?_eq_none h'] at hbk
 have hb2:w2.heap[b]?=some (.cells #[.pointer (some ⟨b,0,none⟩),v] 70 (0,0)):=by
  rw [hgrow.block b hlt (fun e=>hne e.symm)];exact hbk
 have d0:w2.cell? ⟨b,0,none⟩=some (.pointer (some ⟨b,0,none⟩)):=by rw [Lib.cell_of_heap hb2];rfl
 have d1:w2.cell? ⟨b,1,none⟩=some v:=by rw [Lib.cell_of_heap hb2];rfl
 have f1:w2.frozen? ⟨b,1,none⟩=false:=Lib.frozen_of_heap hb2 1
 obtain ⟨ao,n',cap,rfl⟩:∃ ao n' cap,v'=.slice ao n' cap:=by
  rcases hown'.2 with ⟨hv,_⟩ | ⟨g,cap,cur,hv,_⟩
  ·exact ⟨_,_,_,hv⟩
  exact ⟨_,_,_,hv⟩
 go_wp2;go_ret2;refine ⟨rfl,?_,?_,Oth.set (fun g T cs hg hT hb=>?_) 1 _⟩
 ·exact Lib.BuilderAt.put (T:=70) (e:=5) hB hb2 (bs':=bs ++ Lib.strCells s) (by simpa [Lib.strCells_length] using hown') (by decide)
 ·exact (hb1.grown hgrow (by have:=hb1.size;omega) (fun k hk=>(hown.lt k hk).1)).setCell (p:=⟨b,1,none⟩) hB _
 have h9:=ho1 g T cs hg hT hb;refine (hgrow.block g h9.lt (fun hgv=>?_)).trans h9;rcases hown.2 with ⟨hv,_⟩ | ⟨g',cap,cur,hv,_,hk,_⟩
 ·rw [hv] at hgv;cases hgv
 rw [hv] at hgv;injection hgv with hgv;subst hgv;have:=h9.symm.trans hk;simp only [Option.some.injEq,Obj.cells.injEq] at this;exact hT this.2.1
theorem fz (w:World) (b:Bool) (A:Option Addr) (n c:Nat) (D:Option Addr) (m e:Nat) (r:RD) (k:Nat) (h:QD w b A n c D m e r k) (h0:0 < k) (hk:k≤40000000) (htab:Tab w) (T:List UInt8) (hT:aQ r.q=T) :
 Calls Tryz.prog 101 #[.agg #[.bool b,.slice A n c,.slice D m e]] w (ax w (ah T)):=by
 have H:=Qh h;have HT:=Qh hT;clear h hT;go_in;go_wp2_with fail;have q0:Below w.heap.size w (w.alloc (.cells #[.bool b,.slice A n c,.slice D m e] 65)):=(Below.refl _ _).alloc Qr _;(with_reducible refine (sM _ b A n c D m e r.q k (H.out.belw q0).qz h0 hk (htab.belw q0) T HT.out).mono ?_);rintro e' w1 ⟨rfl,hb1⟩;have q1:=q0.trans (hb1.mono q0.size);go_wp2;go_ret;exact ⟨rfl,q1⟩
theorem fA (w:World) (b:Bool) (A:Option Addr) (n c:Nat) (D:Option Addr) (m e:Nat) (r:RD) (k:Nat) (h:QD w b A n c D m e r k) (h0:0 < k) (hk:k≤40000000) (T:List UInt8) (hT:aQ r.q=T) :
 Calls Tryz.prog 106 #[.agg #[.bool b,.slice A n c,.slice D m e]] w (ax w (ah T)):=by
 have H:=Qh h;have HT:=Qh hT;clear h hT;go_in;go_wp2_with fail;have q0:Below w.heap.size w (w.alloc (.cells #[.bool b,.slice A n c,.slice D m e] 65)):=(Below.refl _ _).alloc Qr _;(with_reducible refine (sN _ b A n c D m e r.q k (H.out.belw q0).qz h0 hk T HT.out).mono ?_);rintro e' w1 ⟨rfl,hb1⟩;have q1:=q0.trans (hb1.mono q0.size);go_wp2;go_ret;exact ⟨rfl,q1⟩
def Bu (B b:Nat) (w:World) (l:List UInt8):Prop:=Lib.IsBuilder 70 5 B b (Lib.byteCells l) w∧B≤w.heap.size
theorem BuilderAt.belw {T e:TypeId}{B b:Nat}{p:Value}{bs:List Value}{w w':World}(h:Lib.BuilderAt T e B b p bs w) (hb:Below w.heap.size w w'):Lib.BuilderAt T e B b p bs w':=by
 have hlt:=h.lt;obtain ⟨hB,v,hk,hown,hne⟩:=h;refine ⟨hB,v,(hb.block b hlt).trans hk,⟨hown.1,?_⟩,hne⟩;rcases hown.2 with h1 | ⟨g,cap,cur,h1,h2,h3,h4⟩
 ·exact Or.inl h1
 refine Or.inr ⟨g,cap,cur,h1,h2,(hb.block g ?_).trans h3,h4⟩;exact lt_of_block h3
theorem Bu.belw {B b:Nat}{w w':World}{l:List UInt8}(h:Bu B b w l) (hb:Below w.heap.size w w'):Bu B b w' l :=
 ⟨h.1.imp (fun x=>BuilderAt.belw x hb) (fun x=>BuilderAt.belw x hb),Nat.le_trans h.2 hb.size⟩
theorem Bu.lt {B b:Nat}{w:World}{l:List UInt8}(h:Bu B b w l):b < w.heap.size:=h.1.elim (fun x=>x.lt) (fun x=>x.lt)
theorem Bu.new {w:World}:Bu w.heap.size w.heap.size (w.alloc (.cells #[.pointer none,.slice none 0 0] 70)) [] :=
 ⟨Lib.fresh_isBuilder _ _ w,by simp⟩
theorem iG (a:List UInt8) (b:List UInt8):Lib.byteCells a ++ Lib.strCells ⟨b.toArray⟩=Lib.byteCells (a ++ b):=by
 simp [Lib.strCells,Lib.byteCells]
theorem bP (B b:Nat) (w:World) (l s:List UInt8) (h:Bu B b w l) (hlen:l.length+s.length≤140737488355328) :
 Calls Tryz.prog 27 #[.pointer (some ⟨b,0,none⟩),ah s] w fun e w'=>e=.returned (.tuple #[.int .i64 (s.length:Nat),.nilIface])∧Bu B b w' (l ++ s)∧Below B w w'∧Oth b w w':=by
 have hz:(⟨s.toArray⟩:ByteArray).size=s.length:=ag s;refine (nB B b (Lib.byteCells l) ⟨s.toArray⟩ w h.1 (by rw [hz];simpa [Lib.byteCells] using hlen) h.2).mono ?_;rintro e w' ⟨rfl,h1,h2,h3⟩;rw [iG] at h1;exact ⟨by rw [hz],⟨Or.inr h1,Nat.le_trans h.2 h2.size⟩,h2,h3⟩
theorem pD (B b:Nat) (w:World) (l:List UInt8) (h:Bu B b w l) :
 Calls Tryz.prog 31 #[.pointer (some ⟨b,0,none⟩)] w fun e w'=>e=.returned (.int .i64 (l.length:Nat))∧w'=w:=by
 refine (Tryz.Builder_Len B b _ w h.1).mono ?_;rintro e w' ⟨rfl,rfl⟩;exact ⟨by simp [Lib.byteCells],rfl⟩
theorem lC (B b:Nat) (w:World) (l:List UInt8) (h:Bu B b w l) :
 Calls Tryz.prog 32 #[.pointer (some ⟨b,0,none⟩)] w fun e w'=>e=.returned (ah l)∧Below B w w':=Tryz.Builder_String_any B b l w h.1 h.2
theorem Blk.c7 {w:World}{g t:Nat}{a0 a1 a2 a3 a4 a5 a6:Value}(h:Blk w g t #[a0,a1,a2,a3,a4,a5,a6]):w.cell? ⟨g,0,none⟩=some a0∧w.cell? ⟨g,1,none⟩=some a1∧w.cell? ⟨g,2,none⟩=some a2∧w.cell? ⟨g,3,none⟩=some a3∧w.cell? ⟨g,4,none⟩=some a4∧w.cell? ⟨g,5,none⟩=some a5∧w.cell? ⟨g,6,none⟩=some a6:=⟨h.cell 0,h.cell 1,h.cell 2,h.cell 3,h.cell 4,h.cell 5,h.cell 6⟩
abbrev S7 (g:Nat) (a0 a1 a2 a3 a4 a5 a6:Value) (w:World):Prop:=w.cell? ⟨g,0,none⟩=some a0∧w.cell? ⟨g,1,none⟩=some a1∧w.cell? ⟨g,2,none⟩=some a2∧w.cell? ⟨g,3,none⟩=some a3∧w.cell? ⟨g,4,none⟩=some a4∧w.cell? ⟨g,5,none⟩=some a5∧w.cell? ⟨g,6,none⟩=some a6
theorem dw.short {w:World}{g o:Nat}{m:aX}(h:dw 40 w g o m) (hm:m.name.length≤1000):ek m:=by
 obtain ⟨_,⟨b,A,n,c,D,m1,e,_,_,_,h1⟩,⟨b',A',n',c',D',m1',e',_,_,_,h2⟩,_⟩:=h;exact ⟨hm,h1.sz (by decide),h2.sz (by decide)⟩
theorem SlS.short {w:World}{A:Option Addr}{n c:Nat}{l:List aX}(h:SlS (dw 40) 7 w A n c l) (hms:∀ m∈l,m.name.length≤1000):∀ m∈l,ek m:=by
 intro m hm;obtain ⟨i,hi,e⟩:=List.getElem_of_mem hm;obtain ⟨g,o,a,_,_,_,ha,hp⟩:=h.at_ (i:=i) (by rw [← h.1];exact hi);rw [List.getElem?_eq_getElem hi] at ha;injection ha with ha;rw [← ha,e] at hp;exact hp.short (hms m hm)
theorem sO (w:World) (A:Option Addr) (n c:Nat) (b:aA) (h:SlS (dw 40) 7 w A n c b.pts) (htab:Tab w) (hn:n≤1000) (hnm:b.name.length≤1000) (hms:∀ m∈b.pts,m.name.length≤1000) (T:List UInt8) (hT:dy b=T) :
 Calls Tryz.prog 60 #[.agg #[ah b.name,.slice A n c]] w (ax w (ah T)):=by
 have HM:=Qh (h.short hms);have HF:=Qh (em (h.short hms));have hlen:=h.1;have hnc:=h.2.1;have hsn:=ag b.name;obtain ⟨h1,eh1⟩:∃ t,[98,111,100,121,32] ++ b.name=t:=⟨_,rfl⟩;have ah1:=av ([98,111,100,121,32]) (b.name);rw [eh1] at ah1;have lh1:h1.length=5+b.name.length:=by rw [← eh1,List.length_append];try simp
 have kh1:(9223372036854775807 < 5+b.name.length)=False:=eq_false (by omega);have zh1:=ag h1;obtain ⟨h2,eh2⟩:∃ t,h1 ++ [32,123]=t:=⟨_,rfl⟩;have ah2:=av (h1) ([32,123]);rw [eh2] at ah2;have lh2:h2.length=h1.length+2:=by rw [← eh2,List.length_append];try simp
 have kh2:(9223372036854775807 < h1.length+2)=False:=eq_false (by omega);have zh2:=ag h2;have HE:Hid (b.pts.flatMap aH ++ [32,125] ++ []=b.pts.flatMap aH ++ [32,125]∧T=h2 ++ b.pts.flatMap aH ++ [32,125]):=Qh ⟨by simp,by rw [← hT,← eh2,← eh1];rfl⟩;have HLN:=Qh hlen;have HTab:=Qh htab;have H:=Qh h;have hl2:h2.length≤1007:=by omega
 clear h hms hT htab hlen eh1 eh2 lh1 lh2;go_in;go_wp2_with fail
 have B0:Bu (w.heap.size+1) (w.heap.size+1) ((w.alloc (.cells #[ah b.name,.slice A n c] 62)).alloc (.cells #[.pointer none,.slice none 0 0] 70)) []:=by
  have:=Bu.new (w:=w.alloc (.cells #[ah b.name,.slice A n c] 62));simpa using this
 have q0:Below w.heap.size w ((w.alloc (.cells #[ah b.name,.slice A n c] 62)).alloc (.cells #[.pointer none,.slice none 0 0] 70)):=((ae w).alloc Qr _).alloc (by simp) _;have xa:Blk ((w.alloc (.cells #[ah b.name,.slice A n c] 62)).alloc (.cells #[.pointer none,.slice none 0 0] 70)) w.heap.size 62 #[ah b.name,.slice A n c]:=(aj _ _ _ rfl).alloc _;(with_reducible refine (bP _ _ _ _ h2 B0 (by simp;omega)).mono ?_);rintro e' w1 ⟨rfl,B1,q1,_⟩;have q1:Below w.heap.size w w1:=q0.trans (q1.mono (by omega));have xa:=xa.below ‹Below (w.heap.size+1) _ w1› (by omega);rw [List.nil_append] at B1;clear B0 q0;obtain ⟨cA0,cA1⟩:=xa.c2;have HB:=Qh B1;clear B1;go_wp2_with fail;clear cA0 cA1;go_loopw [14] (fun iv wr=>∃ i:Nat,iv=.int .i64 (i:Nat)∧i≤n∧Hid (Bu (w.heap.size+1) (w.heap.size+1) wr (h2 ++ (b.pts.take i).flatMap aH))∧Below w.heap.size w wr) (fun iv _=>n - (intOf iv).toNat)
 case atStart=>exact ⟨0,rfl,Nat.zero_le _,by simpa using HB,q1⟩
 case round =>
  clear HB q1;obtain ⟨i,rfl,hi,HB,hb⟩:=hrel;rename World=>wa;have hfl:=bC aH b.pts i;rcases Nat.lt_or_ge i n with hlt | hge
  ·have hi1:((i:Int) < (n:Int))=True:=by simp;omega
   obtain ⟨g,o,m,e1,hg,_,hbi,hM⟩:=(H.out.mk_ hb).at_ hlt;subst e1;have hsh:=HM.out m (List.mem_of_getElem? hbi);obtain ⟨hm1,hm2,hm3⟩:=hsh;have hfs:=bE aH hbi;have hfl2:=bC aH b.pts (i+1);obtain ⟨d0,⟨b1,A1,n1,c1,D1,m1,e1,d1,d2,d3,hQ1⟩,⟨b2,A2,n2,c2,D2,m2,e2,d4,d5,d6,hQ2⟩,hmn⟩:=hM;have d2:wa.cell? ⟨g,o+i * 7+2,none⟩=some (.slice A1 n1 c1):=d2;have d3:wa.cell? ⟨g,o+i * 7+3,none⟩=some (.slice D1 m1 e1):=d3;have d5:wa.cell? ⟨g,o+i * 7+5,none⟩=some (.slice A2 n2 c2):=d5;have d6:wa.cell? ⟨g,o+i * 7+6,none⟩=some (.slice D2 m2 e2):=d6;have hsm:=ag m.name;obtain ⟨X,hX⟩:∃ X,aQ m.x.q=X:=⟨_,rfl⟩;obtain ⟨Y,hY⟩:∃ Y,aQ m.y.q=Y:=⟨_,rfl⟩;have hsX:=ag X;have hsY:=ag Y;have hlX:X.length≤1000:=by rw [← hX];exact cj hm2 Qr
   have hlY:Y.length≤1000:=by rw [← hY];exact cj hm3 Qr
   obtain ⟨s1,es1⟩:∃ t,[32] ++ m.name=t:=⟨_,rfl⟩;have as1:=av ([32]) (m.name);rw [es1] at as1;have ls1:s1.length=1+m.name.length:=by rw [← es1,List.length_append];try simp
   have ks1:(9223372036854775807 < 1+m.name.length)=False:=eq_false (by omega);have zs1:=ag s1;obtain ⟨s2,es2⟩:∃ t,s1 ++ [32]=t:=⟨_,rfl⟩;have as2:=av (s1) ([32]);rw [es2] at as2;have ls2:s2.length=s1.length+1:=by rw [← es2,List.length_append];try simp
   have ks2:(9223372036854775807 < s1.length+1)=False:=eq_false (by omega);have zs2:=ag s2;obtain ⟨s3,es3⟩:∃ t,s2 ++ X=t:=⟨_,rfl⟩;have as3:=av (s2) (X);rw [es3] at as3;have ls3:s3.length=s2.length+X.length:=by rw [← es3,List.length_append];try simp
   have ks3:(9223372036854775807 < s2.length+X.length)=False:=eq_false (by omega);have zs3:=ag s3;obtain ⟨s4,es4⟩:∃ t,s3 ++ [32]=t:=⟨_,rfl⟩;have as4:=av (s3) ([32]);rw [es4] at as4;have ls4:s4.length=s3.length+1:=by rw [← es4,List.length_append];try simp
   have ks4:(9223372036854775807 < s3.length+1)=False:=eq_false (by omega);have zs4:=ag s4;obtain ⟨s5,es5⟩:∃ t,s4 ++ Y=t:=⟨_,rfl⟩;have as5:=av (s4) (Y);rw [es5] at as5;have ls5:s5.length=s4.length+Y.length:=by rw [← es5,List.length_append];try simp
   have ks5:(9223372036854775807 < s4.length+Y.length)=False:=eq_false (by omega);have zs5:=ag s5;obtain ⟨s6,es6⟩:∃ t,s5 ++ [59]=t:=⟨_,rfl⟩;have as6:=av (s5) ([59]);rw [es6] at as6;have ls6:s6.length=s5.length+1:=by rw [← es6,List.length_append];try simp
   have ks6:(9223372036854775807 < s5.length+1)=False:=eq_false (by omega);have zs6:=ag s6
   have hmt:aH m=s6:=by
    rw [← es6,← es5,← es4,← es3,← es2,← es1,← hX,← hY];unfold aH;simp
   rw [hmt] at hfs
   have hls:((b.pts.take i).flatMap aH).length+s6.length≤3010 * n:=by
    have:=congrArg List.length hfs;rw [List.length_append] at this;have h9:=HF.out;have h8:=HLN.out;rw [h8] at h9;omega
   have HX:=Qh hX;have HY:=Qh hY;have HFS:=Qh hfs;have HQ1:=Qh hQ1;have HQ2:=Qh hQ2;have HLS:=Qh hls;have hga:g < wa.heap.size:=hg;clear hX hY hfs hQ1 hQ2 hls hmt hfl hfl2 hbi hm1 hm2 hm3 es1 es2 es3 es4 es5 es6 ls1 ls2 ls3 ls4 ls5 ls6;go_wp2_with fail;have xp:Blk (wa.alloc (.cells #[ah m.name,.bool b1,.slice A1 n1 c1,.slice D1 m1 e1,.bool b2,.slice A2 n2 c2,.slice D2 m2 e2] 67)) wa.heap.size 67 #[ah m.name,.bool b1,.slice A1 n1 c1,.slice D1 m1 e1,.bool b2,.slice A2 n2 c2,.slice D2 m2 e2]:=aj _ _ _ rfl;have qb:Below wa.heap.size wa (wa.alloc (.cells #[ah m.name,.bool b1,.slice A1 n1 c1,.slice D1 m1 e1,.bool b2,.slice A2 n2 c2,.slice D2 m2 e2] 67)):=(ae wa).alloc Qr _;have HBb:=Qh (HB.out.belw qb);have HTb:=Qh ((HTab.out.belw hb).belw qb);have HQ1b:=Qh (HQ1.out.belw qb);have HQ2b:=Qh (HQ2.out.belw qb);have bwb:=hb.trans (qb.mono hb.size);have hwb:wa.heap.size < (wa.alloc (.cells #[ah m.name,.bool b1,.slice A1 n1 c1,.slice D1 m1 e1,.bool b2,.slice A2 n2 c2,.slice D2 m2 e2] 67)).heap.size:=xp.lt;have hbl:wa.heap.size≠w.heap.size+1:=by have:=HB.out.lt;omega
   clear HB HQ1 HQ2 d0 d1 d2 d3 d4 d5 d6;generalize (wa.alloc (.cells #[ah m.name,.bool b1,.slice A1 n1 c1,.slice D1 m1 e1,.bool b2,.slice A2 n2 c2,.slice D2 m2 e2] 67))=wb at xp qb HBb HTb HQ1b HQ2b bwb hwb ⊢;obtain ⟨cp0,cp1,cp2,cp3,cp4,cp5,cp6⟩:=xp.c7
   go_region_held3 (S7 wa.heap.size (ah m.name) (.bool b1) (.slice A1 n1 c1) (.slice D1 m1 e1) (.bool b2) (.slice A2 n2 c2) (.slice D2 m2 e2)) (first | with_reducible exact Blk.c7 (by assumption) | with_reducible exact Blk.c7 (Blk.drew (by assumption)) | exact Blk.c7 (Blk.drewN (by assumption) _))
    (first
     | (go_at_call 101;(with_reducible refine (fz _ b1 A1 n1 c1 D1 m1 e1 m.x 40 ?_ (by decide) (by decide) ?_ X HX.out).mono ?_);(exact HQ1b.out.belw (by first | exact qwy | exact (ae wb).drew | exact aa (ae wb) _));(exact HTb.out.belw (by first | exact qwy | exact (ae wb).drew | exact aa (ae wb) _));rintro e' wx ⟨rfl,hwx⟩;have qwx:Below wb.heap.size wb wx:=(by first | exact af qwy hwx | exact af (ae wb) hwx | exact af (aa (ae wb) _) hwx);have xwx:=xp.below qwx xp.lt)
     | (go_at_call 101;(with_reducible refine (fz _ b2 A2 n2 c2 D2 m2 e2 m.y 40 ?_ (by decide) (by decide) ?_ Y HY.out).mono ?_);(exact HQ2b.out.belw (by first | exact qwx | exact (ae wb).drew | exact aa (ae wb) _));(exact HTb.out.belw (by first | exact qwx | exact (ae wb).drew | exact aa (ae wb) _));rintro e' wy ⟨rfl,hwy⟩;have qwy:Below wb.heap.size wb wy:=(by first | exact af qwx hwy | exact af (ae wb) hwy | exact af (aa (ae wb) _) hwy);have xwy:=xp.below qwy xp.lt)
     | (go_at_call 27;(with_reducible refine (bP _ _ _ _ s6 (HBb.out.belw (by first | exact qwx | exact qwy)) (by rw [List.length_append];have:=HLS.out;omega)).mono ?_);rintro e' wz ⟨rfl,Bz,qz,oz⟩;have xz:=oz wa.heap.size 67 _ hbl (by decide) (by first | exact xwx | exact xwy)))
   all_goals
    have bz:Below w.heap.size w wz:=by
     first
      | exact (bwb.trans (qwy.mono bwb.size)).trans (qz.mono (Nat.le_succ _))
      | exact (bwb.trans (qwx.mono bwb.size)).trans (qz.mono (Nat.le_succ _))
    have HBz:Hid (Bu (w.heap.size+1) (w.heap.size+1) wz (h2 ++ (b.pts.take (i+1)).flatMap aH)):=Qh (by rw [HFS.out,← List.append_assoc];exact Bz);clear Bz HFS cp0 cp1 cp2 cp3 cp4 cp5 cp6;go_wp2_with fail;go_roundw
    case rel=>exact ⟨i+1,by go_num,by omega,HBz,bz⟩
    case measure=>simp [intOf];omega
  have hi1:((i:Int) < (n:Int))=False:=by simp;omega
  have hin:b.pts.take i=b.pts:=List.take_of_length_le (by rw [HLN.out];exact hge);rw [hin] at HB;have hf:=HF.out;rw [HLN.out] at hf;have HFL:=Qh hf;clear hf hin hfl;go_wp2_with fail;(with_reducible refine (bP _ _ _ _ [32,125] HB.out (by rw [List.length_append];have:=HFL.out;simp only [List.length_cons,List.length_nil];omega)).mono ?_);rintro e' w2 ⟨rfl,B2,q2,_⟩;have b2:=hb.trans (q2.mono (Nat.le_succ _));have HB2:=Qh B2;clear B2;go_wp2_with fail;(with_reducible refine (lC _ _ _ _ HB2.out).mono ?_);rintro e' w3 ⟨rfl,q3⟩;have b3:=b2.trans (q3.mono (Nat.le_succ _));have hTT:h2 ++ b.pts.flatMap aH ++ [32,125]=T:=HE.out.2.symm;rw [hTT];go_wp2;go_ret;exact ⟨rfl,b3⟩
theorem lD (w:World) (A:Option Addr) (n c:Nat) (B:Option Addr) (p d:Nat) (C:Option Addr) (q e:Nat) (nm:List UInt8) (l:List aA) (k:Nat) (h:SlS (dd k) 2 w A n c l) (i j:Nat) (b:aA) (m:aX) (hb:l[i]?=some b) (hm:b.pts[j]?=some m) (hlb:b.name.length≤1000) (hlm:m.name.length≤1000) (T:List UInt8) (hT:b.name ++ 46 :: m.name=T) :
 Calls Tryz.prog 61 #[.agg #[ah nm,.slice A n c,.slice B p d,.slice C q e],.int .i64 (i:Nat),.int .i64 (j:Nat)] w (ax w (ah T)):=by
 have hil:i < n:=by rw [← h.1];exact (List.getElem?_eq_some_iff.1 hb).1
 obtain ⟨g,o,b',e1,hg,hnc,hb',hB⟩:=h.at_ hil;rw [hb] at hb';injection hb' with hb';subst hb' e1;obtain ⟨A',n',c',c0,c1,hM,_⟩:=hB;have hjl:j < n':=by rw [← hM.1];exact (List.getElem?_eq_some_iff.1 hm).1
 obtain ⟨g',o',m',e1,hg',hnc',hm',hK⟩:=hM.at_ hjl;rw [hm] at hm';injection hm' with hm';subst hm' e1;have k0:=hK.1;have f1:((i:Int) < (n:Int)):=by omega
 have f2:((j:Int) < (n':Int)):=by omega
 have hsb:=ag b.name;have hsm:=ag m.name;obtain ⟨h1,eh1⟩:∃ t,b.name ++ [46]=t:=⟨_,rfl⟩;have ah1:=av (b.name) ([46]);rw [eh1] at ah1;have lh1:h1.length=b.name.length+1:=by rw [← eh1,List.length_append];try simp
 have kh1:(9223372036854775807 < b.name.length+1)=False:=eq_false (by omega);have zh1:=ag h1;obtain ⟨h2,eh2⟩:∃ t,h1 ++ m.name=t:=⟨_,rfl⟩;have ah2:=av (h1) (m.name);rw [eh2] at ah2;have lh2:h2.length=h1.length+m.name.length:=by rw [← eh2,List.length_append];try simp
 have kh2:(9223372036854775807 < h1.length+m.name.length)=False:=eq_false (by omega);have zh2:=ag h2;have hTT:h2=T:=by rw [← hT,← eh2,← eh1];simp
 subst hTT;have hgl:¬ g=w.heap.size:=by omega
 have hgl':¬ g'=w.heap.size:=by omega
 have hgl2:¬ g'=w.heap.size+1:=by omega
 have hnn:((i:Int)≤(n:Int)):=by omega
 clear hb hm hM hK h hT eh1 eh2 lh1 lh2;go_in;go_wp2_with fail;go_quiet (fail);go_wp2;go_ret;exact ⟨rfl,by first | exact ((ae w).alloc Qr _).alloc (by simp) _ | exact aa (((ae w).alloc Qr _).alloc (by simp) _) _⟩
theorem ib (w:World) (A:Option Addr) (n c:Nat) (B:Option Addr) (p d:Nat) (C:Option Addr) (q e:Nat) (nm:List UInt8) (l:List aA) (k:Nat) (h:SlS (dd k) 2 w A n c l) (i j:Nat) (b:aA) (m:aX) (hb:l[i]?=some b) (hm:b.pts[j]?=some m) (hlb:b.name.length≤1000) (hlm:m.name.length≤1000) (T:List UInt8) (hT:b.name ++ 46 :: m.name=T) :
 Calls Tryz.prog 67 #[.agg #[ah nm,.slice A n c,.slice B p d,.slice C q e],.int .i64 (i:Nat),.int .i64 (j:Nat)] w (ax w (ah T)):=by
 have hil:i < n:=by rw [← h.1];exact (List.getElem?_eq_some_iff.1 hb).1
 obtain ⟨g,o,b',e1,hg,hnc,hb',hB⟩:=h.at_ hil;rw [hb] at hb';injection hb' with hb';subst hb' e1;obtain ⟨A',n',c',c0,c1,hM,_⟩:=hB;have hjl:j < n':=by rw [← hM.1];exact (List.getElem?_eq_some_iff.1 hm).1
 obtain ⟨g',o',m',e1,hg',hnc',hm',hK⟩:=hM.at_ hjl;rw [hm] at hm';injection hm' with hm';subst hm' e1;have k0:=hK.1;have f1:((i:Int) < (n:Int)):=by omega
 have f2:((j:Int) < (n':Int)):=by omega
 have hsb:=ag b.name;have hsm:=ag m.name;obtain ⟨h1,eh1⟩:∃ t,b.name ++ [46]=t:=⟨_,rfl⟩;have ah1:=av (b.name) ([46]);rw [eh1] at ah1;have lh1:h1.length=b.name.length+1:=by rw [← eh1,List.length_append];try simp
 have kh1:(9223372036854775807 < b.name.length+1)=False:=eq_false (by omega);have zh1:=ag h1;obtain ⟨h2,eh2⟩:∃ t,h1 ++ m.name=t:=⟨_,rfl⟩;have ah2:=av (h1) (m.name);rw [eh2] at ah2;have lh2:h2.length=h1.length+m.name.length:=by rw [← eh2,List.length_append];try simp
 have kh2:(9223372036854775807 < h1.length+m.name.length)=False:=eq_false (by omega);have zh2:=ag h2;have hTT:h2=T:=by rw [← hT,← eh2,← eh1];simp
 subst hTT;have hgl:¬ g=w.heap.size:=by omega
 have hgl':¬ g'=w.heap.size:=by omega
 have hgl2:¬ g'=w.heap.size+1:=by omega
 have hnn:((i:Int)≤(n:Int)):=by omega
 clear hb hm hM hK h hT eh1 eh2 lh1 lh2;go_in;go_wp2_with fail;go_quiet (fail);go_wp2;go_ret;exact ⟨rfl,by first | exact (ae w).alloc Qr _ | exact aa ((ae w).alloc Qr _) _⟩
def cG (m:aX):Bool:=decide (60 < (aQ m.x.q).length) || decide (60 < (aQ m.y.q).length)
def eI (l:List aA):Bool:=l.any fun b=>b.pts.any cG
theorem ic {α:Type}{f:α→Bool}{l:List α}{i:Nat}{a:α}(ha:l[i]?=some a) (h:(l.take i).any f=false) (hf:f a=false):(l.take (i+1)).any f=false:=by
 rw [List.take_add_one,ha,List.any_append,h];simp [hf]
theorem me {α:Type}{f:α→Bool}{l:List α}{i:Nat}{a:α}(ha:l[i]?=some a) (hf:f a=true):l.any f=true :=
 List.any_eq_true.2 ⟨a,List.mem_of_getElem? ha,hf⟩
theorem ie {l:List aA}{i:Nat}{b:aA}(hb:l[i]?=some b) (h:eI (l.take i)=false) (hf:b.pts.any cG=false):eI (l.take (i+1))=false:=ic hb h hf
theorem er {l:List aA}{i j:Nat}{b:aA}{m:aX}(hb:l[i]?=some b) (hm:b.pts[j]?=some m) (h:cG m=true):eI l=true:=me hb (me hm h)
theorem sQ (w:World) (A:Option Addr) (n c:Nat) (B:Option Addr) (p d:Nat) (C:Option Addr) (q e:Nat) (nm:List UInt8) (l:List aA) (h:SlS (dd 40) 2 w A n c l) (htab:Tab w) (hn:n≤1000) (hps:∀ b∈l,b.pts.length≤1000) (v:Bool) (hv:eI l=v) :
 Calls Tryz.prog 63 #[.agg #[ah nm,.slice A n c,.slice B p d,.slice C q e]] w (ax w (.bool v)):=by
 have HV:=Qh hv;have HL:=Qh h.1;have HPS:=Qh hps;have hnc:=h.2.1;have H:=Qh h;have HTab:=Qh htab;clear htab;clear h hv hps;go_in;go_wp2_with fail;go_loopw [10] (fun iv wr=>∃ i:Nat,iv=.int .i64 (i:Nat)∧i≤n∧Hid (eI (l.take i)=false)∧Blk wr w.heap.size 36 #[ah nm,.slice A n c,.slice B p d,.slice C q e]∧Below w.heap.size w wr) (fun iv _=>n - (intOf iv).toNat)
 case atStart=>exact ⟨0,rfl,Nat.zero_le _,Qh rfl,aj _ _ _ (by simp),(ae w).alloc Qr _⟩
 case round =>
  obtain ⟨i,rfl,hi,HI,xL,hb⟩:=hrel;rename World=>wa;have hlL:w.heap.size < wa.heap.size:=xL.lt;have cL:=xL.cell 1;rcases Nat.lt_or_ge i n with hlt | hge
  ·have hi1:((i:Int) < (n:Int))=True:=by simp;omega
   obtain ⟨g,o,b,e1,hg,_,hbi,hB⟩:=(H.out.bd hb).at_ hlt;subst e1;obtain ⟨A',n',c',c0,c1,hM,hnm⟩:=hB;have hnc':=hM.2.1;have hn1:n'≤1000:=by rw [← hM.1];exact HPS.out b (List.mem_of_getElem? hbi)
   have HM:=Qh hM;have HBI:=Qh hbi;clear hM hbi;go_wp2_with fail;have xb:Blk (wa.alloc (.cells #[ah b.name,.slice A' n' c'] 62)) wa.heap.size 62 #[ah b.name,.slice A' n' c']:=aj _ _ _ rfl;have qb:Below wa.heap.size wa (wa.alloc (.cells #[ah b.name,.slice A' n' c'] 62)):=(ae wa).alloc Qr _;have xL1:=xL.below qb xL.lt;have hb1:=hb.trans (qb.mono hb.size);clear cL c0 c1;generalize (wa.alloc (.cells #[ah b.name,.slice A' n' c'] 62))=wx at xb qb xL1 hb1 ⊢;have cb:=xb.cell 1;go_wp2_with fail;clear cb;go_loopw [17] (fun jv w2=>∃ j:Nat,jv=.int .i64 (j:Nat)∧j≤n'∧Hid ((b.pts.take j).any cG=false)∧Below wx.heap.size wx w2) (fun jv _=>n' - (intOf jv).toNat)
   case atStart=>exact ⟨0,rfl,Nat.zero_le _,Qh rfl,ae wx⟩
   case round =>
    obtain ⟨j,rfl,hj,HJ,hb2⟩:=hrel;rename World=>wb;have xL2:=xL1.below hb2 xL1.lt;have hlL2:w.heap.size < wb.heap.size:=xL2.lt;have cL2:=xL2.cell 1;have bwb:=hb1.trans (hb2.mono hb1.size);rcases Nat.lt_or_ge j n' with hjl | hjg
    ·have hj1:((j:Int) < (n':Int))=True:=by simp;omega
     obtain ⟨g',o',m,e1,hg',_,hmj,hM⟩:=((HM.out.mk_ qb).mk_ hb2).at_ hjl;subst e1;have HMJ:=Qh hmj;obtain ⟨d0,⟨b1,A1,n1,c1,D1,m1,e1,d1,d2,d3,hQ1⟩,⟨b2,A2,n2,c2,D2,m2,e2,d4,d5,d6,hQ2⟩,hmn⟩:=hM;have d2:wb.cell? ⟨g',o'+j * 7+2,none⟩=some (.slice A1 n1 c1):=d2;have d3:wb.cell? ⟨g',o'+j * 7+3,none⟩=some (.slice D1 m1 e1):=d3;have d5:wb.cell? ⟨g',o'+j * 7+5,none⟩=some (.slice A2 n2 c2):=d5;have d6:wb.cell? ⟨g',o'+j * 7+6,none⟩=some (.slice D2 m2 e2):=d6;obtain ⟨X,hX⟩:∃ X,aQ m.x.q=X:=⟨_,rfl⟩;obtain ⟨Y,hY⟩:∃ Y,aQ m.y.q=Y:=⟨_,rfl⟩;have hsX:=ag X;have hsY:=ag Y;have HX:=Qh hX;have HY:=Qh hY;have HQ1:=Qh hQ1;have HQ2:=Qh hQ2;have hgb:g < wb.heap.size:=by have:=hb2.size;have:=qb.size;omega
     clear hX hY hQ1 hQ2 hmj;go_wp2_with fail;have xp:Blk (wb.alloc (.cells #[ah m.name,.bool b1,.slice A1 n1 c1,.slice D1 m1 e1,.bool b2,.slice A2 n2 c2,.slice D2 m2 e2] 67)) wb.heap.size 67 #[ah m.name,.bool b1,.slice A1 n1 c1,.slice D1 m1 e1,.bool b2,.slice A2 n2 c2,.slice D2 m2 e2]:=aj _ _ _ rfl;have qb:Below wb.heap.size wb (wb.alloc (.cells #[ah m.name,.bool b1,.slice A1 n1 c1,.slice D1 m1 e1,.bool b2,.slice A2 n2 c2,.slice D2 m2 e2] 67)):=(ae wb).alloc Qr _;have HTb:=Qh ((HTab.out.belw bwb).belw qb);have HQ1b:=Qh (HQ1.out.belw qb);have HQ2b:=Qh (HQ2.out.belw qb);have bwc:=bwb.trans (qb.mono bwb.size);have xL3:=xL2.below qb xL2.lt;have hb3:=af hb2 qb;have hwb:wb.heap.size < (wb.alloc (.cells #[ah m.name,.bool b1,.slice A1 n1 c1,.slice D1 m1 e1,.bool b2,.slice A2 n2 c2,.slice D2 m2 e2] 67)).heap.size:=xp.lt;clear HQ1 HQ2 d0 d1 d2 d3 d4 d5 d6 cL2;generalize (wb.alloc (.cells #[ah m.name,.bool b1,.slice A1 n1 c1,.slice D1 m1 e1,.bool b2,.slice A2 n2 c2,.slice D2 m2 e2] 67))=wc at xp qb HTb HQ1b HQ2b bwc hwb xL3 hb3 ⊢;(with_reducible refine (fz _ b1 A1 n1 c1 D1 m1 e1 m.x 40 HQ1b.out (by decide) (by decide) HTb.out X HX.out).mono ?_);rintro e' w3 ⟨rfl,hw3⟩;have xp3:=xp.below hw3 xp.lt;have xL3:=xL3.b hw3;have bw3:=bwc.trans (hw3.mono bwc.size);have hb3:=af hb3 hw3;by_cases hx6:60 < X.length
     ·have f6:((60:Int) < (X.length:Int))=True:=eq_true (by omega)
      have hm6:cG m=true:=by unfold cG;rw [HX.out,decide_eq_true hx6];rfl
      have hvt:v=true:=by rw [← HV.out];exact er HBI.out HMJ.out hm6
      subst hvt;go_wp2;go_ret;exact ⟨rfl,bw3⟩
     have f6:((60:Int) < (X.length:Int))=False:=eq_false (by omega);have cp4:=xp3.cell 4;have cp5:=xp3.cell 5;have cp6:=xp3.cell 6;go_wp2_with fail;(with_reducible refine (fz _ b2 A2 n2 c2 D2 m2 e2 m.y 40 (HQ2b.out.belw hw3) (by decide) (by decide) (HTb.out.belw hw3) Y HY.out).mono ?_);rintro e' w4 ⟨rfl,hw4⟩;have xL4:=xL3.below hw4 xL3.lt;have bw4:=bw3.trans (hw4.mono bw3.size);have hb4:=af hb3 hw4;clear cp4 cp5 cp6;by_cases hy6:60 < Y.length
     ·have g6:((60:Int) < (Y.length:Int))=True:=eq_true (by omega)
      have hm6:cG m=true:=by unfold cG;rw [HX.out,HY.out,decide_eq_true hy6,Bool.or_true]
      have hvt:v=true:=by rw [← HV.out];exact er HBI.out HMJ.out hm6
      subst hvt;go_wp2;go_ret;exact ⟨rfl,bw4⟩
     have g6:((60:Int) < (Y.length:Int))=False:=eq_false (by omega);have hm6:cG m=false:=by unfold cG;rw [HX.out,HY.out,decide_eq_false hx6,decide_eq_false hy6];rfl
     have HJ2:=Qh (ic HMJ.out HJ.out hm6);clear hm6;go_wp2_with fail;go_roundw
     case rel=>exact ⟨j+1,by go_num,by omega,HJ2,hb4⟩
     case measure=>simp [intOf];omega
    have hj1:((j:Int) < (n':Int))=False:=by simp;omega
    have hjn:b.pts.take j=b.pts:=List.take_of_length_le (by rw [HM.out.1];exact hjg);rw [hjn] at HJ;have HI2:=Qh (ie HBI.out HI.out HJ.out);clear hjn;go_wp2_with fail;go_roundw
    case rel=>exact ⟨i+1,by go_num,by omega,HI2,xL2,bwb⟩
    case measure=>simp [intOf];omega
  have hi1:((i:Int) < (n:Int))=False:=by simp;omega
  have hin:l.take i=l:=List.take_of_length_le (by rw [HL.out];exact hge);rw [hin] at HI;have hvf:v=false:=by rw [← HV.out];exact HI.out
  subst hvf;clear hin;go_wp2;go_ret;exact ⟨rfl,hb⟩
theorem sR (w:World) (A:Option Addr) (n c:Nat) (B:Option Addr) (p d:Nat) (C:Option Addr) (q e:Nat) (nm:List UInt8) (l:List aA) (h:SlS (dd 40) 2 w A n c l) (hn:n≤1000) (hps:∀ b∈l,b.pts.length≤1000) (v:Bool) (hv:eI l=v) :
 Calls Tryz.prog 68 #[.agg #[ah nm,.slice A n c,.slice B p d,.slice C q e]] w (ax w (.bool v)):=by
 have HV:=Qh hv;have HL:=Qh h.1;have HPS:=Qh hps;have hnc:=h.2.1;have H:=Qh h;clear h hv hps;go_in;go_wp2_with fail;go_loopw [3] (fun iv wr=>∃ i:Nat,iv=.int .i64 (i:Nat)∧i≤n∧Hid (eI (l.take i)=false)∧Blk wr w.heap.size 36 #[ah nm,.slice A n c,.slice B p d,.slice C q e]∧Below w.heap.size w wr) (fun iv _=>n - (intOf iv).toNat)
 case atStart=>exact ⟨0,rfl,Nat.zero_le _,Qh rfl,aj _ _ _ (by simp),(ae w).alloc Qr _⟩
 case round =>
  obtain ⟨i,rfl,hi,HI,xL,hb⟩:=hrel;rename World=>wa;have hlL:w.heap.size < wa.heap.size:=xL.lt;have cL:=xL.cell 1;rcases Nat.lt_or_ge i n with hlt | hge
  ·have hi1:((i:Int) < (n:Int))=True:=by simp;omega
   obtain ⟨g,o,b,e1,hg,_,hbi,hB⟩:=(H.out.bd hb).at_ hlt;subst e1;obtain ⟨A',n',c',c0,c1,hM,hnm⟩:=hB;have hnc':=hM.2.1;have hn1:n'≤1000:=by rw [← hM.1];exact HPS.out b (List.mem_of_getElem? hbi)
   have HM:=Qh hM;have HBI:=Qh hbi;clear hM hbi;go_wp2_with fail;clear cL;go_loopw [4] (fun jv w2=>∃ j:Nat,jv=.int .i64 (j:Nat)∧j≤n'∧Hid ((b.pts.take j).any cG=false)∧Below wa.heap.size wa w2) (fun jv _=>n' - (intOf jv).toNat)
   case atStart=>exact ⟨0,rfl,Nat.zero_le _,Qh rfl,ae wa⟩
   case round =>
    obtain ⟨j,rfl,hj,HJ,hb2⟩:=hrel;rename World=>wb;have xL2:=xL.below hb2 xL.lt;have hlL2:w.heap.size < wb.heap.size:=xL2.lt;have cL2:=xL2.cell 1;have bwb:=hb.trans (hb2.mono hb.size);have c0:=aw c0 hb2;have c1:=aw c1 hb2;rcases Nat.lt_or_ge j n' with hjl | hjg
    ·have hj1:((j:Int) < (n':Int))=True:=by simp;omega
     obtain ⟨g',o',m,e1,hg',_,hmj,hM⟩:=(HM.out.mk_ hb2).at_ hjl;subst e1;have HMJ:=Qh hmj;obtain ⟨d0,⟨b1,A1,n1,c1,D1,m1,e1,d1,d2,d3,hQ1⟩,⟨b2,A2,n2,c2,D2,m2,e2,d4,d5,d6,hQ2⟩,hmn⟩:=hM;have d2:wb.cell? ⟨g',o'+j * 7+2,none⟩=some (.slice A1 n1 c1):=d2;have d3:wb.cell? ⟨g',o'+j * 7+3,none⟩=some (.slice D1 m1 e1):=d3;have d5:wb.cell? ⟨g',o'+j * 7+5,none⟩=some (.slice A2 n2 c2):=d5;have d6:wb.cell? ⟨g',o'+j * 7+6,none⟩=some (.slice D2 m2 e2):=d6;obtain ⟨X,hX⟩:∃ X,aQ m.x.q=X:=⟨_,rfl⟩;obtain ⟨Y,hY⟩:∃ Y,aQ m.y.q=Y:=⟨_,rfl⟩;have hsX:=ag X;have hsY:=ag Y;have HX:=Qh hX;have HY:=Qh hY;have HQ1:=Qh hQ1;have HQ2:=Qh hQ2;have hgb:g < wb.heap.size:=by have:=hb2.size;omega
     clear hX hY hQ1 hQ2 hmj;go_wp2_with fail;have xp:Blk (wb.alloc (.cells #[ah m.name,.bool b1,.slice A1 n1 c1,.slice D1 m1 e1,.bool b2,.slice A2 n2 c2,.slice D2 m2 e2] 67)) wb.heap.size 67 #[ah m.name,.bool b1,.slice A1 n1 c1,.slice D1 m1 e1,.bool b2,.slice A2 n2 c2,.slice D2 m2 e2]:=aj _ _ _ rfl;have qb:Below wb.heap.size wb (wb.alloc (.cells #[ah m.name,.bool b1,.slice A1 n1 c1,.slice D1 m1 e1,.bool b2,.slice A2 n2 c2,.slice D2 m2 e2] 67)):=(ae wb).alloc Qr _;have HQ1b:=Qh (HQ1.out.belw qb);have HQ2b:=Qh (HQ2.out.belw qb);have bwc:=bwb.trans (qb.mono bwb.size);have xL3:=xL2.below qb xL2.lt;have hb3:=af hb2 qb;have hwb:wb.heap.size < (wb.alloc (.cells #[ah m.name,.bool b1,.slice A1 n1 c1,.slice D1 m1 e1,.bool b2,.slice A2 n2 c2,.slice D2 m2 e2] 67)).heap.size:=xp.lt;clear HQ1 HQ2 d0 d1 d2 d3 d4 d5 d6 cL2;generalize (wb.alloc (.cells #[ah m.name,.bool b1,.slice A1 n1 c1,.slice D1 m1 e1,.bool b2,.slice A2 n2 c2,.slice D2 m2 e2] 67))=wc at xp qb HQ1b HQ2b bwc hwb xL3 hb3 ⊢;(with_reducible refine (fA _ b1 A1 n1 c1 D1 m1 e1 m.x 40 HQ1b.out (by decide) (by decide) X HX.out).mono ?_);rintro e' w3 ⟨rfl,hw3⟩;have xp3:=xp.below hw3 xp.lt;have xL3:=xL3.b hw3;have bw3:=bwc.trans (hw3.mono bwc.size);have hb3:=af hb3 hw3;by_cases hx6:60 < X.length
     ·have f6:((60:Int) < (X.length:Int))=True:=eq_true (by omega)
      have hm6:cG m=true:=by unfold cG;rw [HX.out,decide_eq_true hx6];rfl
      have hvt:v=true:=by rw [← HV.out];exact er HBI.out HMJ.out hm6
      subst hvt;go_wp2;go_ret;exact ⟨rfl,bw3⟩
     have f6:((60:Int) < (X.length:Int))=False:=eq_false (by omega);have cp4:=xp3.cell 4;have cp5:=xp3.cell 5;have cp6:=xp3.cell 6;go_wp2_with fail;(with_reducible refine (fA _ b2 A2 n2 c2 D2 m2 e2 m.y 40 (HQ2b.out.belw hw3) (by decide) (by decide) Y HY.out).mono ?_);rintro e' w4 ⟨rfl,hw4⟩;have xL4:=xL3.below hw4 xL3.lt;have bw4:=bw3.trans (hw4.mono bw3.size);have hb4:=af hb3 hw4;clear cp4 cp5 cp6;by_cases hy6:60 < Y.length
     ·have g6:((60:Int) < (Y.length:Int))=True:=eq_true (by omega)
      have hm6:cG m=true:=by unfold cG;rw [HX.out,HY.out,decide_eq_true hy6,Bool.or_true]
      have hvt:v=true:=by rw [← HV.out];exact er HBI.out HMJ.out hm6
      subst hvt;go_wp2;go_ret;exact ⟨rfl,bw4⟩
     have g6:((60:Int) < (Y.length:Int))=False:=eq_false (by omega);have hm6:cG m=false:=by unfold cG;rw [HX.out,HY.out,decide_eq_false hx6,decide_eq_false hy6];rfl
     have HJ2:=Qh (ic HMJ.out HJ.out hm6);clear hm6;go_wp2_with fail;go_roundw
     case rel=>exact ⟨j+1,by go_num,by omega,HJ2,hb4⟩
     case measure=>simp [intOf];omega
    have hj1:((j:Int) < (n':Int))=False:=by simp;omega
    have hjn:b.pts.take j=b.pts:=List.take_of_length_le (by rw [HM.out.1];exact hjg);rw [hjn] at HJ;have HI2:=Qh (ie HBI.out HI.out HJ.out);clear hjn;go_wp2_with fail;go_roundw
    case rel=>exact ⟨i+1,by go_num,by omega,HI2,xL2,bwb⟩
    case measure=>simp [intOf];omega
  have hi1:((i:Int) < (n:Int))=False:=by simp;omega
  have hin:l.take i=l:=List.take_of_length_le (by rw [HL.out];exact hge);rw [hin] at HI;have hvf:v=false:=by rw [← HV.out];exact HI.out
  subst hvf;clear hin;go_wp2;go_ret;exact ⟨rfl,hb⟩
theorem ck (w:World) (i:Int) (n:Nat) (v:Bool) (hv:inI i n=v):Calls Tryz.prog 114 #[.int .i64 i,.int .i64 (n:Nat)] w (fun e w'=>e=.returned (.bool v)∧w'=w):=by
 subst hv;by_cases h1:0≤i
 ·by_cases h2:i < (n:Int)
  ·have e:inI i n=true:=by unfold inI;simp [h1,h2]
   rw [e];have f1:(0≤i)=True:=eq_true h1;have f2:(i < (n:Int))=True:=eq_true h2;go_in;go_wp2;go_ret;exact ⟨rfl,rfl⟩
  have e:inI i n=false:=by unfold inI;simp [h2]
  rw [e];have f1:(0≤i)=True:=eq_true h1;have f2:(i < (n:Int))=False:=eq_false h2;go_in;go_wp2;go_ret;exact ⟨rfl,rfl⟩
 have e:inI i n=false:=by unfold inI;simp [h1]
 rw [e];have f1:(0≤i)=False:=eq_false h1;go_in;go_wp2;go_ret;exact ⟨rfl,rfl⟩
theorem nC (w:World) (i:Int) (n:Nat) (v:Bool) (hv:inI i n=v):Calls Tryz.prog 114 #[.int .i64 i,.int .i64 (n:Nat)] w (ax w (.bool v)):=(ck w i n v hv).mono fun _ _ ⟨h1,h2⟩=>⟨h1,h2 ▸ ae _⟩
theorem pE (w:World) (A:Option Addr) (n c:Nat) (l:List aA) (k:Nat) (h:SlS (dd k) 2 w A n c l) (hk:k≤300000000) (hn:n≤1000) (x:Int) (hx:aU aK [] l=x):Calls Tryz.prog 76 #[.slice A n c] w (ax w (cS x)):=by
 have hnc:=h.2.1;have HX:=Qh (bI hx);clear hx;go_in;go_wp2_with fail;go_loopw [13] (fun iv wr=>∃ i:Nat,iv=.int .i64 (i:Nat)∧i≤n∧Hid (aU aK (l.take i) (l.drop i)=x)∧Below w.heap.size w wr) (fun iv _=>n - (intOf iv).toNat)
 case atStart=>exact ⟨0,rfl,Nat.zero_le _,HX,ae w⟩
 case round =>
  clear HX;obtain ⟨i,rfl,hi,HX,hb⟩:=hrel;rename World=>wa;rcases Nat.lt_or_ge i n with hlt | hge
  ·have hi1:((i:Int) < (n:Int))=True:=by simp;omega
   obtain ⟨g,o,b,e,hg,_,hbi,hB⟩:=(h.bd hb).at_ hlt;subst e;have hstep:=bT HX.out hbi;obtain ⟨A',n',c',c0,c1,hM,hnm⟩:=hB;have HR:=Qh (h.bd hb);have HM:=Qh hM;have HS:=Qh hstep;have HN:=Qh hnm;have HB:=Qh hbi;obtain ⟨v,hv⟩:∃ v,aW b.name=v:=⟨_,rfl⟩;have HV:=Qh hv;clear h hM hstep hnm hbi hv HX;go_wp2_with fail;(with_reducible refine (g5 _ b.name HN.out v HV.out).mono ?_);rintro e w1 ⟨rfl,hb1⟩;have q1:=hb1.q1;have x1:Blk w1 wa.heap.size 62 #[ah b.name,.slice A' n' c']:=(aj _ _ _ (by simp)).below hb1 (by simp);have bw1:=hb.trans (q1.mono hb.size);clear hb1;cases v
   ·have h5:x=5:=by
     have e5:aK (l.take i) b=5:=if_pos HV.out;rcases HS.out with ⟨z,_⟩ | ⟨_,z⟩
     ·rw [e5] at z;cases z
     rw [← z,e5]
    go_wp2;go_ret;exact ⟨by rw [h5];rfl,bw1⟩
   obtain ⟨cB0,cB1⟩:=x1.c2;go_wp2_with fail;clear cB0 cB1;go_loopw [27] (fun jv w2=>∃ j:Nat,jv=.int .i64 (j:Nat)∧j≤i∧Hid (twN ((l.take j).map aA.name) b.name=false)∧Below w1.heap.size w1 w2) (fun jv _=>i - (intOf jv).toNat)
   case atStart=>exact ⟨0,rfl,Nat.zero_le _,Qh rfl,ae w1⟩
   case round =>
    obtain ⟨j,rfl,hj,HT,hb2⟩:=hrel;rename World=>w2;have x2:=x1.below hb2 x1.lt;have bw2:=bw1.trans (hb2.mono bw1.size);obtain ⟨cB0,cB1⟩:=x2.c2;have hlw:wa.heap.size < w2.heap.size:=x2.lt;rcases Nat.lt_or_ge j i with hjl | hjg
    ·have hj1:((j:Int) < (i:Int))=True:=by simp;omega
     have hjn:j < n:=by omega
     obtain ⟨a,ha,hA⟩:=((HR.out.bd q1).bd hb2).rowAt hjn;obtain ⟨A2,n2,c2,d0,d1,hM2,hn2⟩:=hA;have hgw:g < w2.heap.size:=by have:=hb2.size;have:=q1.size;omega
     clear hM2 hn2;have hne1:¬ wa.heap.size=w2.heap.size:=by omega
     have hne2:¬ g=w2.heap.size:=by omega
     have htl:=be b.name;by_cases heq:a.name=b.name
     ·have h6:x=6:=by
       have e6:aK (l.take i) b=6:=by
        unfold aK;rw [HV.out,if_neg (by decide),if_pos (cZ ha hjl heq)]
       rcases HS.out with ⟨z,_⟩ | ⟨_,z⟩
       ·rw [e6] at z;cases z
       rw [← z,e6]
      rw [heq] at d0;have hee:(b.name == b.name)=true:=by simp
      clear heq ha;go_wp2;go_ret;exact ⟨by rw [h6];rfl,bw2.alloc bw2.size _⟩
     have hta:=be a.name;have HT2:=Qh (cF ha HT.out heq);have hee:(a.name == b.name)=false:=beq_eq_false_iff_ne.2 heq;clear heq ha HT;go_wp2_with fail;go_roundw
     case rel=>exact ⟨j+1,by go_num,by omega,HT2,hb2.alloc hb2.size _⟩
     case measure=>simp [intOf];omega
    have hj1:((j:Int) < (i:Int))=False:=by simp;omega
    obtain rfl:j=i:=by omega
    clear cB0 cB1 c0 c1;have hlen':b.pts.length=n':=HM.out.1;by_cases h8:8 < n'
    ·have f8:((8:Int) < (n':Int))=True:=eq_true (by omega)
     have h4:x=4:=by
      have e4:aK (l.take j) b=4:=by
       unfold aK;rw [HV.out,if_neg (by decide),HT.out,if_neg (by decide),if_pos (by rw [hlen'];exact h8)]
      rcases HS.out with ⟨z,_⟩ | ⟨_,z⟩
      ·rw [e4] at z;cases z
      rw [← z,e4]
     obtain ⟨cB0,cB1⟩:=x2.c2;clear hlen';go_wp2;go_ret;exact ⟨by rw [h4];rfl,bw2⟩
    have f8:((8:Int) < (n':Int))=False:=eq_false (by omega);obtain ⟨y,hy⟩:∃ y,aU aR [] b.pts=y:=⟨_,rfl⟩
    have HE:Hid (aK (l.take j) b=y):=Qh (by
     unfold aK;rw [HV.out,if_neg (by decide),HT.out,if_neg (by decide),if_neg (by rw [hlen'];exact h8)]
     exact hy)
    have HP:=Qh (bI hy);have HM2:=Qh ((HM.out.mk_ q1).mk_ hb2);obtain ⟨cB0,cB1⟩:=x2.c2;clear hy hlen' HV HT HM;go_wp2_with fail;clear cB0 cB1;go_loopw [46] (fun pv wr=>∃ p:Nat,pv=.int .i64 (p:Nat)∧p≤n'∧Hid (aU aR (b.pts.take p) (b.pts.drop p)=y)∧Below w2.heap.size w2 wr) (fun pv _=>n' - (intOf pv).toNat)
    case atStart=>exact ⟨0,rfl,Nat.zero_le _,HP,ae w2⟩
    case round =>
     clear HP;obtain ⟨p,rfl,hp,HP,hb3⟩:=hrel;rename World=>w3;have x3:=x2.below hb3 x2.lt;have bw3:=bw2.trans (hb3.mono bw2.size);have hlw3:wa.heap.size < w3.heap.size:=x3.lt;rcases Nat.lt_or_ge p n' with hpl | hpg
     ·have hp1:((p:Int) < (n':Int))=True:=by simp;omega
      obtain ⟨g',o',m,e,hg',_,hmp,hMk⟩:=(HM2.out.mk_ hb3).at_ hpl;subst e;have hst:=bT HP.out hmp;obtain ⟨d0,⟨b1,A1,n1,c1,D1,m1,e1,d1,d2,d3,hQ1⟩,⟨b2,A2,n2,c2,D2,m2,e2,d4,d5,d6,hQ2⟩,hmn⟩:=hMk;have d2:w3.cell? ⟨g',o'+p * 7+2,none⟩=some (.slice A1 n1 c1):=d2;have d3:w3.cell? ⟨g',o'+p * 7+3,none⟩=some (.slice D1 m1 e1):=d3;have d5:w3.cell? ⟨g',o'+p * 7+5,none⟩=some (.slice A2 n2 c2):=d5;have d6:w3.cell? ⟨g',o'+p * 7+6,none⟩=some (.slice D2 m2 e2):=d6;obtain ⟨cC0,cC1⟩:=x3.c2;have HST:=Qh hst;have HQ1:=Qh hQ1;have HQ2:=Qh hQ2;have HMN:=Qh hmn;have HMP:=Qh hmp;have HM3:=Qh (HM2.out.mk_ hb3);obtain ⟨v,hv⟩:∃ v,aW m.name=v:=⟨_,rfl⟩;have HV:=Qh hv;clear hst hQ1 hQ2 hmn hmp hv HM2 HP;go_wp2_with fail;(with_reducible refine (g5 _ m.name HMN.out v HV.out).mono ?_);rintro e w4 ⟨rfl,hb4⟩;have q4:=hb4.q1;have x4:Blk w4 w3.heap.size 67 #[ah m.name,.bool b1,.slice A1 n1 c1,.slice D1 m1 e1,.bool b2,.slice A2 n2 c2,.slice D2 m2 e2]:=(aj _ _ _ (by simp)).below hb4 (by simp);have x3b:=x3.below q4 x3.lt;have bw4:=bw3.trans (q4.mono bw3.size);clear hb4 d0 d1 d2 d3 d4 d5 d6 cC0 cC1
      have hxy:∀ z:Int,z≠0→aR (b.pts.take p) m=z→x=z:=fun z hz hm=>by
       have hy:y=z:=by
        rcases HST.out with ⟨u,_⟩ | ⟨_,u⟩
        ·exact absurd (hm.symm.trans u) hz
        exact u.symm.trans hm
       rcases HS.out with ⟨u,_⟩ | ⟨_,u⟩
       ·exact absurd (hy.symm.trans (HE.out.symm.trans u)) hz
       rw [← u,HE.out,hy]
      cases v
      ·have h5:x=5:=hxy 5 (by decide) (if_pos HV.out)
       clear hxy;go_wp2;go_ret;exact ⟨by rw [h5];rfl,bw4⟩
      have HXY:=Qh hxy;clear hxy;obtain ⟨cC0,cC1⟩:=x3b.c2;go_wp2_with fail;clear cC0 cC1;go_loopw [61] (fun jv wr=>∃ r:Nat,jv=.int .i64 (r:Nat)∧r≤p∧Hid (twN ((b.pts.take r).map aX.name) m.name=false)∧Below w4.heap.size w4 wr) (fun jv _=>p - (intOf jv).toNat)
      case atStart=>exact ⟨0,rfl,Nat.zero_le _,Qh rfl,ae w4⟩
      case round =>
       obtain ⟨r,rfl,hr,HT,hb5⟩:=hrel;rename World=>w5;have x5:=x4.below hb5 x4.lt;have bw5:=bw4.trans (hb5.mono bw4.size);have cD0:=x5.cell 0;have hlw5:w3.heap.size < w5.heap.size:=x5.lt;rcases Nat.lt_or_ge r p with hrl | hrg
       ·have hr1:((r:Int) < (p:Int))=True:=by simp;omega
        have hrn:r < n':=by omega
        obtain ⟨a,ha,hA⟩:=((HM3.out.mk_ q4).mk_ hb5).rowAt hrn;obtain ⟨d0,⟨b3,A3,n3,c3,D3,m3,e3,d1,d2,d3,hQ3⟩,⟨b4,A4,n4,c4,D4,m4,e4,d4,d5,d6,hQ4⟩,hmn3⟩:=hA;have hgw:g' < w5.heap.size:=by have:=hb5.size;have:=q4.size;omega
        have d2:w5.cell? ⟨g',o'+r * 7+2,none⟩=some (.slice A3 n3 c3):=d2;have d3:w5.cell? ⟨g',o'+r * 7+3,none⟩=some (.slice D3 m3 e3):=d3;have d5:w5.cell? ⟨g',o'+r * 7+5,none⟩=some (.slice A4 n4 c4):=d5;have d6:w5.cell? ⟨g',o'+r * 7+6,none⟩=some (.slice D4 m4 e4):=d6;clear hQ3 hQ4 hmn3;have hne1:¬ w3.heap.size=w5.heap.size:=by omega
        have hne2:¬ g'=w5.heap.size:=by omega
        have htl:=be m.name;by_cases heq:a.name=m.name
        ·have h6:x=6:=HXY.out 6 (by decide) (by
          unfold aR
          rw [HV.out,if_neg (by decide),if_pos (cZ ha hrl heq)])
         rw [heq] at d0;have hee:(m.name == m.name)=true:=by simp
         clear heq ha;go_wp2;go_ret;exact ⟨by rw [h6];rfl,bw5.alloc bw5.size _⟩
        have hta:=be a.name;have HT2:=Qh (cF ha HT.out heq);have hee:(a.name == m.name)=false:=beq_eq_false_iff_ne.2 heq;clear heq ha HT;go_wp2_with fail;go_roundw
        case rel=>exact ⟨r+1,by go_num,by omega,HT2,hb5.alloc hb5.size _⟩
        case measure=>simp [intOf];omega
       have hr1:((r:Int) < (p:Int))=False:=by simp;omega
       obtain rfl:r=p:=by omega
       have cD1:=x5.cell 1;have cD2:=x5.cell 2;have cD3:=x5.cell 3;obtain ⟨v1,hv1⟩:∃ v,m.x.ok=v:=⟨_,rfl⟩;obtain ⟨v2,hv2⟩:∃ v,m.y.ok=v:=⟨_,rfl⟩;have HV1:=Qh hv1;have HV2:=Qh hv2;clear hv1 hv2;go_wp2_with fail;(with_reducible refine (dZ _ b1 A1 n1 c1 D1 m1 e1 m.x k v1 ((HQ1.out.belw q4).belw hb5) hk HV1.out).mono ?_);rintro e w6 ⟨rfl,hb6⟩;have x6:=x5.below hb6 x5.lt;have bw6:=bw5.trans (hb6.mono bw5.size);clear cD0 cD1 cD2 cD3
       have hE3:v1=false∨v2=false→aR (b.pts.take r) m=3:=fun hh=>by
        unfold aR;rw [HV.out,if_neg (by decide),HT.out,if_neg (by decide),HV1.out,HV2.out];rcases hh with e | e
        ·rw [e,if_pos rfl]
        rw [e];cases v1
        ·rfl
        rfl
       have HE3:=Qh hE3;clear hE3;cases v1
       ·have h3:x=3:=HXY.out 3 (by decide) (HE3.out (.inl rfl))
        go_wp2;go_ret;exact ⟨by rw [h3];rfl,bw6⟩
       have cE4:=x6.cell 4;have cE5:=x6.cell 5;have cE6:=x6.cell 6;have hlw6:w3.heap.size < w6.heap.size:=x6.lt;go_wp2_with fail;(with_reducible refine (dZ _ b2 A2 n2 c2 D2 m2 e2 m.y k v2 (((HQ2.out.belw q4).belw hb5).belw hb6) hk HV2.out).mono ?_);rintro e w7 ⟨rfl,hb7⟩;have bw7:=bw6.trans (hb7.mono bw6.size);have hb37:Below w2.heap.size w2 w7:=(((hb3.trans (q4.mono hb3.size)).trans (hb5.mono (Nat.le_trans hb3.size q4.size))).trans (hb6.mono (Nat.le_trans (Nat.le_trans hb3.size q4.size) hb5.size))).trans (hb7.mono (Nat.le_trans (Nat.le_trans (Nat.le_trans hb3.size q4.size) hb5.size) hb6.size));clear cE4 cE5 cE6;cases v2
       ·have h3:x=3:=HXY.out 3 (by decide) (HE3.out (.inr rfl))
        go_wp2;go_ret;exact ⟨by rw [h3];rfl,bw7⟩
       ·have h0:aR (b.pts.take r) m=0:=by
         unfold aR;rw [HV.out,if_neg (by decide),HT.out,if_neg (by decide),HV1.out,HV2.out];rfl
        have HP2:Hid (aU aR (b.pts.take (r+1)) (b.pts.drop (r+1))=y):=Qh (by
         rcases HST.out with ⟨_,u⟩ | ⟨u,_⟩
         ·exact u
         exact absurd h0 u)
        clear h0;go_wp2_with fail;go_roundw
        case rel=>exact ⟨r+1,by go_num,by omega,HP2,hb37⟩
        case measure=>simp [intOf];omega
     have hp1:((p:Int) < (n':Int))=False:=by simp;omega
     have hy0:y=0:=cE HP.out (by rw [HM2.out.1];exact hpg)
     have HX2:Hid (aU aK (l.take (j+1)) (l.drop (j+1))=x):=Qh (by
      rcases HS.out with ⟨_,u⟩ | ⟨u,_⟩
      ·exact u
      exact absurd (HE.out.trans hy0) u)
     clear hy0;go_wp2_with fail;go_roundw
     case rel=>exact ⟨j+1,by go_num,by omega,HX2,bw3⟩
     case measure=>simp [intOf];omega
  have hi1:((i:Int) < (n:Int))=False:=by simp;omega
  have hx0:x=0:=cE HX.out (by rw [h.1];exact hge);go_wp2;go_ret;exact ⟨by rw [hx0];rfl,hb⟩
end Go.Proofs.YtfilnhompchciaaGreatDoor
