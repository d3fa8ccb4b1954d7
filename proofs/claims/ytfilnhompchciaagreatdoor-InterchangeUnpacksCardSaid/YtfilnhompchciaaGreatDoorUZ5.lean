/- Part UZ5: lemmas and walks that the claim rests on. No claim is made here. -/
import Derived.Test.YtfilnhompchciaaGreatDoorUZ4
set_option linter.unusedVariables false
set_option maxHeartbeats 8000000
set_option maxRecDepth 100000
/- Packages of linkages: the package's text. -/
namespace Go.Proofs.YtfilnhompchciaaGreatDoor
open Go Go.RowKit Bn
attribute [local go_sem ↓] Go.wp_at_zero Go.wp_at_succ
def eH(n:Nat):List UInt8:=[108,105,110,107,119,111,114,107,32,49,32]++Lib.itoa n++[10]
def oL(t:List UInt8):List UInt8:=Lib.itoa t.length++[32]++jV (gI t)++[10]++t
def pkL(L:am):List UInt8:=oL (bV L)
def gJ(Ls:List am):List UInt8:=eH Ls.length++Ls.flatMap pkL
def ef:List am->Int
  |[]=>0
  |L::r=>if aI L=0 then ef r else aI L
def fA(Ls:List am):Int:=if 16<Ls.length then 4 else if ef Ls≠0 then ef Ls else if 65536<(gJ Ls).length then 4 else 0
def ki(Ls:List am):List UInt8:=if fA Ls=0 then gJ Ls else []
theorem mU:∀(a b:List am),ef (a++b)=if ef a=0 then ef b else ef a
 |[],b=>by simp[ef]
 |L::r,b=>by
  rw[Hm,ef,ef,mU r b];by_cases h:aI L=0<;>simp[h]
theorem zt(L:am):ef [L]=aI L:=by
 unfold ef;by_cases h:aI L=0
 ·rw[kZ h,h];rfl
 rw[kl h]
theorem oM{Ls:List am}{i:Nat}{L:am}(h:Ls[i]?=some L)(a:ef (Ls.take i)=0):ef (Ls.take (i+1))=aI L:=by
 rw[FV,h,mU,kZ a];exact zt L
theorem rO{Ls:List am}{i:Nat}{L:am}(h:Ls[i]?=some L)(c:ef (Ls.take i)=0)(a:aI L≠0):ef Ls=aI L:=by
 have b:=oM h c
 conv=>lhs;rw[<-GX (i+1) Ls]
 rw[mU,b,kl a]
theorem mV{L:am}(h:aI L=0):(bV L).length<=65536:=by
 unfold aI at h;split at h
 ·rename_i a;exact absurd h a
 split at h
 ·cases h
 rename_i a;exact Nat.le_of_not_lt fun h=>a (.inr h)
theorem kN{n k:Nat}(h:n<4294967296):(Lib.itoa (n:Int)).length<=11:=iu (z:=(n:Int)) (k:=1) (K:=1) (by simpa using h) (Nat.le_refl 1) (by decide)
theorem wA{t:List UInt8}(h:t.length<=65536):(oL t).length<=65600:=by
 have a:=kN (n:=t.length) (k:=0) (by omega);have b:=rK (gI t);unfold oL;simp only[kc,oP,Gm];omega
theorem rP{Ls:List am}(h:16<Ls.length):fA Ls=4/\ki Ls=[]:=by
 have a:fA Ls=4:=kZ h;exact⟨a,kl (by rw[a];decide)⟩
theorem rQ{Ls:List am}(h:¬16<Ls.length)(b:ef Ls≠0):fA Ls=ef Ls/\ki Ls=[]:=by
 have a:fA Ls=ef Ls:=by unfold fA;rw[kl h,kZ b]
 exact⟨a,kl (by rw[a];exact b)⟩
theorem ti{Ls:List am}(h:¬16<Ls.length)(c:ef Ls=0)(b:65536<(gJ Ls).length):fA Ls=4/\ki Ls=[]:=by
 have a:fA Ls=4:=by unfold fA;rw[kl h,kl (by simpa using c),kZ b]
 exact⟨a,kl (by rw[a];decide)⟩
theorem rR{Ls:List am}(h:¬16<Ls.length)(c:ef Ls=0)(b:¬65536<(gJ Ls).length):fA Ls=0/\ki Ls=gJ Ls:=by
 have a:fA Ls=0:=by unfold fA;rw[kl h,kl (by simpa using c),kl b]
 exact⟨a,kZ a⟩
def gK:List UInt8:=[48,49,50,51,52,53,54,55,56,57,97,98,99,100,101,102]
theorem BU{l cs:List UInt8}(h:∀c∈l,cs.contains c=true):Lib.trimS l cs=[]:=by
 unfold Lib.trimS Lib.trimLeftS Lib.trimRightS;rw[cK,GH,cK.2 (by rw[GH];exact zX.2 h)];rfl
theorem zu:∀k u,u<10^(k+1)->Lib.nDigits u<=k+1
 |0,u,h=>by rw[Lib.nDigits_small (by omega)];omega
 |k+1,u,h=>by
  by_cases h1:u<10
  ·rw[Lib.nDigits_small h1];omega
  rw[Lib.nDigits_big h1];have:=zu k (u/10) (by rw[Nat.pow_succ]at h;omega);omega
theorem tl{n:Nat}{c:UInt8}(a:aU c=false):c ∉ Lib.itoa (n:Int):=by
 intro h;rw[GB]at h;rw[zX.1 (ud n).1 c h]at a;cases a
theorem pR(n:Nat):(Lib.itoa (n:Int)).all aU=true/\ap (Lib.itoa (n:Int))=n:=by
 rw[GB];exact ud n
theorem uy(n:Nat):Lib.itoa (n:Int)≠[]:=by
 rw[GB];intro h;have a:(Lib.decDigits n).length=0:=by rw[h];rfl
 rw[GQ]at a;have:=Lib.nDigits_pos n;omega
def tm(m h:Nat):List UInt8:=Lib.itoa (m:Int)++[32]++jV h
theorem zv(t:List UInt8):oL t=tm t.length (gI t)++10::t:=by unfold oL tm;simp
def jG(n:Nat):List UInt8:=[108,105,110,107,119,111,114,107,32,49,32]++Lib.itoa (n:Int)
theorem lp(n:Nat)(r:List UInt8):eH n++r=jG n++10::r:=by unfold eH jG;simp
theorem mW(n:Nat):(10:UInt8) ∉ jG n:=by
 unfold jG;intro a;rcases Gu.1 a with a|a
 ·revert a;decide
 exact tl (by decide) a
def Mx(w:World):Prop:=∃m,w.cell? ⟨0,0,none⟩=some (.int .i64 m)
theorem Mx.belw{w b:World}(h:Mx w)(hb:Below w.heap.size w b):Mx b:=by
 obtain⟨m,a⟩:=h;exact⟨m,(hb.cell (p:=⟨0,0,none⟩) (Ga w _ a)).trans a⟩
theorem gi(w:World)(s:List UInt8)(c:UInt8)(a b:List UInt8)(f:Bool)(d:Mx w)(j:s.length<=65536)(h:Lib.cut s [c]=(a,b,f)):Calls Tryz.prog 49 #[ae s,.string ⟨#[c]⟩] w (av w (.tuple #[ae a,ae b,.bool f])):=by
 obtain⟨m,d⟩:=d;refine(Tryz.strings_Cut ⟨s.toArray⟩ ⟨#[c]⟩ m w (by show s.length<_;omega) d).mono fun e i ⟨g,n,hw⟩=>⟨?_,hw ▸ af (aa _) n⟩
 rw[g];show Ending.returned (.tuple #[ae (Lib.cut s [c]).1,ae (Lib.cut s [c]).2.1,.bool (Lib.cut s [c]).2.2])=_;rw[h]
theorem DL:cd 2=.iface 49 (.int .i64 2):=kl (by decide)
theorem DM:cd 4=.iface 49 (.int .i64 4):=kl (by decide)
theorem pS(w:World)(n:Nat)(o:n<=99999)(I:List UInt8)(f:Lib.itoa (n:Int)=I)(a:Tab w):Calls Tryz.prog 50 #[ae I] w (av w (.tuple #[.int .i64 (n:Nat),.bool true])):=by
 have hd:=pR n;have g:=uy n;have j:=kN (n:=n) (k:=0) (by omega)
 have b:(Lib.itoa (n:Int)).length<=9:=by
  rw[GB,GQ];have:=zu 4 n (by omega);omega
 rw[f]at hd g b;have d:=Qh (And.intro hd (And.intro g b));have m:=Qh f;have c:=Qh a;have p:((0:Int)<=(n:Int))=True:=xr (by omega);have f1:((n:Int)<=99999)=True:=xr (by omega);clear hd g j b f a;go_in;go_wp2_with fail;refine(sQ w I n d.out.2.2 d.out.2.1 d.out.1.1 d.out.1.2).mono ?_;rintro l i⟨rfl,q1⟩;go_wp2_with fail;refine(mz i (n:Int) (by omega) (by omega) (c.out.belw q1)).mono ?_;rintro l q⟨rfl,h⟩;rw[m.out];have q2:=ag q1 h;go_wp2_with fail;go_ret2;exact⟨rfl,q2⟩
theorem BV(w:World)(t x:List UInt8)(b:t.length<=1000000)(a:Lib.trimS t gK=x):Calls Tryz.prog 91 #[ae t,.string ⟨#[48,49,50,51,52,53,54,55,56,57,97,98,99,100,101,102]⟩] w (av w (ae x)):=by
 subst a;exact Any.strings_Trim_laid Tryz.lays160 (by kernel_rfl) ⟨t.toArray⟩ ⟨#[48,49,50,51,52,53,54,55,56,57,97,98,99,100,101,102]⟩ w (by show t.length<=_;omega) (by decide) (ascii_of_all (by decide))
theorem zw(w:World)(P S I:List UInt8)(h:S=P++I):Calls Tryz.prog 88 #[ae S,ae P] w (av w (.tuple #[ae I,.bool true])):=by
 have a:Lib.hasPrefix S P=true:=by unfold Lib.hasPrefix;rw[Ic,h];exact List.prefix_append _ _
 have c:Lib.trimPrefix S P=I:=by unfold Lib.trimPrefix;rw[a,kZ rfl,h];simp
 refine(Tryz.strings_CutPrefix ⟨S.toArray⟩ ⟨P.toArray⟩ w).mono fun e d ⟨b,hw⟩=>⟨?_,hw ▸ aa _⟩
 rw[b];show Ending.returned (.tuple #[ae (Lib.trimPrefix S P),.bool (Lib.hasPrefix S P)])=_;rw[a,c]
theorem wC(w:World)(n:Nat)(y:n<=16)(R:List UInt8)(S:List UInt8)(l:eH n++R=S)(r:S.length<=65536)(a:Tab w)(c:Mx w):Calls Tryz.prog 48 #[ae S] w (av w (.tuple #[.int .i64 (n:Nat),ae R,.nilIface])):=by
 obtain⟨F,f⟩:=Z9 (jG n);have m:Lib.cut S [10]=(F,R,true):=by rw[<-l,lp,<-f];exact fO (mW n)
 obtain⟨I,g⟩:=Z9 (Lib.itoa (n:Int));have b:F=[108,105,110,107,119,111,114,107,32,49,32]++I:=by rw[<-f,<-g];rfl
 have x:=ah S;have f1:((65536:Int)<(S.length:Int))=False:=oK (by omega);have f2:((16:Int)<(n:Int))=False:=oK (by omega);have q:=Qh m;have h:=Qh b;have t:=Qh g;have d:=Qh a;have p:=Qh c;clear m b f g l a c;go_in;go_wp2_with fail;refine(gi w S 10 F R true p.out r q.out).mono ?_;rintro k o⟨rfl,q1⟩;go_wp2_with fail;refine(zw o [108,105,110,107,119,111,114,107,32,49,32] F I h.out).mono ?_;rintro k s⟨rfl,i⟩;have q2:=ag q1 i;go_wp2_with fail;refine(pS s n (by omega) I t.out (d.out.belw q2)).mono ?_;rintro k u⟨rfl,j⟩;have q3:=ag q2 j;go_wp2_with fail;refine zr1 (.tuple #[.int .i64 (n:Nat),ae R,.nilIface]) ?_;exact⟨rfl,q3⟩
def isD(D:List UInt8):Prop:=D≠[]/\D.all aU=true
def sg(m:Bool)(D:List UInt8):List UInt8:=if m then 45::D else D
def sgI(m:Bool)(n:Int):Int:=if m then -n else n
inductive BX (s:List UInt8):Prop
  |whole (m:Bool) (D:List UInt8) (hD:isD D) (hs:s=sg m D)
  |quo (m:Bool) (D E:List UInt8) (hD:isD D) (hE:isD E) (hs:s=sg m (D++47::E))
  |dot (m:Bool) (D E:List UInt8) (hD:isD D) (hE:isD E) (hs:s=sg m (D++46::E))
theorem BZ{p:UInt8->Bool}:∀ {l:List UInt8},(l.takeWhile p).length=l.length->l.all p=true:=by
 intro l h;have e:l.takeWhile p=l:=(List.takeWhile_sublist p).eq_of_length h;rw[<-e];exact yL l
theorem pT{r:List UInt8}{k:Nat}(h:d9 r=k)(a:0<k):∃D d,r=D++d/\D.length=k/\isD D:=by
 obtain⟨d,hd,_⟩:=yM aU r;refine⟨r.takeWhile aU,d,hd,h,?_,yL r⟩;intro e;unfold d9 at h;rw[e]at h;simp at h;omega
theorem num_full{s:List UInt8}(h:cT s=s.length)(A:0<s.length):BX s:=by
 obtain⟨m,k,C,q,c⟩:=jz (s:=s) (i:=0) (v:=s.length) h;simp only[Nat.zero_add]at q c
 obtain⟨b,hb⟩:∃b:Bool,s=sg b (s.drop m):=by
  rcases C with⟨rfl,F⟩|⟨rfl,_⟩
  ·refine⟨true,?_⟩
   have:=ce A;rw[F]at this;exact this
  exact⟨false,rfl⟩
 rcases c with⟨_,u⟩|⟨g,d,hd,c⟩
 ·omega
 obtain⟨D,r,a,l,o⟩:=pT q g;have z:m+k<=s.length:=cB q g
 have y:r.length=s.length-(m+k):=by
  have:=mo List.length a;rw[vu,kc]at this;omega
 rcases c with⟨_,_,u⟩|⟨f,t,n,c⟩
 ·have:r=[]:=lq (by omega)
  subst this;rw[Gw]at a;exact .whole b D o (by rw[<-a];exact hb)
 have j:m+k<s.length:=by rcases f with e|e<;>exact kg hd (by rw[e];decide)
 rcases c with⟨_,u⟩|⟨B,u⟩
 ·omega
 have E:s.drop (m+k)=r:=by rw[<-G8,a,<-l,List.drop_left]
 have x:=ce j;rw[E,hd]at x
 have w:isD (s.drop (m+k+1)):=by
  refine⟨fun e=>?_,BZ (p:=aU) ?_⟩
  ·rw[e]at n;simp[d9]at n;omega
  show d9 (s.drop (m+k+1))=_;rw[n,vu];omega
 rw[x]at a;rw[a]at hb;rcases f with rfl|rfl
 ·exact .dot b D _ o w hb
 exact .quo b D _ o w hb
theorem rS{D:List UInt8}(h:isD D):∃c t,D=c::t/\aU c=true:=by
 obtain⟨b,a⟩:=h
 cases D with
 |nil=>exact absurd rfl b
 |cons c t=>rw[Gd,uv]at a;exact⟨c,t,rfl,a.1⟩
theorem kk{D:List UInt8}(h:isD D){c:UInt8}(b:aU c=false):c ∉ D:=fun a=>by
 have:=zX.1 h.2 c a;rw[b]at this;cases this
theorem kO{m:Bool}{D r:List UInt8}(h:isD D):dE (sg m (D++r))=m/\cX (sg m (D++r))=D++r:=by
 obtain⟨c,t,rfl,d⟩:=rS h;have a:c≠45:=by rintro rfl;exact absurd d (by decide)
 cases m
 ·show dE (c::(t++r))=false/\cX (c::(t++r))=_
  refine⟨?_,?_⟩
  ·unfold dE;split
   ·rename_i b;injection b with h2;exact absurd h2 a
   rfl
  unfold cX;split
  ·rename_i b;injection b with h2;exact absurd h2 a
  rfl
 exact⟨rfl,rfl⟩
def dK(D:List UInt8):List UInt8:=if D.dropWhile (· == 48)=[] then [48] else D.dropWhile (· == 48)
theorem rT(t:List UInt8):ap (48::t)=ap t:=by
 have:=il [48] t;rw[show ap [48]=0 from rfl,Nat.zero_mul,Nat.zero_add]at this;exact this
theorem zx:∀ {D:List UInt8},D.all aU=true->okZ (dK D)=true/\im (dK D)=(ap D:Int)/\(dK D).length<=max 1 D.length:=by
 intro D
 induction D with
 |nil=>intro _;exact⟨by decide,by decide,by decide⟩
 |cons c t ih =>
  intro h;rw[Gd,uv]at h;by_cases hc:c=48
  ·subst hc
   have e:dK (48::t)=dK t:=by unfold dK;simp
   rw[e,rT];obtain⟨d,a,i⟩:=ih h.2;refine⟨d,a,?_⟩;rw[oP];omega
  have e:dK (c::t)=c::t:=by unfold dK;simp[hc]
  have b:c≠45:=by rintro rfl;exact absurd h.1 (by decide)
  have f:dE (c::t)=false:=by
   unfold dE;split
   ·rename_i d;injection d with a;exact absurd a b
   rfl
  have g:cX (c::t)=c::t:=by
   unfold cX;split
   ·rename_i d;injection d with a;exact absurd a b
   rfl
  rw[e];refine⟨?_,?_,by omega⟩
  ·unfold okZ
   rw[f,g];simp[h.1,hc];simpa using h.2
  unfold im;rw[f,g];rfl
inductive mX (s:List UInt8) (x:Int) (q:Rat):Prop
  |large (h:60<s.length) (hx:x=4) (hq:q=0)
  |bad (h:s.length<=60) (hb:s.length=0\/cT s≠s.length) (hx:x=2) (hq:q=0)
  |whole (m:Bool) (D:List UInt8) (h:s.length<=60) (hn:cT s=s.length) (hD:isD D) (hs:s=sg m D) (hx:x=0) (hq:q=((sgI m (ap D):Int):Rat))
  |quo0 (m:Bool) (D E:List UInt8) (h:s.length<=60) (hn:cT s=s.length) (hD:isD D) (hE:isD E) (hs:s=sg m (D++47::E)) (h0:ap E=0) (hx:x=8) (hq:q=0)
  |quo (m:Bool) (D E:List UInt8) (h:s.length<=60) (hn:cT s=s.length) (hD:isD D) (hE:isD E) (hs:s=sg m (D++47::E)) (h0:ap E≠0) (hx:x=0) (hq:q=Rat.divInt (sgI m (ap D)) (ap E))
  |dot (m:Bool) (D E:List UInt8) (h:s.length<=60) (hn:cT s=s.length) (hD:isD D) (hE:isD E) (hs:s=sg m (D++46::E)) (hx:x=0) (hq:q=Rat.divInt (sgI m (ap (D++E))) ((10^E.length:Nat):Int))
theorem tp(s:List UInt8):∃x q,mX s x q:=by
 by_cases h:60<s.length
 ·exact⟨4,0,.large h rfl rfl⟩
 by_cases hb:s.length=0\/cT s≠s.length
 ·exact⟨2,0,.bad (by omega) hb rfl rfl⟩
 ·have a:cT s=s.length:=by
   by_cases e:cT s=s.length
   ·exact e
   exact absurd (.inr e) hb
  have f:0<s.length:=by
   rcases Nat.eq_zero_or_pos s.length with e|e
   ·exact absurd (.inl e) hb
   exact e
  rcases num_full a f with⟨m,D,c,b⟩|⟨m,D,E,c,d,b⟩|⟨m,D,E,c,d,b⟩
  ·exact⟨0,_,.whole m D (by omega) a c b rfl rfl⟩
  ·by_cases h0:ap E=0
   ·exact⟨8,_,.quo0 m D E (by omega) a c d b h0 rfl rfl⟩
   exact⟨0,_,.quo m D E (by omega) a c d b h0 rfl rfl⟩
  exact⟨0,_,.dot m D E (by omega) a c d b rfl rfl⟩
theorem rU(n:Nat):dK (49::List.replicate n 48)=49::List.replicate n 48/\ap (49::List.replicate n 48)=10^n/\(49::List.replicate n 48).all aU=true:=by
 refine⟨by unfold dK;simp,?_,?_⟩
 ·induction n with
  |zero=>rfl
  |succ n ih =>
   rw[List.replicate_succ',<-Hm,dP,ih,show gX 48=0 from rfl,Nat.pow_succ];omega
 rw[Gd,uv];refine⟨by decide,?_⟩;rw[zX];intro c a;rw[zD a];decide
theorem kP{D:List UInt8}(h:D.all aU=true)(a:D.length<=60):ap D<4294967296^60:=by
 have c:=dQ h;have b:(10:Nat)^D.length<=10^60:=Nat.pow_le_pow_right (by decide) a;have d:(10:Nat)^60<4294967296^60:=by decide
 omega
theorem B7(m:Bool)(n:Nat):(sgI m (n:Int)).natAbs=n:=by cases m<;>simp[sgI]
noncomputable def valX (s:List UInt8):Int:=(tp s).choose
noncomputable def valQ (s:List UInt8):Rat:=(tp s).choose_spec.choose
theorem val_out(s:List UInt8):mX s (valX s) (valQ s):=(tp s).choose_spec.choose_spec
structure PS where
  toks:List Tkn
  L:am
  x:Int
def PS.fail(s:PS)(e:Int):PS:=if s.x=0 then { s with x:=e } else s
def PS.next(s:PS)(k:Nat):Option (List UInt8) × PS :=
  if s.x≠0 then (none,s) else match s.toks with
    |[]=>(none,{ s with x:=18 })
    |t::_=>if t.kind=k then (some t.text,s) else (none,{ s with x:=2 })
def PS.drop1(s:PS):PS:={ s with toks:=s.toks.drop 1 }
def PS.word(s:PS):List UInt8 × PS:=match s.next 0 with
  |(some t,s')=>(t,s'.drop1)
  |(none,s')=>([],s')
def PS.expect(s:PS)(k:Nat)(text:List UInt8):PS:=match s.next k with
  |(some t,s')=>if t=text then s'.drop1 else s'.fail 2
  |(none,s')=>s'
noncomputable def PS.number (s:PS):Rat × PS:=match s.next 1 with
  |(some t,s')=>if valX t≠0 then (0,s'.fail (valX t)) else (valQ t,s'.drop1)
  |(none,s')=>(0,s')
noncomputable def PS.mark (s:PS):aB × PS :=
  (⟨s.word.1,rd s.word.2.number.1,rd s.word.2.number.2.number.1⟩,s.word.2.number.2.number.2.expect 2 [59])
def PS.signHead(s:PS):Bool:=match s.toks with|t::_=>t.kind==2|[]=>false
noncomputable def PS.marks:Nat->PS->List aB->List aB × PS
  |0,s,l=>(l,s)
  |f+1,s,l=>if s.x≠0 then (l,s) else if s.signHead then (l,s.expect 2 [125]) else PS.marks f s.mark.2 (l++[s.mark.1])
noncomputable def PS.body (s:PS):aq × PS :=
  let r:=PS.marks (s.toks.length+1) (s.word.2.expect 2 [123]) []
  (⟨s.word.1,r.1⟩,r.2)
def findB(l:List aq)(nm:List UInt8):Option Nat:=l.findIdx? fun b=>b.name==nm
def findM(l:List aB)(nm:List UInt8):Option Nat:=l.findIdx? fun m=>m.name==nm
def PS.named(s:PS)(only:Int):Int × PS :=
  let s':=s.word.2
  if s'.x≠0 then (0,s') else match findB s'.L.bodies s.word.1 with
    |some i=>((i:Int),if 0<=only/\(i:Int)≠only then s'.fail 7 else s')
    |none=>(0,s'.fail 5)
def PS.full(s:PS)(only:Int):Int × Int × PS :=
  let b:=(s.named only).1
  let s1:=(s.named only).2.expect 2 [46]
  let s2:=s1.word.2
  if s2.x≠0 then (0,0,s2) else match findM (cY s2.L b) s1.word.1 with
    |some i=>(b,(i:Int),s2)
    |none=>(0,0,s2.fail 5)
def PS.addB(s:PS)(b:aq):PS:={ s with L:={ s.L with bodies:=s.L.bodies++[b] } }
def PS.addJ(s:PS)(j:bj):PS:={ s with L:={ s.L with joints:=s.L.joints++[j] } }
def PS.addD(s:PS)(d:bD):PS:={ s with L:={ s.L with drivers:=s.L.drivers++[d] } }
def PS.joint(s:PS)(slide:Bool):PS :=
  let a:=s.word.2.full (-1)
  let b:=a.2.2.full (-1)
  let t:Int × Int × PS:=if slide then b.2.2.full b.1 else (0,0,b.2.2)
  (t.2.2.expect 2 [59]).addJ ⟨s.word.1,if slide then 1 else 0,a.1,a.2.1,b.1,b.2.1,t.2.1⟩
def PS.driver(s:PS):PS :=
  let d:=s.word.2.named (-1)
  (d.2.expect 2 [59]).addD ⟨s.word.1,d.1⟩
def dG:List UInt8:=[98,111,100,121]
def iZ:List UInt8:=[112,105,110]
def dL:List UInt8:=[115,108,105,100,101]
def dz:List UInt8:=[100,114,105,118,101,114]
def bW:List UInt8:=[108,105,110,107,97,103,101]
noncomputable def PS.item (s:PS):PS :=
  let s':=s.word.2
  if s.word.1=dG then s'.body.2.addB s'.body.1
  else if s.word.1=iZ then s'.joint false
  else if s.word.1=dL then s'.joint true
  else if s.word.1=dz then s'.driver
  else s'.fail 2
noncomputable def PS.items:Nat->PS->PS
  |0,s=>s
  |f+1,s=>if s.x=0/\s.toks≠[] then PS.items f s.item else s
def L0:am:=⟨[],[],[],[]⟩
noncomputable def dC (l:List Tkn):PS :=
  let s1:=(⟨l,L0,0⟩:PS).expect 0 bW
  let s2:=s1.word.2
  let s3:PS:={ s2 with L:={ s2.L with name:=s1.word.1 } }
  PS.items (l.length+1) (s3.expect 2 [59])
inductive cE (s:List UInt8) (x:Int) (L:am):Prop
  |split (l:List Tkn) (hs:bi s x l) (hx:x≠0) (hL:L=L0)
  |read (l:List Tkn) (hs:bi s 0 l) (hr:(dC l).x=x) (hx:x≠0) (hL:L=L0)
  |check (l:List Tkn) (hs:bi s 0 l) (hr:(dC l).x=0) (hc:bN (dC l).L=x) (hx:x≠0) (hL:L=L0)
  |ok (l:List Tkn) (hs:bi s 0 l) (hr:(dC l).x=0) (hc:bN (dC l).L=0) (hx:x=0) (hL:L=(dC l).L)
theorem B8(s:List UInt8):∃x L,cE s x L:=by
 obtain⟨x,l,h⟩:=rA s;by_cases hx:x=0
 ·subst hx
  by_cases hr:(dC l).x=0
  ·by_cases hc:bN (dC l).L=0
   ·exact⟨_,_,.ok l h hr hc rfl rfl⟩
   exact⟨_,_,.check l h hr rfl hc rfl⟩
  exact⟨_,_,.read l h rfl hr rfl⟩
 exact⟨_,_,.split l h hx rfl⟩
theorem cE.uniq{s:List UInt8}{x y:Int}{L M:am}(h:cE s x L)(a:cE s y M):x=y/\L=M:=by
 cases h with
 |split l hs hx hL =>
  cases a with
  |split l' hs' hx' hL'=>exact⟨(hs.uniq hs').1,by rw[hL,hL']⟩
  |read l' hs' _ _ _=>exact absurd (hs.uniq hs').1 hx
  |check l' hs' _ _ _ _=>exact absurd (hs.uniq hs').1 hx
  |ok l' hs' _ _ _ _=>exact absurd (hs.uniq hs').1 hx
 |read l hs hr hx hL =>
  cases a with
  |split l' hs' hx' hL'=>exact absurd (hs.uniq hs').1.symm hx'
  |read l' hs' hr' hx' hL' =>
   obtain⟨_,rfl⟩:=hs.uniq hs';exact⟨hr.symm.trans hr',by rw[hL,hL']⟩
  |check l' hs' hr' _ _ _ =>
   obtain⟨_,rfl⟩:=hs.uniq hs';exact absurd (hr.symm.trans hr') hx
  |ok l' hs' hr' _ _ _ =>
   obtain⟨_,rfl⟩:=hs.uniq hs';exact absurd (hr.symm.trans hr') hx
 |check l hs hr hc hx hL =>
  cases a with
  |split l' hs' hx' hL'=>exact absurd (hs.uniq hs').1.symm hx'
  |read l' hs' hr' hx' hL' =>
   obtain⟨_,rfl⟩:=hs.uniq hs';exact absurd (hr'.symm.trans hr) hx'
  |check l' hs' hr' hc' hx' hL' =>
   obtain⟨_,rfl⟩:=hs.uniq hs';exact⟨hc.symm.trans hc',by rw[hL,hL']⟩
  |ok l' hs' hr' hc' _ _ =>
   obtain⟨_,rfl⟩:=hs.uniq hs';exact absurd (hc.symm.trans hc') hx
 |ok l hs hr hc hx hL =>
  cases a with
  |split l' hs' hx' hL'=>exact absurd (hs.uniq hs').1.symm hx'
  |read l' hs' hr' hx' hL' =>
   obtain⟨_,rfl⟩:=hs.uniq hs';exact absurd (hr'.symm.trans hr) hx'
  |check l' hs' hr' hc' hx' hL' =>
   obtain⟨_,rfl⟩:=hs.uniq hs';exact absurd (hc'.symm.trans hc) hx'
  |ok l' hs' hr' hc' hx' hL' =>
   obtain⟨_,rfl⟩:=hs.uniq hs';exact⟨by rw[hx,hx'],by rw[hL,hL']⟩
def Stp(d:Nat)(s s':PS):Prop:=s'.toks.length<=s.toks.length/\(s.x≠0->s'=s)/\(s'.x=0->s.x=0/\s'.toks.length+d<=s.toks.length)/\s'.L=s.L
theorem Stp.refl(s:PS):Stp 0 s s:=⟨Qr,fun _=>rfl,fun h=>⟨h,Qr⟩,rfl⟩
theorem Stp.trans{d e:Nat}{a b c:PS}(h:Stp d a b)(k:Stp e b c):Stp (d+e) a c :=
 ⟨Nat.le_trans k.1 h.1,fun f=>by have:=h.2.1 f;subst this;exact k.2.1 f,fun f=>by
  obtain⟨i,j⟩:=k.2.2.1 f;obtain⟨g,l⟩:=h.2.2.1 i
  exact⟨g,by omega⟩,k.2.2.2.trans h.2.2.2⟩
theorem Stp.mono{d e:Nat}{a b:PS}(h:Stp d a b)(f:e<=d):Stp e a b:=⟨h.1,h.2.1,fun c=>⟨(h.2.2.1 c).1,by have:=(h.2.2.1 c).2;omega⟩,h.2.2.2⟩
theorem Stp.sameL{d:Nat}{s a:PS}(h:Stp d s a):a.L=s.L:=h.2.2.2
theorem fQ(s:PS)(e:Int)(b:e≠0)(d:Nat):Stp d s (s.fail e):=by
 unfold PS.fail;split
 ·rename_i a
  exact⟨Qr,fun h=>absurd a h,fun h=>absurd h b,rfl⟩
 rename_i a;exact⟨Qr,fun _=>rfl,fun h=>absurd h a,rfl⟩
theorem next_cases(s:PS)(k:Nat):(∃t r,s.x=0/\s.toks=t::r/\t.kind=k/\s.next k=(some t.text,s))\/(∃s',s.next k=(none,s')/\∀d,Stp d s s'):=by
 unfold PS.next;split
 ·rename_i a
  exact .inr ⟨s,rfl,fun d=>⟨Qr,fun _=>rfl,fun h=>absurd h a,rfl⟩⟩
 rename_i a;have a:s.x=0:=by simpa using a
 split
 ·exact .inr ⟨_,rfl,fun d=>⟨Qr,fun h=>absurd a h,fun h=>absurd (show (18:Int)=0 from h) (by decide),rfl⟩⟩
 rename_i t r e;split
 ·rename_i b
  exact .inl ⟨t,r,a,e,b,rfl⟩
 exact .inr ⟨_,rfl,fun d=>⟨Qr,fun h=>absurd a h,fun h=>absurd (show (2:Int)=0 from h) (by decide),rfl⟩⟩
theorem lr{s:PS}{t:Tkn}{r:List Tkn}(a:s.x=0)(e:s.toks=t::r):Stp 1 s s.drop1:=by
 refine⟨?_,fun h=>absurd a h,fun _=>⟨a,?_⟩,rfl⟩
 ·show (s.toks.drop 1).length<=_
  simp
 show (s.toks.drop 1).length+1<=_;rw[e];simp
theorem aM(s:PS):Stp 1 s s.word.2:=by
 unfold PS.word;rcases next_cases s 0 with⟨t,r,b,e,_,h⟩|⟨c,h,a⟩
 ·rw[h];exact lr b e
 rw[h];exact a 1
theorem aH(s:PS)(k:Nat)(t:List UInt8):Stp 1 s (s.expect k t):=by
 unfold PS.expect;rcases next_cases s k with⟨t0,r,b,e,_,h⟩|⟨c,h,a⟩
 ·rw[h]
  show Stp 1 s (if t0.text=t then s.drop1 else s.fail 2);split
  ·exact lr b e
  exact fQ s 2 (by decide) 1
 rw[h];exact a 1
theorem eI(s:PS):Stp 1 s s.number.2:=by
 unfold PS.number;rcases next_cases s 1 with⟨t0,r,c,e,_,h⟩|⟨d,h,b⟩
 ·rw[h]
  show Stp 1 s (if valX t0.text≠0 then _ else _:Rat × PS).2;split
  ·rename_i a
   exact fQ s _ a 1
  exact lr c e
 rw[h];exact b 1
theorem jc(s:PS):Stp 4 s s.mark.2:=(((aM s).trans (eI _)).trans (eI _)).trans (aH _ _ _)
theorem iw{s:PS}(h:∀t∈s.toks,NmL t.text):NmL s.word.1:=by
 unfold PS.word;rcases next_cases s 0 with⟨t,r,c,e,_,a⟩|⟨b,a,_⟩
 ·rw[a];exact h t (by rw[e];simp)
 rw[a];show ([]:List UInt8).length<_;decide
theorem jH{f:Nat}{s:PS}{l:List aB}(h:s.x≠0):PS.marks f s l=(l,s):=by
 cases f
 ·rfl
 exact kZ h
theorem jI{f:Nat}{s:PS}{l:List aB}(b:0<f)(h:s.x=0)(a:s.signHead=true):PS.marks f s l=(l,s.expect 2 [125]):=by
 obtain⟨f,rfl⟩:∃g,f=g+1:=⟨f-1,by omega⟩;show (if s.x≠0 then _ else if s.signHead then _ else _)=_;rw[kl (by simp[h]),kZ a]
theorem eJ{f:Nat}{s:PS}{l:List aB}(b:0<f)(h:s.x=0)(a:s.signHead=false):PS.marks f s l=PS.marks (f-1) s.mark.2 (l++[s.mark.1]):=by
 obtain⟨f,rfl⟩:∃g,f=g+1:=⟨f-1,by omega⟩;show (if s.x≠0 then _ else if s.signHead then _ else _)=_;rw[kl (by simp[h]),kl (by simp[a])];rfl
theorem oO:∀(f:Nat) (s:PS) (l:List aB),Stp 0 s (PS.marks f s l).2
 |0,s,_=>Stp.refl s
 |f+1,s,l=>by
  by_cases h:s.x=0
  ·cases hs:s.signHead
   ·rw[eJ (by omega) h hs]
    exact((jc s).trans (oO f _ _)).mono (by omega)
   rw[jI (by omega) h hs];exact(aH _ _ _).mono (by omega)
  rw[jH h];exact Stp.refl s
theorem kQ(s:PS):Stp 2 s s.body.2:=(((aM s).trans (aH _ _ _)).trans (oO _ _ _)).mono (by omega)
theorem fK(s:PS)(only:Int):Stp 1 s (s.named only).2:=by
 unfold PS.named;simp only;split
 ·rename_i a
  exact aM s
 split
 ·split
  ·exact((aM s).trans (fQ _ 7 (by decide) 0)).mono (by omega)
  exact aM s
 exact((aM s).trans (fQ _ 5 (by decide) 0)).mono (by omega)
theorem cJ(s:PS)(only:Int):Stp 3 s (s.full only).2.2:=by
 have h:=((fK s only).trans (aH _ 2 [46])).trans (aM _);unfold PS.full;simp only;split
 ·exact h
 split
 ·exact h
 exact(h.trans (fQ _ 5 (by decide) 0)).mono (by omega)
theorem jJ{s:PS}(h:s.word.1≠[]):s.word.2.toks.length+1=s.toks.length/\s.x=0:=by
 unfold PS.word at h⊢;rcases next_cases s 0 with⟨t,r,b,e,_,a⟩|⟨c,a,_⟩
 ·rw[a]
  refine⟨?_,b⟩;show (s.toks.drop 1).length+1=_;rw[e];simp
 rw[a]at h;exact absurd rfl h
theorem oQ:∀(f:Nat) (s:PS) (l:List aB),(PS.marks f s l).1.length<=l.length+s.toks.length+(if s.x=0 then 1 else 0)
 |0,s,l=>by
  show l.length<=_;omega
 |f+1,s,l=>by
  by_cases h:s.x=0
  ·cases hs:s.signHead
   ·rw[eJ (by omega) h hs,kZ h]
    have a:=oQ f s.mark.2 (l++[s.mark.1]);have b:=jc s;rw[kc,F8]at a;show (PS.marks f s.mark.2 _).1.length<=_;by_cases hx:s.mark.2.x=0
    ·have:=(b.2.2.1 hx).2
     rw[kZ hx]at a;omega
    have:=b.1;rw[kl hx]at a;omega
   rw[jI (by omega) h hs];show l.length<=_;omega
  rw[jH h];show l.length<=_;omega
theorem zy(s:PS):s.body.1.pts.length<=s.toks.length+1:=by
 have h:=oQ (s.toks.length+1) (s.word.2.expect 2 [123]) [];have a:=((aM s).trans (aH s.word.2 2 [123])).1;show (PS.marks (s.toks.length+1) (s.word.2.expect 2 [123]) []).1.length<=_;simp only[Gm,Nat.zero_add]at h;split at h<;>omega
theorem zz{l:List aq}{nm:List UInt8}{i:Nat}(h:findB l nm=some i):i<l.length:=by
 unfold findB at h;exact(List.findIdx?_eq_some_iff_findIdx_eq.1 h).1
theorem zA(s:PS)(only:Int)(h:(s.named only).2.x=0):∃i:Nat,(s.named only).1=(i:Int)/\i<s.L.bodies.length:=by
 have b:=(aM s).2.2.2;unfold PS.named at h⊢;simp only at h⊢;split at h
 ·rename_i a;exact absurd h a
 rename_i a;rw[kl a];split at h
 ·rename_i i c
  exact⟨i,rfl,by rw[<-b];exact zz c⟩
 rename_i d;have:(s.word.2.fail 5).x≠0:=by unfold PS.fail;rw[kZ (by simpa using a)];show (5:Int)≠0;decide
 exact absurd h this
theorem jK(s:PS)(b:Bool):(s.joint b).toks.length<=s.toks.length/\((s.joint b).x=0->s.x=0):=by
 have g:=aM s;have c:=cJ s.word.2 (-1);unfold PS.joint;cases b
 ·simp only[Gx,Hw]
  generalize s.word.2.full (-1)=fa at c⊢;have a:=cJ fa.2.2 (-1);generalize fa.2.2.full (-1)=fb at a⊢;have h:=((g.trans c).trans a).trans (aH fb.2.2 2 [59]);exact⟨h.1,fun d=>(h.2.2.1 d).1⟩
 simp only[GY];generalize s.word.2.full (-1)=fa at c⊢;have a:=cJ fa.2.2 (-1);generalize fa.2.2.full (-1)=fb at a⊢;have f:=cJ fb.2.2 fb.1;generalize fb.2.2.full fb.1=ft at f⊢;have h:=(((g.trans c).trans a).trans f).trans (aH ft.2.2 2 [59]);exact⟨h.1,fun d=>(h.2.2.1 d).1⟩
theorem mY(s:PS):s.driver.toks.length<=s.toks.length/\(s.driver.x=0->s.x=0):=by
 have h:=((aM s).trans (fK _ (-1))).trans (aH _ 2 [59]);unfold PS.driver;exact⟨h.1,fun a=>(h.2.2.1 a).1⟩
theorem zB(s:PS):s.item.toks.length<=s.toks.length/\(s.item.x=0->s.item.toks.length+1<=s.toks.length):=by
 have hw:=aM s
 have key:∀a:PS,a.toks.length<=s.word.2.toks.length->(a.x=0->s.word.2.x=0)->a.toks.length<=s.toks.length/\(a.x=0->a.toks.length+1<=s.toks.length):=by
  intro a d c;refine⟨Nat.le_trans d hw.1,fun b=>?_⟩;have:=(hw.2.2.1 (c b)).2;omega
 unfold PS.item;split
 ·have h:=kQ s.word.2
  exact key _ h.1 (fun b=>(h.2.2.1 b).1)
 split
 ·have h:=jK s.word.2 false
  exact key _ h.1 h.2
 split
 ·have h:=jK s.word.2 true
  exact key _ h.1 h.2
 split
 ·have h:=mY s.word.2
  exact key _ h.1 h.2
 have h:=fQ s.word.2 2 (by decide) 0;exact key _ h.1 (fun b=>(h.2.2.1 b).1)
theorem wD{f:Nat}{s:PS}(h:¬(s.x=0/\s.toks≠[])):PS.items f s=s:=by
 cases f
 ·rfl
 exact kl h
theorem tq{f:Nat}{s:PS}(a:0<f)(h:s.x=0/\s.toks≠[]):PS.items f s=PS.items (f-1) s.item:=by
 obtain⟨f,rfl⟩:∃g,f=g+1:=⟨f-1,by omega⟩;exact kZ h
section
variable {g0:Nat}{w w':World}
structure FS (L:am):Prop where
  bodies:∀b∈L.bodies,b.name≠[]/\∀m∈b.pts,m.name≠[]
  joints:∀j∈L.joints,j.name≠[]
  drivers:∀d∈L.drivers,d.name≠[]
end
def OwJ(J:Value->Bool)(w:World)(base:Nat)(e:TypeId)(size:Nat)(v:Value)(n:Nat)(xs:List Value):Prop :=
  xs.length=n*size /\
  ((v=.slice none 0 0/\n=0) \/
   ∃g cap cur,v=.slice (some ⟨g,0,none⟩) n cap/\base<=g/\w.heap[g]?=some (.cells cur e (0,0))/\n<=cap/\cap<=maxLen/\cur.size=cap*size/\cur.toList.take (n*size)=xs/\cur.toList.all J=true)
theorem OwJ.nil(J:Value->Bool)(w:World)(base:Nat)(e:TypeId)(size:Nat):OwJ J w base e size (.slice none 0 0) 0 []:=⟨by simp,.inl ⟨rfl,rfl⟩⟩
section
variable {J:Value->Bool}{w w':World}{base:Nat}{e:TypeId}{size:Nat}{v:Value}{n:Nat}{xs:List Value}
theorem OwJ.belw(h:OwJ J w base e size v n xs)(hb:Below w.heap.size w w'):OwJ J w' base e size v n xs:=by
 refine⟨h.1,?_⟩;rcases h.2 with b|⟨g,cap,a,b,d,c,f⟩
 ·exact .inl b
 exact .inr ⟨g,cap,a,b,d,(hb.block g (Gi c)).trans c,f⟩
theorem OwJ.own(h:OwJ J w base e size v n xs):w.ownsRow base e size v n xs:=by
 refine⟨h.1,?_⟩;rcases h.2 with b|⟨g,cap,a,b,d,k,f,i,c,j,_⟩
 ·exact .inl b
 exact .inr ⟨g,cap,a,b,d,k,f,i,c,j⟩
theorem OwJ.at_(h:OwJ J w base e size v n xs){g:Nat}(b:v.ownBlock=some g):base<=g/\∃a,w.heap[g]?=some (.cells a e (0,0))/\a.toList.all J=true:=by
 rcases h.2 with⟨rfl,_⟩|⟨g',cap,a,rfl,d,f,_,_,_,_,c⟩
 ·cases b
 injection b with b;subst b;exact⟨d,a,f,c⟩
end
section
variable {P:Program}(w:World)
theorem zC{J:Value->Bool}{z:Array Value}(c:z.toList.all J=true)(d:0<z.size)(n:Nat):(Builtin.zeroCells z n).toList.all J=true:=by
 rw[zX]at c⊢;intro x b;unfold Builtin.zeroCells at b;rw[Array.mem_toList_iff,Array.mem_map]at b;obtain⟨i,_,rfl⟩:=b;have a:=Nat.mod_lt i d;rw[getElem!_pos z _ a];exact c _ (by simp)
theorem kR(J:Value->Bool)(base:Nat)(t H e:TypeId)(i:TypeInfo)(z:Value)(size bytes:Nat)(L:P.underlying t=some (.slice e))(R:P.info? e=some i)(W:i.zero=some z)
 (r:i.size=size) (N:i.bytes=bytes) (S:z.cells.size=size) (Z:0<size) (T:z.cells.toList.all J=true)
 (v:Value) (n:Nat) (q:List Value) (b:OwJ J w base e size v n q)
 (a:Addr) (m c:Nat) (news:List Value) (B:news.length=m*size) (f:∀j u,news[j]?=some u->w.cell? (a.add j)=some u) (Y:∀u∈news,u.oneCell'=true) (y:news.all J=true)
 (hm:0<m) (C:n+m<=maxLen) (l:(n+m)*bytes<=140737488355328) (s:base<=w.heap.size) :
 ∃g cap w',(Builtin.append_ #[t,t] H #[v,.slice (some a) m c]).run P w=.ok (.slice (some ⟨g,0,none⟩) (n+m) cap) w'/\OwJ J w' base e size (.slice (some ⟨g,0,none⟩) (n+m) cap) (n+m) (q++news) /\
  w.grownBy w' v.ownBlock/\(v.ownBlock=some g\/g=w.heap.size):=by
 subst r
 subst N
 have G:n+m<=9223372036854775807:=by simp only[maxLen]at C;omega
 have h:(q++news).length=(n+m)*i.size:=by rw[kc,b.1,B,Nat.add_mul]
 have fresh:∀(old:Nat),q.all J=true ->
  OwJ J (w.drew.alloc (.cells (q.toArray++news.toArray++Builtin.zeroCells z.cells (grownCap w (n+m) old e-(n+m))) e)) base e i.size (.slice (some ⟨w.heap.size,0,none⟩) (n+m) (grownCap w (n+m) old e)) (n+m) (q++news):=by
  intro old d;have I:=grownCap_ge w (n+m) old e;refine⟨h,.inr ⟨w.heap.size,_,_,rfl,s,Ao w.drew _,I,grownCap_le_maxLen w (n+m) old e C,?_,?_,?_⟩⟩
  ·simp only[Array.size_append,List.size_toArray,size_zeroCells,S,b.1,B,<-Nat.add_mul]
   congr 1;omega
  ·simp only[Array.toList_append,ys]
   rw[<-ys,<-h];exact List.take_left
  simp only[Array.toList_append,Gv,d,y,Ho];exact zC T (by omega) _
 have U:∀(o:Obj) (row:Option Nat),w.grownBy (w.drew.alloc o) row:=fun o row=>⟨rfl,rfl,rfl,by simp,fun k M _=>GR w.drew o k M⟩
 rcases b.2 with⟨rfl,rfl⟩|⟨g,cap,A,rfl,O,V,ab,K,Q,p,F⟩
 ·have d:q=[]:=lq (by simpa using b.1)
  subst d;have E:=run_append_nil (P:=P) w t H e i z L R W a m c news B f (by omega) (by omega) (by have hb:=l;simp only[Nat.zero_add]at hb;omega);have X:=fresh 0 rfl;simp only[Nat.zero_add,Gf,Array.empty_append]at X⊢;exact⟨_,_,_,E,X,U _ _,.inr rfl⟩
 by_cases hroom:n+m<=cap
 ·have D:n*i.size+news.length<=A.size:=by rw[B,Q,<-Nat.add_mul];exact Nat.mul_le_mul_right _ hroom
  have E:=run_append_room (P:=P) w t H e i L R g n cap A V a m c news B f Y hroom D;refine⟨g,cap,_,E,⟨h,.inr ⟨g,cap,_,rfl,O,setRow_heap w g A _ e _ V,hroom,K,?_,?_,?_⟩⟩,⟨rfl,rfl,rfl,by simp,fun k _ M=>setRow_other w g k _ (fun e=>M (by simp[Value.ownBlock,e]))⟩,.inl rfl⟩
  ·simp only[List.size_toArray,kc,vq,vu,Array.length_toList]
   omega
  ·rw[p,<-h]
   exact List.take_left
  rw[zX]at F y⊢;intro x d;rcases Gu.1 d with d|d
  ·rcases Gu.1 d with d|d
   ·exact F x (GM d)
   exact y x d
  exact F x (List.mem_of_mem_drop d)
 have holds:∀j u,q[j]?=some u->w.cell? ((⟨g,0,none⟩:Addr).add j)=some u:=b.own.cells (g:=g) rfl;have E:=run_append_grow (P:=P) w t H e i z L R W ⟨g,0,none⟩ n cap q b.1 holds a m c news B f (by omega) (by omega) (growslice_fits (by omega) l);exact⟨_,_,_,E,fresh cap (by rw[zX]at F⊢;intro x d;rw[<-p]at d;exact F x (GM d)),U _ _,.inr rfl⟩
theorem bK{ops:Array Oper}{rest:List Oper}{o:Oper}{a:Act}{Q:Exit->Act->World->Prop}(q:o.guard=none)(J:Value->Bool)(s x:Operand)(t:TypeId)
 (N:o.op=.call { callee:=.builtin .append,args:=#[s,x],argTypes:=#[t,t] })
 (base:Nat) (e:TypeId) (i:TypeInfo) (z:Value) (size bytes:Nat) (H:P.underlying t=some (.slice e)) (U:P.info? e=some i) (M:i.zero=some z)
 (d:i.size=size) (C:i.bytes=bytes) (E:z.cells.size=size) (A:0<size) (F:z.cells.toList.all J=true)
 (v:Value) (n:Nat) (D:List Value) (T:a.eval s=v) (l:OwJ J w base e size v n D)
 (B:Addr) (m c:Nat) (news:List Value) (V:a.eval x=.slice (some B) m c) (O:news.length=m*size) (k:∀j u,news[j]?=some u->w.cell? (B.add j)=some u) (L:∀u∈news,u.oneCell'=true) (r:news.all J=true)
 (W:0<m) (y:n+m<=maxLen) (b:(n+m)*bytes<=140737488355328) (f:base<=w.heap.size)
 (h:∀g cap p,OwJ J p base e size (.slice (some ⟨g,0,none⟩) (n+m) cap) (n+m) (D++news)->w.grownBy p v.ownBlock->(v.ownBlock=some g\/g=w.heap.size)->wpList P ops Q rest (a.put o.dst (.slice (some ⟨g,0,none⟩) (n+m) cap)) p):wpList P ops Q (o::rest) a w :=
 wpList_plain q fun _ K=>by
  obtain⟨g,cap,p,R,G,S,I⟩:=kR (P:=P) w J base t o.type e i z size bytes H U M d C E A F v n D l B m c news O k L r W y b f;unfold Oper.wp execOp;simp only[N,resolve,invoke,builtin,Sem.run_bind,Sem.run_pure,Result.andThen_ok,List.map_toArray,Hp,List.map_nil,T,V,R];exact K _ _ (h g cap p G S I)
theorem gk{o:Oper}{a:Act}{K:Act->World->Prop}{Q:Exit->Act->World->Prop}(J:Value->Bool)(s x:Operand)(t:TypeId)
 (L:o.op=.call { callee:=.builtin .append,args:=#[s,x],argTypes:=#[t,t] })
 (base:Nat) (e:TypeId) (i:TypeInfo) (z:Value) (size bytes:Nat) (G:P.underlying t=some (.slice e)) (O:P.info? e=some i) (I:i.zero=some z)
 (d:i.size=size) (C:i.bytes=bytes) (A:z.cells.size=size) (y:0<size) (E:z.cells.toList.all J=true)
 (v:Value) (n:Nat) (D:List Value) (U:a.eval s=v) (l:OwJ J w base e size v n D)
 (r:Addr) (m c:Nat) (news:List Value) (R:a.eval x=.slice (some r) m c) (M:news.length=m*size) (f:∀j u,news[j]?=some u->w.cell? (r.add j)=some u) (S:∀u∈news,u.oneCell'=true) (B:news.all J=true)
 (V:0<m) (q:n+m<=maxLen) (b:(n+m)*bytes<=140737488355328) (k:base<=w.heap.size)
 (h:∀g cap p,OwJ J p base e size (.slice (some ⟨g,0,none⟩) (n+m) cap) (n+m) (D++news)->w.grownBy p v.ownBlock->(v.ownBlock=some g\/g=w.heap.size)->K (a.put o.dst (.slice (some ⟨g,0,none⟩) (n+m) cap)) p):o.wp P a w K Q:=by
 obtain⟨g,cap,p,T,F,N,H⟩:=kR (P:=P) w J base t o.type e i z size bytes G O I d C A y E v n D l r m c news M f S B V q b k;unfold Oper.wp execOp;simp only[L,resolve,invoke,builtin,Sem.run_bind,Sem.run_pure,Result.andThen_ok,List.map_toArray,Hp,List.map_nil,U,R,T];exact h g cap p F N H
end
/-! What touches blocks of certain types only. -/
def isU(v:Value):Bool:=match v with | .int .u32 _=>true|_=>false
def noW(v:Value):Bool:=!isU v
def Tch(T:TypeId->Bool)(w w':World):Prop:=w.heap.size<=w'.heap.size/\∀(g:Nat) cur t fr,w.heap[g]?=some (.cells cur t fr)->(T t=false\/cur.toList.all noW=false)->w'.heap[g]?=some (.cells cur t fr)
section
variable {T:TypeId->Bool}{w w' w2:World}
theorem Tch.refl(w:World):Tch T w w:=⟨Qr,fun _ _ _ _ h _=>h⟩
theorem Tch.trans(h:Tch T w w')(k:Tch T w' w2):Tch T w w2:=⟨Nat.le_trans h.1 k.1,fun g a t fr x y=>k.2 g a t fr (h.2 g a t fr x y) y⟩
theorem Tch.below(h:Below w.heap.size w w'):Tch T w w':=⟨h.size,fun g _ _ _ x _=>(h.block g (Gi x)).trans x⟩
theorem Tch.mono{b:TypeId->Bool}(h:Tch T w w')(c:∀t,T t=true->b t=true):Tch b w w':=⟨h.1,fun g a t fr x y=>h.2 g a t fr x (y.imp (fun h=>by cases e:T t;rfl;rw[c t e]at h;cases h) id)⟩
theorem Tch.of_ne{g0:Nat}{a:Array Value}{t:TypeId}{fr:Nat × Nat}(f:w.heap.size<=w'.heap.size)(d:w.heap[g0]?=some (.cells a t fr))(b:T t=true)(j:a.toList.all noW=true)(h:∀g,g<w.heap.size->g≠g0->w'.heap[g]?=w.heap[g]?):Tch T w w':=by
 refine⟨f,fun g c k i x y=>?_⟩;by_cases e:g=g0
 ·subst e
  rw[d]at x;injection x with x;injection x with x1 x2;subst x1 x2;rw[b,j]at y;rcases y with y|y<;>cases y
 rw[h g (Gi x) e];exact x
theorem Tch.set{g0:Nat}{a:Array Value}{t:TypeId}(c:Blk w g0 t a)(d:T t=true)(f:a.toList.all noW=true)(i:Nat)(u:Value):Tch T w (w.setCell ⟨g0,i,none⟩ u) :=
 Tch.of_ne (by simp[World.setCell]) c d f fun g _ b=>so w ⟨g0,i,none⟩ u g b
theorem Tch.grown{J:Value->Bool}{base:Nat}{e:TypeId}{size:Nat}{v:Value}{n:Nat}{j:List Value}(l:∀u,J u=true->noW u=true)(f:T e=true)(h:OwJ J w base e size v n j)(a:w.grownBy w' v.ownBlock):Tch T w w':=by
 cases hv:v.ownBlock with
 |none=>exact⟨a.size,fun g _ _ _ x _=>(a.block g (Gi x) (by rw[hv];simp)).trans x⟩
 |some g0 =>
  obtain⟨_,i,m,d⟩:=h.at_ hv;refine Tch.of_ne a.size m f ?_ fun g b c=>a.block g b (by rw[hv];simpa using c)
  rw[zX]at d⊢;exact fun u k=>l u (d u k)
theorem Wd.tch{A:Option Addr}{n c:Nat}{l:List Nat}(x:Wd w A n c l)(h:Tch T w w'):Wd w' A n c l:=by
 refine⟨x.1,x.2.1,x.2.2.1,fun d=>?_⟩;obtain⟨g,o,a,fr,e,⟨t,f,hb⟩,b⟩:=x.2.2.2 d;refine⟨g,o,a,fr,e,⟨t,f,h.2 g a t fr hb (.inr ?_)⟩,b⟩;have i:=b 0 d;rw[List.all_eq_false];exact⟨_,by rw[Array.mem_toList_iff];exact Array.mem_of_getElem? i,by simp[noW,isU]⟩
theorem QD.tch{b:Bool}{A D:Option Addr}{n c m e k:Nat}{r:RD}(x:QD w b A n c D m e r k)(h:Tch T w w'):QD w' b A n c D m e r k:=⟨x.1,x.2.1.tch h,x.2.2.1.tch h,x.2.2.2⟩
end
def SlT{α:Type}(T0:TypeId)(P:World->Nat->Nat->α->Prop)(s:Nat)(w:World)(A:Option Addr)(n c:Nat)(l:List α):Prop :=
  l.length=n/\n<=c/\(0<n->∃g o cur fr,A=some ⟨g,o,none⟩/\w.heap[g]?=some (.cells cur T0 fr)/\∀i a,l[i]?=some a->P w g (o+i*s) a)
theorem SlT.sl{α:Type}{k:TypeId}{P b:World->Nat->Nat->α->Prop}{s:Nat}{w:World}{A:Option Addr}{n c:Nat}{l:List α}(h:SlT k P s w A n c l)(p:∀g o a,P w g o a->b w g o a):SlS b s w A n c l:=by
 refine⟨h.1,h.2.1,fun j=>?_⟩;obtain⟨g,o,d,fr,e,hb,f⟩:=h.2.2 j;exact⟨g,o,e,Gi hb,fun i a m=>p _ _ _ (f i a m)⟩
section
variable {T:TypeId->Bool}{w w':World}
theorem SlT.tch{α:Type}{f:TypeId}{P:World->Nat->Nat->α->Prop}{s:Nat}{A:Option Addr}{n c:Nat}{l:List α}(x:SlT f P s w A n c l)(h:Tch T w w')(j:T f=false)(q:∀g o a,w'.heap[g]?=w.heap[g]?->P w g o a->P w' g o a):SlT f P s w' A n c l:=by
 refine⟨x.1,x.2.1,fun m=>?_⟩;obtain⟨g,o,b,fr,e,hb,k⟩:=x.2.2 m;have d:=h.2 g b f fr hb (.inl j);exact⟨g,o,b,fr,e,d,fun i a p=>q _ _ _ (d.trans hb.symm) (k i a p)⟩
theorem jL{g o:Nat}(a:w'.heap[g]?=w.heap[g]?):w'.cell? ⟨g,o,none⟩=w.cell? ⟨g,o,none⟩:=by unfold World.cell?;rw[a]
theorem j5.tch{g o k:Nat}{r:RD}(a:w'.heap[g]?=w.heap[g]?)(h:Tch T w w')(x:j5 w g o r k):j5 w' g o r k:=by
 obtain⟨b,A,n,c,D,m,e,i,d,j,f⟩:=x;exact⟨b,A,n,c,D,m,e,(jL a).trans i,(jL a).trans d,(jL a).trans j,f.tch h⟩
theorem hH.tch{g o k:Nat}{m:aB}(a:w'.heap[g]?=w.heap[g]?)(h:Tch T w w')(x:hH k w g o m):hH k w' g o m :=
 ⟨(jL a).trans x.1,x.2.1.tch a h,x.2.2.1.tch a h,x.2.2.2⟩
abbrev ls(k:Nat)(w:World)(A:Option Addr)(n c:Nat)(l:List aB):Prop:=SlT 67 (hH k) 7 w A n c l
theorem ls.tch{k:Nat}{A:Option Addr}{n c:Nat}{l:List aB}(x:ls k w A n c l)(h:Tch T w w')(b:T 67=false):ls k w' A n c l:=SlT.tch x h b fun _ _ _ a p=>p.tch a h
end
/-! A thing's cells. -/
def MkC(k:Nat)(w:World)(cs:List Value)(m:aB):Prop:=∃b A n c D m1 e b' A' n' c' D' m' e',cs=[ae m.name,.bool b,.slice A n c,.slice D m1 e,.bool b',.slice A' n' c',.slice D' m' e']/\QD w b A n c D m1 e m.x k/\QD w b' A' n' c' D' m' e' m.y k/\NmL m.name
def BdC(k:Nat)(w:World)(cs:List Value)(b:aq):Prop:=∃A n c,cs=[ae b.name,.slice A n c]/\ls k w A n c b.pts/\NmL b.name
def JtC(_:World)(cs:List Value)(j:bj):Prop:=cs=[ae j.name,.int .i64 j.kind,.int .i64 j.a,.int .i64 j.point,.int .i64 j.b,.int .i64 j.on,.int .i64 j.to_]/\NmL j.name
def DrC(_:World)(cs:List Value)(d:bD):Prop:=cs=[ae d.name,.int .i64 d.body]/\NmL d.name
section
variable {T:TypeId->Bool}{w w':World}{k:Nat}{cs:List Value}
theorem MkC.tch{m:aB}(x:MkC k w cs m)(h:Tch T w w'):MkC k w' cs m:=by
 obtain⟨b,A,n,c,D,i,e,g,s,a,f,o,p,r,j,q,d,l⟩:=x;exact⟨b,A,n,c,D,i,e,g,s,a,f,o,p,r,j,q.tch h,d.tch h,l⟩
theorem BdC.tch{b:aq}(x:BdC k w cs b)(h:Tch T w w')(f:T 67=false):BdC k w' cs b:=by
 obtain⟨A,n,c,d,g,a⟩:=x;exact⟨A,n,c,d,g.tch h f,a⟩
theorem MkC.at_{m:aB}{g o:Nat}(x:MkC k w cs m)(a:∀j u,cs[j]?=some u->w.cell? ⟨g,o+j,none⟩=some u):hH k w g o m:=by
 obtain⟨b,A,n,c,D,l,e,i,v,d,h,q,r,t,rfl,s,f,p⟩:=x;exact⟨a 0 _ rfl,⟨b,A,n,c,D,l,e,a 1 _ rfl,a 2 _ rfl,a 3 _ rfl,s⟩,⟨i,v,d,h,q,r,t,a 4 _ rfl,a 5 _ rfl,a 6 _ rfl,f⟩,p⟩
theorem BdC.at_{b:aq}{g o:Nat}(x:BdC k w cs b)(a:∀j u,cs[j]?=some u->w.cell? ⟨g,o+j,none⟩=some u):fD k w g o b:=by
 obtain⟨A,n,c,rfl,f,d⟩:=x;exact⟨A,n,c,a 0 _ rfl,a 1 _ rfl,f.sl fun _ _ _ p=>p,d⟩
theorem JtC.at_{j:bj}{g o:Nat}(x:JtC w cs j)(a:∀i u,cs[i]?=some u->w.cell? ⟨g,o+i,none⟩=some u):pG w g o j:=by
 obtain⟨rfl,b⟩:=x;exact⟨a 0 _ rfl,a 1 _ rfl,a 2 _ rfl,a 3 _ rfl,a 4 _ rfl,a 5 _ rfl,a 6 _ rfl,b⟩
theorem DrC.at_{d:bD}{g o:Nat}(x:DrC w cs d)(a:∀i u,cs[i]?=some u->w.cell? ⟨g,o+i,none⟩=some u):pH w g o d:=by
 obtain⟨rfl,b⟩:=x;exact⟨a 0 _ rfl,a 1 _ rfl,b⟩
end
def jd{α:Type}(Pc:World->List Value->α->Prop)(s:Nat)(w:World)(l:List α)(xs:List Value):Prop :=
  ∃css:List (List Value),xs=css.flatten/\css.length=l.length/\(∀cs∈css,cs.length=s)/\∀(i:Nat) a cs,l[i]?=some a->css[i]?=some cs->Pc w cs a
theorem uz{s:Nat}:∀ {a:List (List Value)}{i:Nat}{cs:List Value},(∀x∈a,x.length=s)->a[i]?=some cs->∀j,j<s->a.flatten[i*s+j]?=cs[j]?
 |[],i,cs,_,h,_,_=>by simp at h
 |x::a,0,cs,hl,h,j,hj=>by
  simp only[List.getElem?_cons_zero,Option.some.injEq]at h;subst h;have:=hl x (by simp);rw[GP,Nat.zero_mul,Nat.zero_add,Gq (by omega)]
 |x::a,i+1,cs,hl,h,j,hj=>by
  have b:=hl x (by simp);rw[GP,xE (by rw[b,Nat.add_mul];omega),b,show (i+1)*s+j-s=i*s+j by rw[Nat.add_mul];omega];exact uz (fun y c=>hl y (by simp[c])) (by simpa using h) j hj
section
variable {α:Type}{Pc:World->List Value->α->Prop}{s:Nat}{w w':World}{l:List α}{xs:List Value}
theorem jd.nil:jd Pc s w ([]:List α) []:=by
 refine⟨[],rfl,rfl,?_,?_⟩
 ·intro cs h;cases h
 intro i a cs h;simp at h
theorem jd.snoc{a:α}{cs:List Value}(h:jd Pc s w l xs)(o:Pc w cs a)(n:cs.length=s):jd Pc s w (l++[a]) (xs++cs):=by
 obtain⟨f,e,j,d,m⟩:=h;refine⟨f++[cs],by simp[e],by simp[j],fun x c=>?_,fun i b p hb hd=>?_⟩
 ·rcases Gu.1 c with c|c
  ·exact d x c
  simp at c;subst c;exact n
 rcases Nat.lt_or_ge i l.length with g|g
 ·rw[Gq g]at hb
  rw[Gq (by omega)]at hd;exact m i b p hb hd
 rw[xE g]at hb;rw[xE (by omega),j]at hd;rcases Nat.eq_zero_or_pos (i-l.length) with k|k
 ·rw[k]at hb hd
  simp at hb hd;subst hb hd;exact o
 rw[Gz (by simp;omega)]at hb;cases hb
theorem jd.map_{d:World}(h:jd Pc s w l xs)(k:∀cs a,Pc w cs a->Pc d cs a):jd Pc s d l xs:=by
 obtain⟨c,e,g,b,f⟩:=h;exact⟨c,e,g,b,fun i a cs m j=>k _ _ (f i a cs m j)⟩
end
def bc{α:Type}(T0:TypeId)(Pc:World->List Value->α->Prop)(s:Nat)(w:World)(base:Nat)(v:Value)(n:Nat)(l:List α):Prop:=l.length=n/\∃xs,OwJ noW w base T0 s v n xs/\jd Pc s w l xs
section
variable {α:Type}{T0:TypeId}{Pc:World->List Value->α->Prop}{s:Nat}{w w':World}{base:Nat}{v:Value}{n:Nat}{l:List α}
theorem bc.nil:bc T0 Pc s w base (.slice none 0 0) 0 ([]:List α):=⟨rfl,[],OwJ.nil _ _ _ _ _,jd.nil⟩
theorem bc.form(h:bc T0 Pc s w base v n l):∃A c,v=.slice A n c/\n<=c:=by
 obtain⟨_,f,d,_⟩:=h;rcases d.2 with⟨rfl,rfl⟩|⟨g,cap,a,rfl,_,_,b,_⟩
 ·exact⟨none,0,rfl,Qr⟩
 exact⟨_,cap,rfl,b⟩
theorem bc.slT{P:World->Nat->Nat->α->Prop}{A:Option Addr}{c:Nat}(h:bc T0 Pc s w base (.slice A n c) n l)(D:∀g o cs a,Pc w cs a->(∀j u,cs[j]?=some u->w.cell? ⟨g,o+j,none⟩=some u)->P w g o a):SlT T0 P s w A n c l:=by
 obtain⟨q,F,y,d,e,E,b,B⟩:=h;rcases y.2 with⟨m,rfl⟩|⟨g,cap,p,m,_,t,x,_,H,z,_⟩
 ·injection m with a1 _ a3
  subst a1 a3;exact⟨q,Qr,fun h=>absurd h (by omega)⟩
 injection m with a1 _ a3;subst a1 a3;refine⟨q,x,fun _=>⟨g,0,p,_,rfl,t,fun i a v=>?_⟩⟩;have G:i<n:=by rw[<-q];exact(ts.1 v).1
 have f:d[i]?=some d[i]:=sx (by omega);refine D _ _ _ _ (B i a _ v f) fun j u r=>?_
 have C:j<s:=by rw[<-b d[i] (Hj _)];exact(ts.1 r).1
 have k:=uz b f j C;rw[r,<-e,<-z,Gk]at k;split at k
 ·unfold World.cell?
  rw[t];simpa using k
 cases k
theorem bc.same(h:bc T0 Pc s w base v n l)(hb:∀g b,base<=g->w.heap[g]?=some (.cells b T0 (0,0))->w'.heap[g]?=some (.cells b T0 (0,0)))(m:∀cs a,Pc w cs a->Pc w' cs a):bc T0 Pc s w' base v n l:=by
 obtain⟨j,o,f,k⟩:=h;refine⟨j,o,⟨f.1,?_⟩,k.map_ m⟩;rcases f.2 with c|⟨g,cap,b,c,d,p,i⟩
 ·exact .inl c
 exact .inr ⟨g,cap,b,c,d,hb g b d p,i⟩
theorem bc.tch{T:TypeId->Bool}(h:bc T0 Pc s w base v n l)(i:Tch T w w')(d:T T0=false)(c:∀cs a,Pc w cs a->Pc w' cs a):bc T0 Pc s w' base v n l:=h.same (fun g b _ f=>i.2 g b T0 _ f (.inl d)) c
end
def ie(l:List (List UInt8)):List Value:=l.map ae
theorem E4(l:List UInt8):(⟨l.toArray⟩:ByteArray).data.toList=l:=by simp
theorem rV(w:World)(g cap n:Nat)(L:List (List UInt8))(m:L.length=n)(a:∀(j:Nat) x,L[j]?=some x->w.cell? ⟨g,j,none⟩=some (ae x))(i:g<w.heap.size)(k:n<=140737488355328)(c:n<=cap)(b:(iG L).length<=140737488355328):
 Calls Tryz.prog 62 #[.slice (some ⟨g,0,none⟩) n cap,.string ⟨#[32]⟩] w (av w (ae (iG L))):=by
 subst m
 have e:(L.map fun x=>(⟨x.toArray⟩:ByteArray)).map (·.data.toList)=L:=by
  rw[List.map_map]
  conv=>rhs;rw[<-List.map_id L]
  exact List.map_congr_left fun x _=>E4 x
 have h:=Tryz.strings_Join g 0 cap (L.map fun x=>⟨x.toArray⟩) ⟨#[32]⟩ w (fun j x d=>by
  rw[GZ,Hg]at d;obtain⟨y,f,rfl⟩:=d;rw[Nat.zero_add]
  exact a j y f) i (by rw[Iq];exact k) (by rw[Iq];exact c) (by rw[e];show (Lib.join L [32]).length<=_;rw[rD];exact b)
 rw[Iq,e]at h;refine h.mono fun p o ⟨l,hb⟩=>⟨?_,hb⟩
 rw[l];show Ending.returned (.string ⟨(Lib.join L [32]).toArray⟩)=_;rw[rD]
theorem B9(w:World)(s:List UInt8):Calls Tryz.prog 227 #[ae s,.string ⟨#[48]⟩] w (av w (ae (s.dropWhile (· == 48)))):=by
 refine(Tryz.strings_TrimLeft_one ⟨s.toArray⟩ 48 (by decide) w).mono fun e b ⟨a,hw⟩=>⟨?_,hw ▸ aa _⟩
 rw[a];congr 2
theorem DN(w:World)(s:List UInt8)(m:Bool)(b:List UInt8)(a:dE s=m)(hb:cX s=b):Calls Tryz.prog 88 #[ae s,.string ⟨#[45]⟩] w (av w (.tuple #[ae b,.bool m])):=by
 refine(Tryz.strings_CutPrefix ⟨s.toArray⟩ ⟨#[45]⟩ w).mono fun e g ⟨d,hw⟩=>⟨?_,hw ▸ aa _⟩
 rw[d];have c:Lib.hasPrefix s [45]=m:=(iU s).trans a;have f:Lib.trimPrefix s [45]=b:=(kE s).trans hb;show Ending.returned (.tuple #[.string ⟨(Lib.trimPrefix s [45]).toArray⟩,.bool (Lib.hasPrefix s [45])])=_;rw[c,f]
theorem E5(w:World)(n:Nat)(d:n<=1000)(Z:List UInt8)(hZ:List.replicate n 48=Z):Calls Tryz.prog 65 #[.string ⟨#[48]⟩,.int .i64 (n:Nat)] w (av w (ae Z)):=by
 refine(Tryz.strings_Repeat ⟨#[48]⟩ n w (by omega) (by show 1*n<=_;omega)).mono fun e c ⟨a,hb⟩=>⟨?_,hb⟩
 subst hZ;rw[a]
 have b:∀k,Lib.repeatL [48] k=List.replicate k 48:=fun k=>by
  induction k with
  |zero=>rfl
  |succ k ih=>rw[Lib.repeatL,ih,GD];rfl
 exact mo (fun x:List UInt8=>Ending.returned (ae x)) (b n)
theorem uA(w:World)(T:List UInt8)(z:Int)(a:okZ T=true)(i:im T=z)(d:T.length<=130):Calls Tryz.prog 188 #[ae T] w (CI w .nilIface z 130):=by
 subst i;exact(sR w T (by omega) a).mono fun e j ⟨b,A,n,c,g,f,h⟩=>⟨b,A,n,c,g,f.mono d,h⟩
theorem uB(w:World)(s t:List UInt8)(d:dK s=t):Calls Tryz.prog 189 #[ae s] w (av w (ae t)):=by
 obtain⟨u,g⟩:=Z9 (s.dropWhile (· == 48));unfold dK at d;rw[g]at d;have f:=B9 w s;rw[g]at f;have f:=Qh f;by_cases c:u=[]
 ·subst c
  obtain rfl:[48]=t:=d;clear g;go_in;go_wp2_with fail;refine f.out.mono ?_;rintro e h⟨rfl,a⟩;go_wp2;go_ret;exact⟨rfl,a⟩
 obtain rfl:u=t:=by rw[kl c]at d;exact d
 obtain⟨y,l,b⟩:=Ia c;have j:((⟨u.toArray⟩:ByteArray)==⟨#[]⟩)=false:=by rw[b];rfl
 have k:(u==[])=false:=by rw[b];rfl
 have i:(u=[])=False:=oK c;clear g b c;go_in;go_wp2_with fail;refine f.out.mono ?_;rintro e h⟨rfl,a⟩;go_wp2;go_ret;exact⟨rfl,a⟩
theorem nO(w:World)(s:List UInt8)(h:60<s.length):Calls Tryz.prog 150 #[ae s] w (fg w (.iface 49 (.int .i64 4)) 0 1):=by
 have a:=ah s;have b:((60:Int)<(s.length:Int))=True:=xr (by omega);go_in;go_wp2_with fail;refine zr1 (.tuple #[.agg #[.bool false,.slice none 0 0,.slice none 0 0],.iface 49 (.int .i64 4)]) ?_;exact⟨_,_,_,_,_,_,_,rfl,QV.zero _ _,((aa w).alloc (by first|omega|(simp<;>omega)) (.cells #[.bool false,.slice none 0 0,.slice none 0 0] 65))⟩
theorem rX(w:World)(s:List UInt8)(h:s.length<=60)(hb:s.length=0\/cT s≠s.length):Calls Tryz.prog 150 #[ae s] w (fg w (.iface 49 (.int .i64 2)) 0 1):=by
 have x:=ah s;have y:((60:Int)<(s.length:Int))=False:=oK (by omega);obtain⟨n,q⟩:=Z9 (cT s);have z:n<=s.length:=by rw[<-q];exact pD s
 rw[q]at hb;by_cases u:n=0
 ·subst u
  clear hb;go_in;go_wp2_with fail;refine(dp _ (s) (by omega) 0 q).mono ?_;rintro e r⟨rfl,b⟩;have q1:=b.q1;have a:Blk r w.heap.size 65 #[.bool false,.slice none 0 0,.slice none 0 0]:=(aj _ _ _ (by simp)).below b (by simp);have c:=(aa w).trans (q1.mono (aa w).size);have t:=b.l1;clear q1;obtain⟨f,g,o⟩:=a.c3;obtain⟨k,j,d⟩:=a.f3;obtain⟨i,l,m,p⟩:=fd a.lt;go_wp2_with fail;refine zr1 (.tuple #[.agg #[.bool false,.slice none 0 0,.slice none 0 0],.iface 49 (.int .i64 2)]) ?_;exact⟨_,_,_,_,_,_,_,rfl,QV.zero _ _,(((c.sc w.heap.size 0 (by omega) (.bool false)).sc w.heap.size 1 (by omega) (.slice none 0 0)).sc w.heap.size 2 (by omega) (.slice none 0 0))⟩
 have B:((n:Int)==0)=false:=by simp;omega
 have A:((n:Int)=0)=False:=oK (by omega);have C:((n:Int)==(s.length:Int))=false:=by simp;omega
 clear hb u;go_in;go_wp2_with fail;refine(dp _ (s) (by omega) n q).mono ?_;rintro e r⟨rfl,b⟩;have q1:=b.q1;have a:Blk r w.heap.size 65 #[.bool false,.slice none 0 0,.slice none 0 0]:=(aj _ _ _ (by simp)).below b (by simp);have c:=(aa w).trans (q1.mono (aa w).size);have t:=b.l1;clear q1;obtain⟨f,g,o⟩:=a.c3;obtain⟨k,j,d⟩:=a.f3;obtain⟨i,l,m,p⟩:=fd a.lt;go_wp2_with fail;refine zr1 (.tuple #[.agg #[.bool false,.slice none 0 0,.slice none 0 0],.iface 49 (.int .i64 2)]) ?_;exact⟨_,_,_,_,_,_,_,rfl,QV.zero _ _,(((c.sc w.heap.size 0 (by omega) (.bool false)).sc w.heap.size 1 (by omega) (.slice none 0 0)).sc w.heap.size 2 (by omega) (.slice none 0 0))⟩
theorem zE:cd 8=.iface 49 (.int .i64 8):=kl (by decide)
inductive oS (z d x:Int) (q:Rat):Prop
  |zero (hd:d=0) (hx:x=8) (hq:q=0)
  |ok (hd:d≠0) (hx:x=0) (hq:Rat.divInt z d=q) (hs:Sz q 130)
def mZ(T:List UInt8)(z:Int):Prop:=okZ T=true/\im T=z/\T.length<=130
theorem jM(w:World)(s:List UInt8)(m:Bool)(B NT DT TN TD:List UInt8)(C O x:Int)(q:Rat)(V:Mx w)(h:s.length<=60)(hp:0<s.length)(hn:cT s=s.length)(hh:dE s=m/\cX s=B)(hB:B.length<=60)(a1 b1 Q A N1 D1:List UInt8)(f1 f2:Bool)(ad:Lib.cut B [47]=(a1,b1,f1))(T:Lib.cut B [46]=(Q,A,f2))(a4:Q.length+A.length<=60)(W:(if f1 then (a1,b1) else (B,[49]))=(N1,D1))(R:(if f2 then (Q++A,49::List.replicate A.length 48) else (N1,D1))=(NT,DT))(h1:dK NT=TN)(h2:mZ TN C)(l:dK DT=TD)(r:mZ TD O)(hq:oS (if m then -C else C) O x q):
 Calls Tryz.prog 150 #[ae s] w (fg w (cd x) q 130):=by
 have aS:=ah s;have aT:((60:Int)<(s.length:Int))=False:=oK (by omega);have a3:((s.length:Int)==0)=false:=it.2 (by omega);have aF:((s.length:Int)=0)=False:=oK (by omega);have al:s.length<4611686018427387904:=by omega
 have HH:=Qh hh;have S:=Qh ad;have U:=Qh T;have E:=Qh W;have H:=Qh R;have H1:=Qh h1;have H2:=Qh h2;have H3:=Qh l;have H4:=Qh r;have HQ:=Qh hq;have HM:=Qh V;have HN:=Qh hn;clear hh ad T W R h1 h2 l r hq V hn;go_in;go_wp2_with fail;(refine(dp _ s al s.length HN.out).mono ?_);rintro e w1⟨rfl,N⟩;have q1:Below w.heap.size w w1:=((aa w).alloc Qr _).trans (N.mono (by simp));have a:Blk w1 w.heap.size 65 #[.bool false,.slice none 0 0,.slice none 0 0]:=(aj _ _ _ (by simp)).below N (by simp);clear N;go_wp2_with fail;(refine(DN _ s m B HH.out.1 HH.out.2).mono ?_);rintro e w2⟨rfl,J⟩;replace a:=a.b J;replace q1:=q1.trans (J.mono q1.size);clear J;go_wp2_with fail;(refine(gi _ B 47 a1 b1 f1 (HM.out.belw q1) (by omega) S.out).mono ?_);rintro e w3⟨rfl,K⟩;replace a:=a.b K;replace q1:=q1.trans (K.mono q1.size);clear K;go_upto_if 47 with fail;go_cut [7,8] (fun s7 s8 t=>s7=ae D1/\s8=ae N1/\w3=t)
 case first =>
  cases f1
  ·have e:=E.out
   simp only[Gx,Hw,Hq]at e;obtain⟨rfl,rfl⟩:=e;go_wp2_with fail;go_meet;exact⟨rfl,rfl,rfl⟩
  have e:=E.out;simp only[GY,Hq]at e;obtain⟨rfl,rfl⟩:=e;go_wp2_with fail;go_meet;exact⟨rfl,rfl,rfl⟩
 case rest =>
  obtain⟨rfl,rfl,rfl⟩:=hcut;clear E S;go_wp2_with fail;(refine(gi _ B 46 Q A f2 (HM.out.belw q1) (by omega) U.out).mono ?_);rintro e w4⟨rfl,M⟩;replace a:=a.b M;replace q1:=q1.trans (M.mono q1.size);clear M;go_upto_if 56 with fail;go_cut [7,8] (fun s7 s8 t=>s7=ae DT/\s8=ae NT/\Blk t w.heap.size 65 #[.bool false,.slice none 0 0,.slice none 0 0]/\Below w.heap.size w t)
  case first =>
   cases f2
   ·have e:=H.out
    simp only[Gx,Hw,Hq]at e;obtain⟨rfl,rfl⟩:=e;go_wp2_with fail;go_meet;exact⟨rfl,rfl,a,q1⟩
   have e:=H.out;simp only[GY,Hq]at e;obtain⟨rfl,rfl⟩:=e;obtain⟨Z,hZ⟩:∃Z:List UInt8,List.replicate A.length 48=Z:=⟨_,rfl⟩;have ao:Z.length=A.length:=by rw[<-hZ];simp
   have HZ:=Qh hZ;have aZ:=aL Q A;have a8:=aL [49] Z;have a7:(9223372036854775807<Q.length+A.length)=False:=oK (by omega);have a0:(9223372036854775807<1+Z.length)=False:=oK (by omega);clear hZ ao;go_wp2_with fail;(refine(E5 _ A.length (by omega) Z HZ.out).mono ?_);rintro e w5⟨rfl,Y⟩;go_wp2_with fail;go_meet;exact⟨by rw[HZ.out],rfl,a.below Y a.lt,q1.trans (Y.mono q1.size)⟩
  case rest =>
   clear a q1 H U;obtain⟨rfl,rfl,a,q1⟩:=hcut;rename World=>w6;go_wp2_with fail;(refine(uB _ NT TN H1.out).mono ?_);rintro e w7⟨rfl,L⟩;replace a:=a.b L;replace q1:=q1.trans (L.mono q1.size);clear L;go_wp2_with fail;(refine(uA _ TN C H2.out.1 H2.out.2.1 H2.out.2.2).mono ?_);rintro e P⟨b3,A3,n3,c3,rfl,l,G⟩;replace a:=a.b G;replace q1:=q1.trans (G.mono q1.size);clear G;go_upto_region 16 with fail;refine dm ?_;intro w9 D;have q9:Below P.heap.size P w9:=by rw[D];exact(aa P).alloc Qr _
   have f:Blk w9 P.heap.size 194 #[.bool b3,.slice A3 n3 c3]:=by rw[D];exact Blk.new P _ _
   have l9:=a.lt;replace a:=a.b q9;replace l:=l.belw q9;replace q1:=q1.trans (q9.mono q1.size);obtain⟨g,hg⟩:=Z9 (P.heap.size);rw[hg]at f l9⊢;clear D q9 hg;go_wp2_with fail;(refine(uB _ DT TD H3.out).mono ?_);rintro e a6⟨rfl,k⟩;replace a:=a.b k;replace f:=f.b k;replace l:=l.belw k;replace q1:=q1.trans (k.mono q1.size);clear k;go_wp2_with fail;(refine(uA _ TD O H4.out.1 H4.out.2.1 H4.out.2.2).mono ?_);rintro e o⟨b4,A4,n4,c4,rfl,r,i⟩;replace a:=a.b i;replace f:=f.b i;replace l:=l.belw i;replace q1:=q1.trans (i.mono q1.size);clear i;go_upto_region 19 with fail;refine dm ?_;intro ac u;have n:Below o.heap.size o ac:=by rw[u];exact(aa o).alloc Qr _
   have j:Blk ac o.heap.size 194 #[.bool b4,.slice A4 n4 c4]:=by rw[u];exact Blk.new o _ _
   have aC:=f.lt;replace a:=a.b n;replace f:=f.b n;replace l:=l.belw n;replace r:=r.belw n;replace q1:=q1.trans (n.mono q1.size);obtain⟨g2,ab⟩:∃g,o.heap.size=g:=⟨_,rfl⟩;rw[ab]at j aC⊢;clear u n ab;go_upto_if 84 with fail;obtain⟨zs,F⟩:∃z,(if m then -C else C)=z:=⟨_,rfl⟩;rw[F]at HQ;have X:=Qh F;clear F;go_cut [] (fun t=>∃b5 I n5 c5,Blk t w.heap.size 65 #[.bool false,.slice none 0 0,.slice none 0 0]/\Blk t g 194 #[.bool b5,.slice I n5 c5]/\Blk t g2 194 #[.bool b4,.slice A4 n4 c4]/\IZ t b5 I n5 c5 zs 130/\IZ t b4 A4 n4 c4 O 130/\Below w.heap.size w t)
   case first =>
    cases m
    ·obtain rfl:C=zs:=X.out
     go_wp2_with fail;go_meet;exact⟨_,_,_,_,a,f,j,l.iz,r.iz,q1⟩
    obtain rfl:-C=zs:=X.out;have y:=f.v2;go_wp2_with fail;(refine(tU _ b3 A3 n3 c3 C 130 l.iz (by decide)).mono ?_);rintro e a5⟨b5,I,n5,c5,rfl,h5,d⟩;replace a:=a.b d;replace f:=f.b d;replace j:=j.b d;replace r:=r.belw d;replace q1:=q1.trans (d.mono q1.size);clear d y;have y:=f.v2;go_wp2_with fail;go_meet;have kp:=f.k2 (by decide) (.bool b5) (.slice I n5 c5);exact⟨_,_,_,_,(a.far (p:=⟨g,0,none⟩) (by show w.heap.size≠g;omega) _).far (p:=⟨g,1,none⟩) (by show w.heap.size≠g;omega) _,(f.set_ 0 _).set_ 1 _,(j.far (p:=⟨g,0,none⟩) (by show g2≠g;omega) _).far (p:=⟨g,1,none⟩) (by show g2≠g;omega) _,h5.iz.keep kp,r.iz.keep kp,(q1.setCell (p:=⟨g,0,none⟩) (by show w.heap.size<=g;omega) _).setCell (p:=⟨g,1,none⟩) (by show w.heap.size<=g;omega) _⟩
   case rest =>
    clear a f j l r q1;obtain⟨b5,I,n5,c5,a,f,j,h5,r,q1⟩:=hcut;rename World=>w14;have y:=And.intro f.v2 j.v2;go_wp2_with fail;rcases HQ.out with⟨hd,rfl,rfl⟩|⟨hd,rfl,hq,hs⟩
    ·(refine(yY _ b5 I n5 c5 zs 130 h5 b4 A4 n4 c4 O 130 r hd (by decide)).mono ?_);rintro e an⟨b6,A6,n6,c6,D6,m6,e6,rfl,h6,c⟩
     replace a:=a.b c;replace q1:=q1.trans (c.mono q1.size);clear c y;have y:=a.v3;go_wp2_with fail;refine xD (v:=.tuple #[.agg #[.bool b6,.slice A6 n6 c6,.slice D6 m6 e6],cd 8]) (by simp[results,Tryz.results150,go_sem,zE, *]<;>trivial) rfl ?_;exact⟨_,_,_,_,_,_,_,rfl,(h6.keep (a.k3 (by decide) _ _ _)).mono (by decide),((q1.setCell (p:=⟨w.heap.size,0,none⟩) Qr _).setCell (p:=⟨w.heap.size,1,none⟩) Qr _).setCell (p:=⟨w.heap.size,2,none⟩) Qr _⟩
    (refine(Dj _ b5 I n5 c5 zs 130 h5 b4 A4 n4 c4 O 130 r q 130 hd hq hs (by decide)).mono ?_);rintro e an⟨b6,A6,n6,c6,D6,m6,e6,rfl,h6,c⟩;replace a:=a.b c;replace q1:=q1.trans (c.mono q1.size);clear c y;have y:=a.v3;go_wp2_with fail;refine xD (v:=.tuple #[.agg #[.bool b6,.slice A6 n6 c6,.slice D6 m6 e6],cd 0]) (by simp[results,Tryz.results150,go_sem,dn, *]<;>trivial) rfl ?_;exact⟨_,_,_,_,_,_,_,rfl,h6.keep (a.k3 (by decide) _ _ _),((q1.setCell (p:=⟨w.heap.size,0,none⟩) Qr _).setCell (p:=⟨w.heap.size,1,none⟩) Qr _).setCell (p:=⟨w.heap.size,2,none⟩) Qr _⟩
theorem mZ.dg{D:List UInt8}(h:D.all aU=true)(c:D.length<=120):mZ (dK D) ((ap D:Nat):Int):=by
 obtain⟨b,a,d⟩:=zx h;exact⟨b,a,by omega⟩
theorem oS.val{m:Bool}{a b:Nat}(c:a<4294967296^60)(hd:b<4294967296^60)(d:b≠0):oS (if m then -(a:Int) else a) b 0 (Rat.divInt (sgI m a) b):=by
 have e:(if m then -(a:Int) else (a:Int))=sgI m a:=by cases m<;>rfl
 rw[e];exact .ok (by omega) rfl rfl (jk (by rw[B7];exact Nat.lt_trans c (Nat.pow_lt_pow_right (by decide) (by decide))) (by rw[Hz];exact Nat.lt_trans hd (Nat.pow_lt_pow_right (by decide) (by decide))) (by decide))
theorem tt{D E:List UInt8}(g:isD D)(b:isD E){c d:UInt8}(a:aU c=false)(hd:c≠d):c ∉ D++d::E:=by
 intro f;rcases Gu.1 f with e|e
 ·exact kk g a e
 rcases Gh.1 e with e|e
 ·exact absurd e hd
 exact kk b a e
theorem wE(w:World)(s:List UInt8)(x:Int)(q:Rat)(f:Mx w)(h:mX s x q)(y:¬60<s.length)(hb:¬(s.length=0\/cT s≠s.length)):Calls Tryz.prog 150 #[ae s] w (fg w (cd x) q 130):=by
 have z:(10:Nat)^60<4294967296^60:=by decide
 rcases h with⟨h,_,_⟩|⟨_,h,_,_⟩|⟨m,D,h,g,a,c,rfl,rfl⟩|⟨m,D,E,h,g,a,d,c,k,rfl,rfl⟩|⟨m,D,E,h,g,a,d,c,k,rfl,rfl⟩|⟨m,D,E,h,g,a,d,c,rfl,rfl⟩
 ·exact absurd h y
 ·exact absurd h hb
 ·have b:=kO (m:=m) (r:=[]) a
  rw[Gw,<-c]at b;have j:D.length<=s.length:=by rw[c];cases m<;>simp[sg]
  have l:=oS.val (m:=m) (kP a.2 (by omega)) (show 1<4294967296^60 by decide) (by decide);rw[show ((1:Nat):Int)=1 from rfl,ye]at l;exact jM w s m D D [49] _ _ _ 1 0 _ f h (by omega) g b (by omega) D [] D [] D [49] false false (ir (kk a (by decide))) (ir (kk a (by decide))) (by simp;omega) rfl rfl rfl (mZ.dg a.2 (by omega)) rfl ⟨by decide,by decide,by decide⟩ l
 ·have b:=kO (m:=m) (r:=47::E) a
  rw[<-c]at b;have j:(D++47::E).length<=s.length:=by rw[c];cases m<;>simp[sg]
  have i:(D++47::E).length=D.length+(E.length+1):=by simp
  exact jM w s m (D++47::E) D E _ _ _ _ 8 0 f h (by omega) g b (by omega) D E (D++47::E) [] D E true false (fO (kk a (by decide))) (ir (tt a d (by decide) (by decide))) (by show (D++47::E).length+0<=60;omega) rfl rfl rfl (mZ.dg a.2 (by omega)) rfl (mZ.dg d.2 (by omega)) (.zero (by rw[k];rfl) rfl rfl)
 ·have b:=kO (m:=m) (r:=47::E) a
  rw[<-c]at b;have j:(D++47::E).length<=s.length:=by rw[c];cases m<;>simp[sg]
  have i:(D++47::E).length=D.length+(E.length+1):=by simp
  exact jM w s m (D++47::E) D E _ _ _ _ 0 _ f h (by omega) g b (by omega) D E (D++47::E) [] D E true false (fO (kk a (by decide))) (ir (tt a d (by decide) (by decide))) (by show (D++47::E).length+0<=60;omega) rfl rfl rfl (mZ.dg a.2 (by omega)) rfl (mZ.dg d.2 (by omega)) (oS.val (kP a.2 (by omega)) (kP d.2 (by omega)) k)
 have b:=kO (m:=m) (r:=46::E) a;rw[<-c]at b;have j:(D++46::E).length<=s.length:=by rw[c];cases m<;>simp[sg]
 have i:(D++46::E).length=D.length+(E.length+1):=by simp
 have p:(D++E).all aU=true:=by rw[Gv,a.2,d.2];rfl
 have t:(D++E).length=D.length+E.length:=kc;obtain⟨B,u,v⟩:=rU E.length;have o:=mZ.dg v (by simp;omega);rw[u]at o;have A:(10:Nat)^E.length<4294967296^60:=Nat.lt_of_le_of_lt (Nat.pow_le_pow_right (by decide) (by omega)) z;exact jM w s m (D++46::E) (D++E) (49::List.replicate E.length 48) _ _ _ _ 0 _ f h (by omega) g b (by omega) (D++46::E) [] D E (D++46::E) [49] false true (ir (tt a d (by decide) (by decide))) (fO (kk a (by decide))) (by omega) rfl rfl rfl (mZ.dg p (by omega)) rfl o (oS.val (kP p (by omega)) A (by have:=Nat.pow_pos (n:=E.length) (show 0<10 by decide);omega))
theorem DP{m:Bool}{B:List UInt8}(h:B≠[]):(sg m B).length≠0:=by
 have:=FW.2 h;cases m<;>simp[sg];exact h
theorem wG(w:World)(s:List UInt8)(x:Int)(q:Rat)(j:Mx w)(h:mX s x q):Calls Tryz.prog 150 #[ae s] w (fg w (cd x) q 130):=by
 have l:∀ {v:Value}{e:Ending}{k:World},fg w v q 1 e k->fg w v q 130 e k:=fun h=>by
  obtain⟨b,A,n,c,t,m,o,d,a,p⟩:=h;exact⟨b,A,n,c,t,m,o,d,a.mono (by decide),p⟩
 by_cases d:60<s.length
 ·rcases h with⟨_,rfl,rfl⟩|⟨h,_⟩|⟨_,_,h,_⟩|⟨_,_,_,h,_⟩|⟨_,_,_,h,_⟩|⟨_,_,_,h,_⟩<;>first|(rw[DM];exact(nO w s d).mono fun _ _ r=>l r)|omega
 by_cases a:s.length=0\/cT s≠s.length
 ·rcases h with⟨h,_⟩|⟨_,_,rfl,rfl⟩|⟨_,D,_,i,g,f,_⟩|⟨_,D,_,_,i,g,_,f,_⟩|⟨_,D,_,_,i,g,_,f,_⟩|⟨_,D,_,_,i,g,_,f,_⟩
  ·exact absurd h d
  ·rw[DL];exact(rX w s (by omega) a).mono fun _ _ r=>l r
  all_goals
   exfalso;rcases a with a|a
   ·rw[f]at a
    exact DP (by first|exact g.1|simp) a
   exact a i
 exact wE w s x q j h d a
theorem oT(w:World)(s:List UInt8)(x:Int)(l:List Tkn)(h:bi s x l):Calls Tryz.prog 36 #[ae s] w (sX w (cd x) l) :=
 (BO w s).mono fun _ _ ⟨c,b,a,r⟩=>by
  obtain⟨rfl,rfl⟩:=h.uniq a;exact r
theorem wH(w:World)(s:List UInt8)(x:Int)(l:List Tkn)(h:bi s x l):Calls Tryz.prog 43 #[ae s] w (sX w (.int .i64 x) l) :=
 (BP w s).mono fun _ _ ⟨c,b,a,r⟩=>by
  obtain⟨rfl,rfl⟩:=h.uniq a;exact r
theorem Ca(w:World)(A:Option Addr)(n c:Nat)(B:Option Addr)(p d:Nat)(C:Option Addr)(q e:Nat)(nm:List UInt8)(j:bj)(L:am)(k:Nat)(h:SlS (fD k) 2 w A n c L.bodies)(i:k<=10000000)(f:0<k)(l:n<=1000)(x:Int)(g:bC L j=x):
 Calls Tryz.prog 113 #[.agg #[ae nm,.slice A n c,.slice B p d,.slice C q e],.agg #[ae j.name,.int .i64 j.kind,.int .i64 j.a,.int .i64 j.point,.int .i64 j.b,.int .i64 j.on,.int .i64 j.to_]] w (av w (cd x)):=by
 by_cases h0:j.kind=0
 ·exact vZ w A n c B p d C q e nm j L k h i f l h0 x g
 by_cases h1:j.kind=1
 ·exact v6 w A n c B p d C q e nm j L k h i f l h1 x g
 subst g;rw[show bC L j=7 from kZ ⟨h0,h1⟩];exact vY w A n c B p d C q e nm j ⟨h0,h1⟩
theorem zF(w:World)(A:Option Addr)(n c:Nat)(B:Option Addr)(p d:Nat)(C:Option Addr)(q e:Nat)(L:am)(k:Nat)(h:LkS k w A n c B p d C q e L)(hk:k<=10000000)(aZ:0<k)(hn:n<=1000)(x:Int)(Q:(if 16<L.joints.length then 4 else bM (aW L) [] L.joints)=x):Calls Tryz.prog 77 #[.agg #[ae L.name,.slice A n c,.slice B p d,.slice C q e]] w (av w (cd x)):=by
 have r:=h.joints.1;have I:=h.bodies.1;by_cases h8:16<p
 ·have f8:((16:Int)<(p:Int))=True:=xr (by omega)
  have h4:x=4:=by rw[<-Q,kZ (by rw[r];exact h8)]
  clear r I;go_in;go_wp2;go_ret;exact⟨by rw[h4];rfl,(aa w).alloc Qr _⟩
 have f8:((16:Int)<(p:Int))=False:=oK (by omega);have ba:p<=16:=by omega
 rw[kl (by rw[r];exact h8)]at Q;have bg:=h.joints.2.1;have J:=Qh (dt Q);have aC:=Qh r;have a8:=Qh I;clear Q r I h8;go_in;go_wp2_with fail;go_loopw [16] (fun Y wr=>∃i:Nat,Y=.int .i64 (i:Nat)/\i<=p/\Hid (bM (aW L) (L.joints.take i) (L.joints.drop i)=x)/\Blk wr w.heap.size 36 #[ae L.name,.slice A n c,.slice B p d,.slice C q e]/\Below w.heap.size w wr) (fun Y _=>p-(intOf Y).toNat)
 case atStart=>exact⟨0,rfl,Nat.zero_le _,J,aj _ _ _ (by simp),(aa w).alloc Qr _⟩
 case round =>
  clear J;obtain⟨i,rfl,hi,J,xL,hb⟩:=hrel;rename World=>wa;rcases Nat.lt_or_ge i p with ac|aT
  ·have ab:((i:Int)<(p:Int))=True:=by simp;omega
   have hL:=h.belw hb;obtain⟨g,o,b,e1,hg,_,M,hB⟩:=hL.joints.at_ ac;subst e1;have s:=dS J.out M;obtain⟨c0,c1,c2,c3,c4,c5,c6,N⟩:=hB;have HL:=Qh hL;have HS:=Qh s;have HN:=Qh N;obtain⟨v,hv⟩:=Z9 (bU b.name);have T:=Qh hv;have be:w.heap.size<wa.heap.size:=xL.lt;clear h hL s N M hv J;go_wp2_with fail;refine(mK _ b.name HN.out v T.out).mono ?_;rintro e' S⟨rfl,H⟩;have q1:=H.q1;have x1:Blk S wa.heap.size 79 #[ae b.name,.int .i64 b.kind,.int .i64 b.a,.int .i64 b.point,.int .i64 b.b,.int .i64 b.on,.int .i64 b.to_]:=(aj _ _ _ (by simp)).below H (by simp);have F:=xL.below q1 xL.lt;have G:=hb.trans (q1.mono hb.size);clear H c0 c1 c2 c3 c4 c5 c6
   have E:∀z:Int,z≠0->(aW L) (L.joints.take i) b=z->x=z:=fun z hz hm=>by
    rcases HS.out with⟨u,_⟩|⟨_,u⟩
    ·exact absurd (hm.symm.trans u) hz
    exact u.symm.trans hm
   cases v
   ·have h5:x=5:=E 5 (by decide) (kZ T.out)
    clear E;go_wp2;go_ret;exact⟨by rw[h5];rfl,G⟩
   have P:=Qh E;clear E;have cL:=F.cell 2;go_wp2_with fail;clear cL;go_loopw [31] (fun jv wr=>∃j:Nat,jv=.int .i64 (j:Nat)/\j<=i/\Hid (twN ((L.joints.take j).map bj.name) b.name=false)/\Below S.heap.size S wr) (fun jv _=>i-(intOf jv).toNat)
   case atStart=>exact⟨0,rfl,Nat.zero_le _,Qh rfl,aa S⟩
   case round =>
    obtain⟨j,rfl,hj,HT,f⟩:=hrel;rename World=>w2;have D:=x1.below f x1.lt;have l:=F.below f F.lt;have t:=G.trans (f.mono G.size);have a1:=D.cell 0;have a9:wa.heap.size<w2.heap.size:=D.lt;have a4:w.heap.size<w2.heap.size:=l.lt;rcases Nat.lt_or_ge j i with V|bl
    ·have ad:((j:Int)<(i:Int))=True:=by simp;omega
     have W:j<p:=by omega
     obtain⟨a,R,hA⟩:=((HL.out.joints.jt q1).jt f).rowAt W;obtain⟨d0,d1,d2,d3,d4,d5,d6,a2⟩:=hA;have a7:g<w2.heap.size:=by have:=f.size;have:=q1.size;omega
     clear a2;have a6:¬wa.heap.size=w2.heap.size:=by omega
     have a5:¬g=w2.heap.size:=by omega
     have bk:=aK b.name;by_cases m:a.name=b.name
     ·have h6:x=6:=P.out 6 (by decide) (by
       show aW L (L.joints.take i) b=6;unfold aW
       rw[T.out,kl (by decide),kZ (eS R V m)])
      rw[m]at d0;have aF:(b.name==b.name)=true:=by simp
      clear m R;go_wp2;go_ret;exact⟨by rw[h6];rfl,t.alloc t.size _⟩
     have bb:=aK a.name;have Z:=Qh (fp R HT.out m);have aF:(a.name==b.name)=false:=it.2 m;clear m R HT;go_wp2_with fail;go_roundw
     case rel=>exact⟨j+1,by go_num,by omega,Z,f.alloc f.size _⟩
     case measure=>simp[intOf];omega
    have ad:((j:Int)<(i:Int))=False:=by simp;omega
    obtain rfl:j=i:=by omega
    clear a1;have a3:=l.cell 0;have ao:=l.cell 1;have an:=l.cell 2;have U:=l.cell 3;have z0:=D.cell 0;have z1:=D.cell 1;have z2:=D.cell 2;have z3:=D.cell 3;have z4:=D.cell 4;have z5:=D.cell 5;have z6:=D.cell 6;obtain⟨y,hy⟩:=Z9 (bC L b)
    have HE:Hid (aW L (L.joints.take j) b=y):=Qh (by
     unfold aW
     rw[T.out,kl (by decide),HT.out,kl (by decide)];exact hy)
    have HY:=Qh hy;clear hy;go_wp2_with fail;refine(Ca _ A n c _ p d C q e L.name b L k ((HL.out.bodies.bd q1).bd f) hk aZ hn y HY.out).mono ?_;rintro e' w3⟨rfl,O⟩;have K:=t.trans (O.mono t.size);have aS:=l.below O l.lt;clear a3 ao an U z0 z1 z2 z3 z4 z5 z6;by_cases hy0:y=0
    ·have a0:Hid (bM (aW L) (L.joints.take (j+1)) (L.joints.drop (j+1))=x):=Qh (by
      rcases HS.out with⟨_,u⟩|⟨u,_⟩
      ·exact u
      exact absurd (HE.out.trans hy0) u)
     subst hy0;rw[show cd 0=.nilIface from kZ rfl];go_wp2_with fail;go_roundw
     case rel=>exact⟨j+1,by go_num,by omega,a0,aS,K⟩
     case measure=>simp[intOf];omega
    have al:x=y:=P.out y hy0 HE.out;rw[show cd y=.iface 49 (.int .i64 y) from kl hy0];go_wp2;go_ret;exact⟨by rw[al,show cd y=.iface 49 (.int .i64 y) from kl hy0];rfl,K⟩
  have ab:((i:Int)<(p:Int))=False:=by simp;omega
  have X:x=0:=fo J.out (by rw[aC.out];exact aT);go_wp2;go_ret;exact⟨by rw[X];rfl,hb⟩
theorem wI(w:World)(A:Option Addr)(n c:Nat)(B:Option Addr)(p d:Nat)(C:Option Addr)(q e:Nat)(L:am)(k:Nat)(h:LkS k w A n c B p d C q e L)(hk:k<=10000000)(bv:0<k)(hn:n<=1000)(x:Int)(hx:(if 2<L.drivers.length then 4 else bM (aG n) [] L.drivers)=x):Calls Tryz.prog 78 #[.agg #[ae L.name,.slice A n c,.slice B p d,.slice C q e]] w (av w (cd x)):=by
 have t:=h.drivers.1;have X:=h.bodies.1;by_cases h8:2<q
 ·have f8:((2:Int)<(q:Int))=True:=xr (by omega)
  have h4:x=4:=by rw[<-hx,kZ (by rw[t];exact h8)]
  clear t X;go_in;go_wp2;go_ret;exact⟨by rw[h4];rfl,(aa w).alloc Qr _⟩
 have f8:((2:Int)<(q:Int))=False:=oK (by omega);have bl:q<=2:=by omega
 rw[kl (by rw[t];exact h8)]at hx;have bu:=h.drivers.2.1;have Y:=Qh (dt hx);have a9:=Qh t;have bg:=Qh X;clear hx t X h8;go_in;go_wp2_with fail;go_loopw [17] (fun iv wr=>∃i:Nat,iv=.int .i64 (i:Nat)/\i<=q/\Hid (bM (aG n) (L.drivers.take i) (L.drivers.drop i)=x)/\Blk wr w.heap.size 36 #[ae L.name,.slice A n c,.slice B p d,.slice C q e]/\Below w.heap.size w wr) (fun iv _=>q-(intOf iv).toNat)
 case atStart=>exact⟨0,rfl,Nat.zero_le _,Y,aj _ _ _ (by simp),(aa w).alloc Qr _⟩
 case round =>
  clear Y;obtain⟨i,rfl,hi,Y,xL,hb⟩:=hrel;rename World=>wa;rcases Nat.lt_or_ge i q with a3|ba
  ·have a2:((i:Int)<(q:Int))=True:=by simp;omega
   have hL:=h.belw hb;obtain⟨g,o,b,e1,hg,_,Z,hB⟩:=hL.drivers.at_ a3;subst e1;have y:=dS Y.out Z;obtain⟨c0,c1,ab⟩:=hB;have HL:=Qh hL;have HS:=Qh y;have HN:=Qh ab;obtain⟨v,hv⟩:=Z9 (bU b.name);have W:=Qh hv;have br:w.heap.size<wa.heap.size:=xL.lt;clear h hL y ab Z hv Y;go_wp2_with fail;refine(mK _ b.name HN.out v W.out).mono ?_;rintro e' w1⟨rfl,V⟩;have q1:=V.q1;have x1:Blk w1 wa.heap.size 81 #[ae b.name,.int .i64 b.body]:=(aj _ _ _ (by simp)).below V (by simp);have N:=xL.below q1 xL.lt;have O:=hb.trans (q1.mono hb.size);clear V c0 c1
   have K:∀z:Int,z≠0->(aG n) (L.drivers.take i) b=z->x=z:=fun z hz hm=>by
    rcases HS.out with⟨u,_⟩|⟨_,u⟩
    ·exact absurd (hm.symm.trans u) hz
    exact u.symm.trans hm
   cases v
   ·have h5:x=5:=K 5 (by decide) (kZ W.out)
    clear K;go_wp2;go_ret;exact⟨by rw[h5];rfl,O⟩
   have M:=Qh K;clear K;have cL:=N.cell 3;go_wp2_with fail;clear cL;go_loopw [32] (fun R wr=>∃j:Nat,R=.int .i64 (j:Nat)/\j<=i/\Hid (twN ((L.drivers.take j).map bD.name) b.name=false)/\Below w1.heap.size w1 wr) (fun R _=>i-(intOf R).toNat)
   case atStart=>exact⟨0,rfl,Nat.zero_le _,Qh rfl,aa w1⟩
   case round =>
    obtain⟨j,rfl,hj,HT,l⟩:=hrel;rename World=>w2;have x2:=x1.below l x1.lt;have H:=N.below l N.lt;have G:=O.trans (l.mono O.size);have bd:=x2.cell 0;have bk:wa.heap.size<w2.heap.size:=x2.lt;have be:w.heap.size<w2.heap.size:=H.lt;rcases Nat.lt_or_ge j i with aS|bz
    ·have a4:((j:Int)<(i:Int))=True:=by simp;omega
     have aT:j<q:=by omega
     obtain⟨a,J,hA⟩:=((HL.out.drivers.dr q1).dr l).rowAt aT;obtain⟨d0,d1,U⟩:=hA;have aC:g<w2.heap.size:=by have:=l.size;have:=q1.size;omega
     clear U;have an:¬wa.heap.size=w2.heap.size:=by omega
     have al:¬g=w2.heap.size:=by omega
     have bw:=aK b.name;by_cases f:a.name=b.name
     ·have h6:x=6:=M.out 6 (by decide) (by
       show aG n (L.drivers.take i) b=6;unfold aG
       rw[W.out,kl (by decide),kZ (eS J aS f)])
      rw[f]at d0;have Q:(b.name==b.name)=true:=by simp
      clear f J;go_wp2;go_ret;exact⟨by rw[h6];rfl,G.alloc G.size _⟩
     have bo:=aK a.name;have a1:=Qh (fp J HT.out f);have Q:(a.name==b.name)=false:=it.2 f;clear f J HT;go_wp2_with fail;go_roundw
     case rel=>exact⟨j+1,by go_num,by omega,a1,l.alloc l.size _⟩
     case measure=>simp[intOf];omega
    have a4:((j:Int)<(i:Int))=False:=by simp;omega
    obtain rfl:j=i:=by omega
    clear bd;have a8:=H.cell 1;have z1:=x2.cell 1;obtain⟨v1,ac⟩:∃v,inI b.body n=v:=⟨_,rfl⟩;have E:=Qh ac;have I:=HT;clear ac;go_wp2_with fail;refine(vX _ b.body n v1 E.out).mono ?_;rintro e' w3⟨rfl,D⟩;have F:=G.trans (D.mono G.size);have S:=H.below D H.lt;have x3:=x2.below D x2.lt;clear a8 z1;cases v1
    ·have h9:x=9:=M.out 9 (by decide) (by
      show aG n (L.drivers.take j) b=9;unfold aG
      rw[W.out,kl (by decide),I.out,kl (by decide),kZ E.out])
     go_wp2;go_ret;exact⟨by rw[h9];rfl,F⟩
    have z1:=x3.cell 1;have aF:=S.cell 3;have bn:wa.heap.size<w3.heap.size:=x3.lt;by_cases s:b.body=0
    ·have e0:(b.body==0)=true:=xm.2 s
     have h7:x=7:=M.out 7 (by decide) (by
      show aG n (L.drivers.take j) b=7;unfold aG
      rw[W.out,kl (by decide),I.out,kl (by decide),E.out,kl (by decide),kZ s])
     clear s;go_wp2;go_ret;exact⟨by rw[h7];rfl,F⟩
    have e0:(b.body==0)=false:=it.2 s;have ad:=Qh s;clear s;go_wp2_with fail;clear z1 aF;go_loopw [60] (fun R wr=>∃r:Nat,R=.int .i64 (r:Nat)/\r<=j/\Hid (((L.drivers.take r).any fun p=>p.body==b.body)=false)/\Below w3.heap.size w3 wr) (fun R _=>j-(intOf R).toNat)
    case atStart=>exact⟨0,rfl,Nat.zero_le _,Qh rfl,aa w3⟩
    case round =>
     obtain⟨r,rfl,hr,HR,m⟩:=hrel;rename World=>w4;have x4:=x3.below m x3.lt;have a6:=S.below m S.lt;have P:=F.trans (m.mono F.size);have z1:=x4.cell 1;have bs:wa.heap.size<w4.heap.size:=x4.lt;rcases Nat.lt_or_ge r j with a7|bx
     ·have aZ:((r:Int)<(j:Int))=True:=by simp;omega
      have ao:r<q:=by omega
      obtain⟨a,J,hA⟩:=((((HL.out.drivers.dr q1).dr l).dr D).dr m).rowAt ao;obtain⟨d0,d1,U⟩:=hA;have aC:g<w4.heap.size:=by have:=m.size;have:=D.size;have:=l.size;have:=q1.size;omega
      clear U;have an:¬wa.heap.size=w4.heap.size:=by omega
      have al:¬g=w4.heap.size:=by omega
      have T:L.drivers.take (r+1)=L.drivers.take r++[a]:=by rw[FV,J];rfl
      by_cases f:a.body=b.body
      ·have h6:x=6:=M.out 6 (by decide) (by
        show aG n (L.drivers.take j) b=6;unfold aG;rw[W.out,kl (by decide),I.out,kl (by decide),E.out,kl (by decide),kl ad.out,kZ];rw[Ha]
        exact⟨a,pk (i:=r) (by rw[Gk,kZ a7];exact J),by simpa using f⟩)
       have Q:(a.body==b.body)=true:=xm.2 f;clear f J T;go_wp2;go_ret;exact⟨by rw[h6];rfl,P.alloc P.size _⟩
      ·have a5:Hid (((L.drivers.take (r+1)).any fun p=>p.body==b.body)=false):=Qh (by
        rw[T,Hu,HR.out]
        simpa using f)
       have Q:(a.body==b.body)=false:=it.2 f;clear f J T HR;go_wp2_with fail;go_roundw
       case rel=>exact⟨r+1,by go_num,by omega,a5,m.alloc m.size _⟩
       case measure=>simp[intOf];omega
     have aZ:((r:Int)<(j:Int))=False:=by simp;omega
     obtain rfl:r=j:=by omega
     have h0:aG n (L.drivers.take r) b=0:=by
      unfold aG;rw[W.out,kl (by decide),I.out,kl (by decide),E.out,kl (by decide),kl ad.out,HR.out];rfl
     have bb:Hid (bM (aG n) (L.drivers.take (r+1)) (L.drivers.drop (r+1))=x):=Qh (by
      rcases HS.out with⟨_,u⟩|⟨u,_⟩
      ·exact u
      exact absurd h0 u)
     clear h0 z1;go_wp2_with fail;go_roundw
     case rel=>exact⟨r+1,by go_num,by omega,bb,a6,P⟩
     case measure=>simp[intOf];omega
  have a2:((i:Int)<(q:Int))=False:=by simp;omega
  have a0:x=0:=fo Y.out (by rw[a9.out];exact ba);go_wp2;go_ret;exact⟨by rw[a0];rfl,hb⟩
theorem eVp{x:Int}(h:x≠0):cd x=.iface 49 (.int .i64 x):=kl h
theorem eV0:cd 0=.nilIface:=kZ rfl
theorem lV(w:World)(A:Option Addr)(n c:Nat)(B:Option Addr)(p d:Nat)(C:Option Addr)(q e:Nat)(L:am)(k:Nat)(h:LkS k w A n c B p d C q e L)(hk:k<=10000000)(D:0<k)(x:Int)(hx:bN L=x):
 Calls Tryz.prog 42 #[.agg #[ae L.name,.slice A n c,.slice B p d,.slice C q e]] w (av w (cd x)):=by
 have J:=h.bodies.1;obtain⟨v,hv⟩:=Z9 (bU L.name);have Z:=Qh hv;have HX:=Qh hx;have HL:=Qh J;have H:=Qh h;clear hv hx J h;go_in;go_wp2_with fail;refine(mK _ L.name H.out.name v Z.out).mono ?_;rintro V w1⟨rfl,u⟩;have q1:=u.q1;have x1:Blk w1 w.heap.size 36 #[ae L.name,.slice A n c,.slice B p d,.slice C q e]:=(aj _ _ _ (by simp)).below u (by simp);clear u;cases v
 ·have h5:x=5:=by rw[<-HX.out];unfold bN;rw[kZ Z.out]
  go_wp2;go_ret;exact⟨by rw[h5];rfl,q1⟩
 have E:x=if n=0 then 10 else if 8<n then 4 else if bM aY [] L.bodies≠0 then bM aY [] L.bodies
  else if 16<L.joints.length then 4 else if bM (aW L) [] L.joints≠0 then bM (aW L) [] L.joints
  else if 2<L.drivers.length then 4 else bM (aG n) [] L.drivers:=by
  rw[<-HX.out];unfold bN;rw[kl (by rw[Z.out];decide),HL.out]
 obtain⟨j,g⟩:∃y,bM aY [] L.bodies=y:=⟨_,rfl⟩;obtain⟨f,i⟩:∃y,(if 16<L.joints.length then (4:Int) else bM (aW L) [] L.joints)=y:=⟨_,rfl⟩;obtain⟨R,m⟩:∃y,(if 2<L.drivers.length then (4:Int) else bM (aG n) [] L.drivers)=y:=⟨_,rfl⟩
 have G:x=if n=0 then 10 else if 8<n then 4 else if j≠0 then j else if f≠0 then f else R:=by
  rw[E,g,<-i,<-m];by_cases a:16<L.joints.length
  ·simp[a]
  simp[a]
 have l:=Qh G;have ab:=Qh g;have T:=Qh i;have X:=Qh m;clear E G g i m;have b:=x1.cell 1;by_cases I:n=0
 ·have e0:((n:Int)==0)=true:=xm.2 (by omega)
  have W:((n:Int)=0)=True:=xr (by omega);have U:x=10:=by rw[l.out,kZ I]
  clear I;go_wp2;go_ret;exact⟨by rw[U];rfl,q1⟩
 have e0:((n:Int)==0)=false:=it.2 (by omega);have W:((n:Int)=0)=False:=oK (by omega);by_cases h8:8<n
 ·have e8:((8:Int)<(n:Int))=True:=xr (by omega)
  have h4:x=4:=by rw[l.out,kl I,kZ h8]
  go_wp2;go_ret;exact⟨by rw[h4];rfl,q1⟩
 have e8:((8:Int)<(n:Int))=False:=oK (by omega);have N:x=if j≠0 then j else if f≠0 then f else R:=by rw[l.out,kl I,kl h8]
 have F:=Qh N;clear N I;go_wp2_with fail;refine(zl _ A n c L.bodies k (H.out.bodies.bd q1) (by omega) (by omega) j ab.out).mono ?_;rintro V w2⟨rfl,M⟩;have q2:=q1.trans (M.mono q1.size);have z:=x1.below M x1.lt;clear b;by_cases h1:j=0
 case neg =>
  have o:x=j:=by rw[F.out,kZ h1]
  rw[eVp h1];go_wp2;go_ret;exact⟨by rw[o,eVp h1];rfl,q2⟩
 have K:x=if f≠0 then f else R:=by rw[F.out,kl (by simp[h1])]
 have P:=Qh K;clear K;subst h1;rw[eV0];have r:=z.cell 0;have b:=z.cell 1;have s:=z.cell 2;have t:=z.cell 3;go_wp2_with fail;refine(zF _ A n c B p d C q e L k (H.out.belw q2) hk D (by omega) f T.out).mono ?_;rintro V w3⟨rfl,O⟩;have q3:=q2.trans (O.mono q2.size);have Q:=z.below O z.lt;clear r b s t;by_cases h2:f=0
 case neg =>
  have o:x=f:=by rw[P.out,kZ h2]
  rw[eVp h2];go_wp2;go_ret;exact⟨by rw[o,eVp h2];rfl,q3⟩
 have S:x=R:=by rw[P.out,kl (by simp[h2])]
 subst S;subst h2;rw[eV0];have r:=Q.cell 0;have b:=Q.cell 1;have s:=Q.cell 2;have t:=Q.cell 3;go_wp2_with fail;refine(wI _ A n c B p d C q e L k (H.out.belw q3) hk D (by omega) x X.out).mono ?_;rintro V w4⟨rfl,Y⟩;have q4:=q3.trans (Y.mono q3.size);clear r b s t;go_wp2;go_ret;exact⟨rfl,q4⟩
/-! Only the block gr has turned. -/
section
variable {w w' w2:World}{gr:Nat}
theorem rg_refl(a:Nat)(w:World):w.grownBy w (some a):=⟨rfl,rfl,rfl,Qr,fun _ _ _=>rfl⟩
theorem aJ(h:w.grownBy w' (some gr))(k:w'.grownBy w2 (some gr)):w.grownBy w2 (some gr) :=
 ⟨k.os.trans h.os,k.tape.trans h.tape,k.output.trans h.output,Nat.le_trans h.size k.size,fun i b a=>(k.block i (Nat.lt_of_lt_of_le b h.size) a).trans (h.block i b a)⟩
theorem rg_set(h:w.grownBy w' (some gr))(i:Nat)(u:Value):w.grownBy (w'.setCell ⟨gr,i,none⟩ u) (some gr) :=
 aJ h ⟨rfl,rfl,rfl,by simp[World.setCell],fun k _ a=>so w' ⟨gr,i,none⟩ u k (fun e=>a (by rw[e]))⟩
theorem du(h:w.grownBy w' (some gr))(k:Below w'.heap.size w' w2):w.grownBy w2 (some gr) :=
 aJ h ⟨k.os,k.tape,k.output,k.size,fun i a _=>k.block i a⟩
theorem bp(h:w.grownBy w' (some gr))(o:Obj):w.grownBy (w'.alloc o) (some gr):=du h ((kz _ _).alloc Qr o)
theorem Cb(h:w.grownBy w' (some gr)):w.grownBy w'.drew (some gr):=⟨h.os,h.tape,h.output,h.size,h.block⟩
theorem ix{B:Nat}(h:w.grownBy w' (some gr))(hB:B<=w.heap.size)(a:B<=gr):Below B w w':=(kz B w).grown h hB (fun k e=>by injection e with e;omega)
theorem bX{g t:Nat}{cs:Array Value}(h:w.grownBy w' (some gr))(x:Blk w g t cs)(a:g≠gr):Blk w' g t cs:=(h.block g x.lt (fun e=>a (by injection e))).trans x
theorem uC{g t:Nat}{cs:Array Value}(h:w.grownBy w' (some gr))(x:w.heap[g]?=some (.cells cs t (0,0)))(a:g≠gr):w'.heap[g]?=some (.cells cs t (0,0)):=(h.block g (Gi x) (fun e=>a (by injection e))).trans x
end
def TkA(B:Nat)(w:World)(A:Option Addr)(n c:Nat)(l:List Tkn):Prop:=l.length=n/\n<=c/\(0<n->∃g o,A=some ⟨g,o,none⟩/\g<B/\∀i v,(de l)[i]?=some v->w.cell? ⟨g,o+i,none⟩=some v)
def MxA(B:Nat)(w:World):Prop:=0<B/\Mx w
section
variable {B:Nat}{w w':World}{A:Option Addr}{n c gr:Nat}{l:List Tkn}
theorem TkA.rg(h:TkA B w A n c l)(hB:B<=gr)(k:w.grownBy w' (some gr)):TkA B w' A n c l:=by
 refine⟨h.1,h.2.1,fun f=>?_⟩;obtain⟨g,o,e,b,d⟩:=h.2.2 f;exact⟨g,o,e,b,fun i v a=>k.cell (d i v a) (fun e=>by injection e with e;simp only at e;omega)⟩
theorem TkA.belB(h:TkA B w A n c l)(k:Below B w w'):TkA B w' A n c l:=by
 refine⟨h.1,h.2.1,fun f=>?_⟩;obtain⟨g,o,e,a,d⟩:=h.2.2 f;exact⟨g,o,e,a,fun i v b=>(k.cell (p:=⟨g,o+i,none⟩) a).trans (d i v b)⟩
theorem TkA.of_tks(h:TkS w A n c l):TkA w.heap.size w A n c l:=by
 refine⟨h.1,?_,fun m=>?_⟩
 ·rcases h.2 with⟨a,_,k⟩|⟨g,_,a,_⟩
  ·omega
  exact a
 rcases h.2 with⟨a,_,k⟩|⟨g,e,a,d⟩
 ·omega
 have b:0<(de l).length:=by rw[vS,h.1];omega
 have j:(de l)[0]?=some ((de l)[0]' b):=sx b;exact⟨g,0,e,Ga w ⟨g,0,none⟩ (d 0 _ j),fun i v f=>by rw[Nat.zero_add];exact d i v f⟩
theorem TkA.head{t:Tkn}(h:TkA B w A n c (t::l)):∃g o,A=some ⟨g,o,none⟩/\g<B/\w.cell? ⟨g,o,none⟩=some (.int .i64 (t.kind:Nat))/\w.cell? ⟨g,o+1,none⟩=some (ae t.text)/\w.cell? ⟨g,o+2,none⟩=some (.int .i64 (t.line:Nat))/\w.cell? ⟨g,o+3,none⟩=some (.int .i64 (t.col:Nat)):=by
 obtain⟨g,o,e,b,a⟩:=h.2.2 (by rw[<-h.1];simp);exact⟨g,o,e,b,a 0 _ rfl,a 1 _ rfl,a 2 _ rfl,a 3 _ rfl⟩
theorem TkA.tail{t:Tkn}{f:Option Addr}{d j:Nat}(h:TkA B w A n c (t::l))(k:f=if c=1 then A else A.map (·.add 4))(m:d=n-1)(a:j=c-1):TkA B w f d j l:=by
 subst m a;have s:l.length+1=n:=by rw[<-h.1];simp
 refine⟨by omega,by have:=h.2.1;omega,fun m=>?_⟩;obtain⟨g,o,e,r,a⟩:=h.2.2 (by omega);have b:¬c=1:=by have:=h.2.1;omega
 rw[kl b,e]at k;refine⟨g,o+4,k,r,fun i v p=>?_⟩
 have q:(de (t::l))[i+4]?=some v:=by
  have:de (t::l)=nL t++de l:=rfl;rw[this,xE (by simp[nL])];simpa[nL]using p
 have:=a _ _ q;rwa[show o+(i+4)=o+4+i by omega]at this
theorem MxA.rg(h:MxA B w)(hB:B<=gr)(k:w.grownBy w' (some gr)):MxA B w':=by
 obtain⟨a,m,b⟩:=h;exact⟨a,m,k.cell b (fun e=>by injection e with e;simp only at e;omega)⟩
theorem MxA.belB(h:MxA B w)(k:Below B w w'):MxA B w':=by
 obtain⟨a,m,b⟩:=h;exact⟨a,m,(k.cell (p:=⟨_,0,none⟩) a).trans b⟩
theorem MxA.out(h:MxA B w):Mx w:=h.2
theorem MxA.of_mx(h:Mx w):MxA w.heap.size w:=by
 obtain⟨m,a⟩:=h;exact⟨Ga w ⟨_,0,none⟩ a,m,a⟩
end
structure RdP (B:Nat) (w:World) (gr:Nat) (c1 c2 c3 c4:Value) (s:PS):Prop where
  blk:∃A n c,Blk w gr 87 #[.slice A n c,c1,c2,c3,c4,cd s.x]/\TkA B w A n c s.toks
  mx:MxA B w
  hB:B<=gr
  len:s.toks.length<=65536
  txt:∀t∈s.toks,NmL t.text
  hw:noW c1=true/\noW c2=true/\noW c3=true/\noW c4=true
def tu(B:Nat)(w:World)(gr:Nat)(c1 c2 c3 c4:Value)(v:Value)(s:PS)(e:Ending)(w':World):Prop:=e=.returned v/\RdP B w' gr c1 c2 c3 c4 s/\w.grownBy w' (some gr)
section
variable {B:Nat}{w w':World}{gr:Nat}{c1 c2 c3 c4:Value}{s:PS}
theorem RdP.lt(h:RdP B w gr c1 c2 c3 c4 s):gr<w.heap.size:=by obtain⟨A,n,c,hb,_⟩:=h.blk;exact hb.lt
theorem RdP.bel1(h:RdP B w gr c1 c2 c3 c4 s)(k:Below (gr+1) w w'):RdP B w' gr c1 c2 c3 c4 s:=by
 obtain⟨A,n,c,hb,b⟩:=h.blk;have hB:=h.hB;have a:Below B w w':=k.mono (by omega);exact⟨⟨A,n,c,hb.below k (by omega),b.belB a⟩,h.mx.belB a,h.hB,h.len,h.txt,h.hw⟩
theorem RdP.belw(h:RdP B w gr c1 c2 c3 c4 s)(k:Below w.heap.size w w'):RdP B w' gr c1 c2 c3 c4 s:=by
 obtain⟨A,n,c,hb,d⟩:=h.blk;have a:=hb.lt;have hB:=h.hB;have b:Below B w w':=k.mono (by omega);exact⟨⟨A,n,c,hb.below k a,d.belB b⟩,h.mx.belB b,h.hB,h.len,h.txt,h.hw⟩
theorem RdP.alloc(h:RdP B w gr c1 c2 c3 c4 s)(o:Obj):RdP B (w.alloc o) gr c1 c2 c3 c4 s:=h.belw ((kz _ _).alloc Qr o)
theorem RdP.far(h:RdP B w gr c1 c2 c3 c4 s){p:Addr}(d:gr<p.block)(u:Value):RdP B (w.setCell p u) gr c1 c2 c3 c4 s:=by
 obtain⟨A,n,c,hb,b⟩:=h.blk;have hB:=h.hB;have a:Below B w (w.setCell p u):=(kz B w).setCell (by omega) u;exact⟨⟨A,n,c,hb.far (by omega) u,b.belB a⟩,h.mx.belB a,h.hB,h.len,h.txt,h.hw⟩
theorem dI{b:World}(h:w.grownBy w' (some gr))(k:Below w.heap.size w' b):w.grownBy b (some gr) :=
 ⟨k.os.trans h.os,k.tape.trans h.tape,k.output.trans h.output,Nat.le_trans h.size k.size,fun i c a=>(k.block i c).trans (h.block i c a)⟩
theorem bc.rg{α:Type}{b:TypeId}{Pc:World->List Value->α->Prop}{sz base n:Nat}{v:Value}{l:List α}(h:bc b Pc sz w base v n l)(d:gr<base)(k:w.grownBy w' (some gr))(c:∀cs a,Pc w cs a->Pc w' cs a):bc b Pc sz w' base v n l :=
 h.same (fun g _ i f=>uC k f (by omega)) c
theorem Cc(x:Int):noW (cd x)=true:=by unfold cd;split<;>rfl
theorem RdP.tch{T:TypeId->Bool}(h:RdP B w gr c1 c2 c3 c4 s)(k:w.grownBy w' (some gr))(j:T 87=true):Tch T w w':=by
 obtain⟨A,n,c,hb,_⟩:=h.blk;obtain⟨l,d,f,i⟩:=h.hw;refine Tch.of_ne k.size hb j ?_ fun g a b=>k.block g a (fun e=>b (by injection e))
 simp only[Gd,List.all_nil,l,d,f,i,Cc,Bool.and_true];rfl
end
def TA:TypeId->Bool:=fun _=>true
theorem fR{w:World}{g t:Nat}{cs:Array Value}(z:Blk w g t cs)(f:cs.toList.all noW=true)(i j k:Nat)(c d b:Value):Tch TA w (((w.setCell ⟨g,i,none⟩ c).setCell ⟨g,j,none⟩ d).setCell ⟨g,k,none⟩ b) :=
 Tch.of_ne (by simp[World.setCell]) z rfl f fun g' _ a=>by
  rw[so _ _ _ _ a,so _ _ _ _ a,so _ _ _ _ a]
theorem cQ{B g:Nat}(w:World)(hB:B<=g)(i j k:Nat)(b c a:Value):Below B w (((w.setCell ⟨g,i,none⟩ b).setCell ⟨g,j,none⟩ c).setCell ⟨g,k,none⟩ a) :=
 (((kz B w).setCell (p:=⟨g,i,none⟩) hB b).setCell (p:=⟨g,j,none⟩) hB c).setCell (p:=⟨g,k,none⟩) hB a
theorem cZ{w b:World}{c:Nat}(h:w.grownBy b (some c)){p:Addr}(f:w.heap.size<=p.block)(u:Value):w.grownBy (b.setCell p u) (some c) :=
 ⟨h.os,h.tape,h.output,by simp[World.setCell,h.size],fun k d a=>(so b p u k (by omega)).trans (h.block k d a)⟩
def mOf(gr:Nat)(w:World):Nat:=(match w.cell? ⟨gr,0,none⟩ with|some (.slice _ n _)=>2*n|_=>0)+(match w.cell? ⟨gr,5,none⟩ with|some .nilIface=>1|_=>0)
theorem RdP.meas{B:Nat}{w:World}{a:Nat}{c1 c2 c3 c4:Value}{s:PS}(h:RdP B w a c1 c2 c3 c4 s):mOf a w=2*s.toks.length+if s.x=0 then 1 else 0:=by
 obtain⟨A,n,c,hb,b⟩:=h.blk;unfold mOf;rw[hb.cell 0,hb.cell 5];show 2*n+(match some (cd s.x) with|some .nilIface=>1|_=>0)=_;rw[b.1];by_cases hx:s.x=0
 ·rw[kZ hx,hx,dn]
 rw[kl hx,eVp hx]
theorem uD:(Tryz.prog.info? 67).map (fun i=>(i.zero,i.size,i.bytes))=some (some (.agg #[.string ⟨#[]⟩,.bool false,.slice none 0 0,.slice none 0 0,.bool false,.slice none 0 0,.slice none 0 0]),7,128):=by kernel_rfl
theorem uE:(Tryz.prog.info? 62).map (fun i=>(i.zero,i.size,i.bytes))=some (some (.agg #[.string ⟨#[]⟩,.slice none 0 0]),2,40):=by kernel_rfl
theorem uF:(Tryz.prog.info? 79).map (fun i=>(i.zero,i.size,i.bytes))=some (some (.agg #[.string ⟨#[]⟩,.int .i64 0,.int .i64 0,.int .i64 0,.int .i64 0,.int .i64 0,.int .i64 0]),7,64):=by kernel_rfl
theorem uG:(Tryz.prog.info? 81).map (fun i=>(i.zero,i.size,i.bytes))=some (some (.agg #[.string ⟨#[]⟩,.int .i64 0]),2,24):=by kernel_rfl
section
variable {w:World}{g t:Nat}{a0 a1 a2 a3 a4 a5:Value}
theorem Blk.s60(h:Blk w g t #[a0,a1,a2,a3,a4,a5])(u:Value):Blk (w.setCell ⟨g,0,none⟩ u) g t #[u,a1,a2,a3,a4,a5]:=h.set_ 0 u
theorem Blk.s61(h:Blk w g t #[a0,a1,a2,a3,a4,a5])(u:Value):Blk (w.setCell ⟨g,1,none⟩ u) g t #[a0,u,a2,a3,a4,a5]:=h.set_ 1 u
theorem Blk.s62(h:Blk w g t #[a0,a1,a2,a3,a4,a5])(u:Value):Blk (w.setCell ⟨g,2,none⟩ u) g t #[a0,a1,u,a3,a4,a5]:=h.set_ 2 u
theorem Blk.s63(h:Blk w g t #[a0,a1,a2,a3,a4,a5])(u:Value):Blk (w.setCell ⟨g,3,none⟩ u) g t #[a0,a1,a2,u,a4,a5]:=h.set_ 3 u
theorem Blk.s64(h:Blk w g t #[a0,a1,a2,a3,a4,a5])(u:Value):Blk (w.setCell ⟨g,4,none⟩ u) g t #[a0,a1,a2,a3,u,a5]:=h.set_ 4 u
theorem Blk.s65(h:Blk w g t #[a0,a1,a2,a3,a4,a5])(u:Value):Blk (w.setCell ⟨g,5,none⟩ u) g t #[a0,a1,a2,a3,a4,u]:=h.set_ 5 u
end
theorem lu{s a:PS}{k:Nat}{t:List UInt8}(h:s.next k=(some t,a)):a=s/\s.x=0/\∃t0 r,s.toks=t0::r/\t0.kind=k/\t0.text=t:=by
 unfold PS.next at h;split at h
 ·cases h
 rename_i c;split at h
 ·cases h
 rename_i t0 r e;split at h
 ·rename_i b
  injection h with h1 h2;injection h1 with h1;exact⟨h2.symm,by simpa using c,t0,r,e,b,h1⟩
 cases h
theorem gl(w:World)(a:Nat)(c0 c1 c2 c3 c4:Value)(x e:Int)(hb:Blk w a 87 #[c0,c1,c2,c3,c4,cd x])(i:e≠0):Calls Tryz.prog 71 #[.pointer (some ⟨a,0,none⟩),.iface 49 (.int .i64 e)] w (fun h f=>h=.returned (.tuple #[])/\Blk f a 87 #[c0,c1,c2,c3,c4,cd (if x=0 then e else x)]/\w.grownBy f (some a)):=by
 have g:=hb.lt;have j:=hb.frozen 5;have d:=eVp i;by_cases hx:x=0
 ·subst hx
  have b:=Qh hb;obtain⟨_,_,_,_,_,c⟩:=hb.c6;rw[dn]at c;rw[kZ rfl,d];clear hb d;go_in;go_wp2_with fail;go_end0;exact⟨rfl,b.out.s65 _,rg_set (rg_refl _ _) _ _⟩
 rw[kl hx];have b:=Qh hb;obtain⟨_,_,_,_,_,c⟩:=hb.c6;rw[eVp hx]at c;clear hb d;go_in;go_wp2_with fail;go_end0;exact⟨rfl,b.out,rg_refl _ _⟩
theorem pU(B:Nat)(w:World)(l:Nat)(c1 c2 c3 c4:Value)(s:PS)(h:RdP B w l c1 c2 c3 c4 s)(k:Nat)(z:Int)(K:z=(k:Int)):Calls Tryz.prog 70 #[.pointer (some ⟨l,0,none⟩),.int .i64 z] w (tu B w l c1 c2 c3 c4 (.tuple #[ae ((s.next k).1.getD []),.bool (s.next k).1.isSome]) (s.next k).2):=by
 subst K;have H:=Qh h;obtain⟨toks,L,x⟩:=s;obtain⟨A,n,c,hb,q⟩:=h.blk;have p:=h.mx;have hB:=h.hB;have d:=h.len;have hw:=h.hw;have f:=h.txt;simp only at hb q d f;have F:=Qh hb;have D:=Qh q;have E:=Qh p;have u:=q.1;obtain⟨S,_,_,_,_,G⟩:=hb.c6;clear hb q p h;by_cases hx:x=0
 ·subst hx
  rw[dn]at G
  cases toks with
  |nil =>
   have e:PS.next ⟨[],L,0⟩ k=(none,⟨[],L,18⟩):=rfl;rw[e];subst u;go_in;go_wp2_with fail;refine(gl _ l (.slice A 0 c) c1 c2 c3 c4 0 18 F.out (by decide)).mono ?_;rintro e I⟨rfl,a,b⟩;rw[kZ rfl]at a;have j:=Qh a;clear a;go_wp2_with fail;refine zr1 (.tuple #[ae [],.bool false]) ?_;exact⟨rfl,⟨⟨A,0,c,j.out,D.out.rg hB b⟩,E.out.rg hB b,hB,d,f,hw⟩,b⟩
  |cons t r =>
   have J:0<n:=by rw[<-u];simp
   obtain⟨g,o,e,P,R,Q,N,O⟩:=D.out.head;subst e;have M:(0:Int)<(n:Int):=by omega
   by_cases m:t.kind=k
   ·have e:PS.next ⟨t::r,L,0⟩ k=(some t.text,⟨t::r,L,0⟩):=by unfold PS.next;rw[kl (by simp)];simp[m]
    rw[e];have C:((t.kind:Int)==(k:Int))=true:=by simp[m]
    have y:((n:Int)==0)=false:=it.2 (by omega);clear u m;go_in;go_wp2_with fail;refine zr1 (.tuple #[ae t.text,.bool true]) ?_;exact⟨rfl,H.out.alloc _,bp (rg_refl _ _) _⟩
   have e:PS.next ⟨t::r,L,0⟩ k=(none,⟨t::r,L,2⟩):=by unfold PS.next;rw[kl (by simp)];simp[m]
   rw[e];have C:((t.kind:Int)==(k:Int))=false:=it.2 (by omega);have y:((n:Int)==0)=false:=it.2 (by omega);clear u m;go_in;go_wp2_with fail;refine(gl _ l (.slice (some ⟨g,o,none⟩) n c) c1 c2 c3 c4 0 2 (F.out.alloc _) (by decide)).mono ?_;rintro e I⟨rfl,a,b⟩;rw[kZ rfl]at a;have j:=Qh a;have i:=aJ (bp (rg_refl l w) _) b;clear a b;go_wp2_with fail;refine zr1 (.tuple #[ae [],.bool false]) ?_;exact⟨rfl,⟨⟨_,n,c,j.out,D.out.rg hB i⟩,E.out.rg hB i,hB,d,f,hw⟩,i⟩
 have e:PS.next ⟨toks,L,x⟩ k=(none,⟨toks,L,x⟩):=kZ hx;rw[e];rw[eVp hx]at G;go_in;go_wp2_with fail;refine zr1 (.tuple #[ae [],.bool false]) ?_;exact⟨rfl,H.out,rg_refl _ _⟩
theorem RdP.drop{B:Nat}{w:World}{b n c d f:Nat}{A g:Option Addr}{c1 c2 c3 c4:Value}{s:PS}{t0:Tkn}{r:List Tkn}(h:RdP B w b c1 c2 c3 c4 s)(e:s.toks=t0::r)
 (hb:Blk w b 87 #[.slice A n c,c1,c2,c3,c4,cd s.x]) (a:TkA B w A n c s.toks) (m:g=if c=1 then A else A.map (·.add 4)) (k:d=n-1) (l:f=c-1):RdP B (w.setCell ⟨b,0,none⟩ (.slice g d f)) b c1 c2 c3 c4 s.drop1:=by
 have j:=rg_set (rg_refl b w) 0 (.slice g d f);have i:s.drop1.toks=r:=by unfold PS.drop1;rw[e];rfl
 rw[e]at a;exact⟨⟨g,d,f,hb.s60 _,by rw[i];exact(a.tail m k l).rg h.hB j⟩,h.mx.rg h.hB j,h.hB,by rw[i];have:=h.len;rw[e]at this;simp at this;omega,fun t a=>h.txt t (by rw[e];rw[i]at a;exact List.mem_cons_of_mem _ a),h.hw⟩
theorem eU(B:Nat)(w:World)(f:Nat)(c1 c2 c3 c4:Value)(s:PS)(h:RdP B w f c1 c2 c3 c4 s):Calls Tryz.prog 38 #[.pointer (some ⟨f,0,none⟩)] w (tu B w f c1 c2 c3 c4 (ae s.word.1) s.word.2):=by
 have x:=Qh h;obtain⟨W,a⟩:=Z9 (s.word);rw[a];have l:=Qh a;clear h a;go_in;go_wp2_with fail;refine(pU B _ f c1 c2 c3 c4 s x.out 0 0 rfl).mono ?_;rintro e z⟨rfl,b,d⟩;have a:=l.out;unfold PS.word at a;generalize i:s.next 0=q at b a;obtain⟨o,m⟩:=q
 cases o with
 |none =>
  simp only[Il,Ie]at b a⊢;subst a;have k:=Qh b;clear i b l;go_wp2;go_ret;exact⟨rfl,k.out,d⟩
 |some t =>
  simp only[Hl,Ig]at b a⊢;subst a;obtain⟨e,u,t0,r,j,_,_⟩:=lu i;obtain⟨A,n,c,hb,g⟩:=b.blk;have D:(1:Int)<=(n:Int):=by have:=g.1;rw[e,j]at this;simp at this;omega
  have C:=hb.frozen 0;obtain⟨E,_,_,_,_,_⟩:=hb.c6;have k:=Qh b;have p:=Qh hb;have y:=Qh g;have v:=Qh (show m.toks=t0::r by rw[e,j]);clear b hb g i e j u l;go_wp2_with fail
  all_goals
   go_ret;exact⟨rfl,k.out.drop v.out p.out y.out (by simp[Addr.add, *]) rfl (by omega),rg_set d _ _⟩
theorem oU(B:Nat)(w:World)(m:Nat)(c1 c2 c3 c4:Value)(s:PS)(h:RdP B w m c1 c2 c3 c4 s)(k:Nat)(z:Int)(F:z=(k:Int))(text:List UInt8):Calls Tryz.prog 37 #[.pointer (some ⟨m,0,none⟩),.int .i64 z,ae text] w (tu B w m c1 c2 c3 c4 (.tuple #[]) (s.expect k text)):=by
 have P:=Qh h;have N:=Qh F;obtain⟨W,a⟩:=Z9 (s.expect k text);rw[a];have D:=Qh a;clear h F a;go_in;go_wp2_with fail;refine(pU B _ m c1 c2 c3 c4 s P.out k z N.out).mono ?_;rintro e Q⟨rfl,f,g⟩;have a:=D.out;unfold PS.expect at a;generalize v:s.next k=q at f a;obtain⟨o,l⟩:=q
 cases o with
 |none =>
  simp only[Il,Ie]at f a⊢;subst a;have d:=Qh f;clear v f D;go_wp2_with fail;go_end0;exact⟨rfl,d.out,g⟩
 |some t =>
  simp only[Hl,Ig]at f a⊢;obtain⟨e,G,t0,r,y,_,_⟩:=lu v;have L:=aK t;have M:=aK text;obtain⟨A,n,c,hb,p⟩:=f.blk;have S:(1:Int)<=(n:Int):=by have:=p.1;rw[e,y]at this;simp at this;omega
  have R:=hb.frozen 0;obtain⟨T,_,_,_,_,J⟩:=hb.c6;have d:=Qh f;have E:=Qh hb;have I:=Qh p;have O:=Qh (show l.toks=t0::r by rw[e,y]);have H:=Qh (show l.x=0 by rw[e];exact G);clear f hb p v e y G J D;by_cases b:t=text
  ·rw[kZ b]at a
   subst a;subst b;have u:(t==t)=true:=by simp
   go_wp2_with fail
   all_goals
    go_end0;exact⟨rfl,d.out.drop O.out E.out I.out (by simp[Addr.add, *]) rfl (by omega),rg_set g _ _⟩
  rw[kl b]at a;have K:l.fail 2={ l with x:=2 }:=kZ H.out;rw[K]at a;subst a;have u:(t==text)=false:=it.2 b;clear b;go_wp2_with fail;refine(gl _ m (.slice A n c) c1 c2 c3 c4 l.x 2 E.out (by decide)).mono ?_;rintro e U⟨rfl,j,i⟩;rw[kZ H.out]at j;have C:=Qh j;clear j;go_wp2_with fail;go_end0;exact⟨rfl,⟨⟨A,n,c,C.out,I.out.rg d.out.hB i⟩,d.out.mx.rg d.out.hB i,d.out.hB,d.out.len,d.out.txt,d.out.hw⟩,aJ g i⟩
theorem fF(B:Nat)(w:World)(a:Nat)(c1 c2 c3 c4:Value)(s:PS)(h:RdP B w a c1 c2 c3 c4 s)(text:List UInt8):Calls Tryz.prog 39 #[.pointer (some ⟨a,0,none⟩),ae text] w (tu B w a c1 c2 c3 c4 (.tuple #[]) (s.expect 2 text)):=by
 have f:=Qh h;clear h;go_in;go_wp2_with fail;refine(oU B _ a c1 c2 c3 c4 s f.out 2 2 rfl text).mono ?_;rintro e g⟨rfl,c,b⟩;have d:=Qh c;clear c;go_wp2_with fail;go_end0;exact⟨rfl,d.out,b⟩
theorem uH(B:Nat)(w:World)(f:Nat)(c1 c2 c3 c4:Value)(s:PS)(h:RdP B w f c1 c2 c3 c4 s)(v:Bool)(j:decide (s.x=0/\s.toks≠[])=v):Calls Tryz.prog 40 #[.pointer (some ⟨f,0,none⟩)] w (tu B w f c1 c2 c3 c4 (.bool v) s):=by
 have g:=Qh h;subst j;obtain⟨A,n,c,hb,a⟩:=h.blk;have d:=a.1;obtain⟨l,_,_,_,_,i⟩:=hb.c6;clear hb a h;by_cases hx:s.x=0
 ·rw[hx,dn]at i
  by_cases a:s.toks=[]
  ·have e:decide (s.x=0/\s.toks≠[])=false:=by simp[a]
   rw[e];have b:n=0:=by rw[<-d,a];rfl
   subst b;clear d;go_in;go_wp2;go_ret;exact⟨rfl,g.out,rg_refl _ _⟩
  have e:decide (s.x=0/\s.toks≠[])=true:=by simp[a,hx]
  rw[e];have k:0<s.toks.length:=FW.2 a;have b:(0<n)=True:=xr (by omega);clear d;go_in;go_wp2;go_ret;exact⟨rfl,g.out,rg_refl _ _⟩
 have e:decide (s.x=0/\s.toks≠[])=false:=by simp[hx]
 rw[e];rw[eVp hx]at i;go_in;go_wp2;go_ret;exact⟨rfl,g.out,rg_refl _ _⟩
def FN(B:Nat)(w:World)(gr:Nat)(c1 c2 c3 c4:Value)(q:Rat)(s:PS)(e:Ending)(w':World):Prop :=
  ∃b A n c D m e',e=.returned (.agg #[.bool b,.slice A n c,.slice D m e'])/\QV w' b A n c D m e' q 130/\RdP B w' gr c1 c2 c3 c4 s/\w.grownBy w' (some gr)
theorem uI(w:World)(k:Nat):QV w false none 0 0 none 0 0 0 k:=by
 unfold QV;rw[tN];exact⟨rfl,Wd.nil_ w,Wd.nil_ w,Nat.zero_le _,Nat.zero_le _⟩
theorem QD.alloc_{w:World}{b:Bool}{A D:Option Addr}{n c m e k:Nat}{r:RD}(h:QD w b A n c D m e r k)(o:Obj):QD (w.alloc o) b A n c D m e r k:=h.belw ((kz _ _).alloc Qr o)
theorem m0{B:Nat}{w:World}{a z n c d f:Nat}{A g:Option Addr}{c1 c2 c3 c4:Value}{s:PS}{t0:Tkn}{r:List Tkn}(h:RdP B w a c1 c2 c3 c4 s)(e:s.toks=t0::r)
 (hb:Blk w a 87 #[.slice A n c,c1,c2,c3,c4,cd s.x]) (C:TkA B w A n c s.toks) (F:g=if c=1 then A else A.map (·.add 4)) (J:d=n-1) (K:f=c-1)
 (H:a<z) (Z:Blk w z 65 #[.bool false,.slice none 0 0,.slice none 0 0]) {b:Bool}{y u:Option Addr}{t m p v k:Nat}{q:RD}(D:QD w b y t m u p v q k) (j l i:Value) (o:Obj) :
 QD (((((w.setCell ⟨a,0,none⟩ (.slice g d f)).setCell ⟨z,0,none⟩ j).setCell ⟨z,1,none⟩ l).setCell ⟨z,2,none⟩ i).alloc o) b y t m u p v q k /\
 RdP B (((((w.setCell ⟨a,0,none⟩ (.slice g d f)).setCell ⟨z,0,none⟩ j).setCell ⟨z,1,none⟩ l).setCell ⟨z,2,none⟩ i).alloc o) a c1 c2 c3 c4 s.drop1:=by
 have E:=h.drop e hb C F J K;have I:Tch TA w (w.setCell ⟨a,0,none⟩ (.slice g d f)):=h.tch (rg_set (rg_refl a w) 0 _) rfl;have G:Blk (w.setCell ⟨a,0,none⟩ (.slice g d f)) z 65 #[.bool false,.slice none 0 0,.slice none 0 0]:=Z.far (by show z≠a;omega) _;exact⟨((D.tch I).tch (fR G rfl 0 1 2 j l i)).alloc_ o,(E.bel1 (cQ _ H 0 1 2 j l i)).alloc o⟩
theorem jN(B:Nat)(w:World)(d:Nat)(c1 c2 c3 c4:Value)(s:PS)(h:RdP B w d c1 c2 c3 c4 s):Calls Tryz.prog 111 #[.pointer (some ⟨d,0,none⟩)] w (FN B w d c1 c2 c3 c4 s.number.1 s.number.2):=by
 have HP:=Qh h;have b:=h.lt;obtain⟨W,a⟩:=Z9 (s.number);rw[a];have S:=Qh a;clear h a;go_in;go_wp2_with fail;refine(pU B _ d c1 c2 c3 c4 s (HP.out.alloc _) 1 1 rfl).mono ?_;rintro e w1⟨rfl,i,j⟩;have z1:Blk w1 w.heap.size 65 #[.bool false,.slice none 0 0,.slice none 0 0]:=bX j (Blk.new _ _ _) (by omega);have O:w.grownBy w1 (some d):=aJ (bp (rg_refl d w) _) j;clear j;have N:=z1.lt;have a:=S.out;unfold PS.number at a;generalize P:s.next 1=q at i a;obtain⟨o,m⟩:=q
 cases o with
 |none =>
  simp only[Il,Ie]at i a⊢;subst a;obtain⟨z,y,p⟩:=z1.c3;obtain⟨u,H,I⟩:=z1.f3;have C:=Qh i;have R:=Qh z1;clear P i z1 S;go_wp2_with fail;refine zr1 (.agg #[.bool false,.slice none 0 0,.slice none 0 0]) ?_;exact⟨_,_,_,_,_,_,_,rfl,uI _ _,((C.out.far b _).far b _).far b _,cZ (cZ (cZ O Qr _) Qr _) Qr _⟩
 |some t =>
  simp only[Hl,Ig]at i a⊢;obtain⟨e,hx,t0,r,et,_,_⟩:=lu P;have T:=Qh (val_out t);generalize valX t=x at T a;generalize valQ t=qv at T a;have U:=Qh (show m.toks=t0::r by rw[e,et]);have HX:=Qh (show m.x=0 by rw[e];exact hx);have C:=Qh i;have R:=Qh z1;have g:=Qh a;clear i P e et hx z1 a S;go_wp2_with fail;refine(wG _ t x qv C.out.mx.out T.out).mono ?_;rintro e V⟨b2,A2,n2,d2,D2,m2,M,rfl,X,f⟩;have G2:=du O f;have z2:=R.out.below f N;have G:=C.out.belw f;have al:=f.size;clear f O;have an:=G.lt;have Z:=z2.lt;have l:=Qh G;have D:=Qh z2;have F:=Qh X;obtain⟨A,n,c,hb,Y⟩:=G.blk;have hB:=G.hB;have Q:=Qh hb;have J:=Qh Y;clear R C G z2 X Y;by_cases hx0:x=0
  ·have a:=g.out
   rw[kl (by simp[hx0])]at a;subst a hx0;rw[dn];have hn:(1:Int)<=(n:Int):=by have:=J.out.1;rw[U.out]at this;simp at this;omega
   have f0:=hb.frozen 0;obtain⟨a0,_,_,_,_,_⟩:=hb.c6;obtain⟨z,y,p⟩:=D.out.c3;obtain⟨u,H,I⟩:=D.out.f3;clear hb g;have ad:¬d=V.heap.size:=by omega
   have ac:¬w.heap.size=V.heap.size:=by omega
   have ab:¬d=w.heap.size:=by omega
   go_wp2_with fail
   all_goals
    refine zr1 (.agg #[.bool b2,.slice A2 n2 d2,.slice D2 m2 M]) ?_;exact⟨_,_,_,_,_,_,_,rfl,(m0 l.out U.out Q.out J.out (by simp[Addr.add, *]) rfl (by omega) b D.out F.out _ _ _ _).1,(m0 l.out U.out Q.out J.out (by simp[Addr.add, *]) rfl (by omega) b D.out F.out _ _ _ _).2,bp (cZ (cZ (cZ (rg_set G2 _ _) Qr _) Qr _) Qr _) _⟩
  have a:=g.out;rw[kZ hx0]at a;subst a;rw[eVp hx0];clear hb g;go_wp2_with fail;refine(gl _ d (.slice A n c) c1 c2 c3 c4 m.x x (Q.out.alloc _) hx0).mono ?_;rintro e w3⟨rfl,k,E⟩;rw[kZ HX.out]at k;have K:=aJ (bp (rg_refl d V) _) E;have z3:=bX K D.out (by omega);obtain⟨z,y,p⟩:=z3.c3;obtain⟨u,H,I⟩:=z3.f3;have L:=Qh k;have ao:=z3.lt;clear k E z3;go_wp2_with fail;refine zr1 (.agg #[.bool false,.slice none 0 0,.slice none 0 0]) ?_;have M:m.fail x={ m with x:=x }:=kZ HX.out;rw[M];have R3:RdP B w3 d c1 c2 c3 c4 { m with x:=x }:=⟨⟨A,n,c,L.out,J.out.rg hB K⟩,l.out.mx.rg hB K,hB,l.out.len,l.out.txt,l.out.hw⟩;exact⟨_,_,_,_,_,_,_,rfl,uI _ _,((R3.far b _).far b _).far b _,cZ (cZ (cZ (aJ G2 K) Qr _) Qr _) Qr _⟩
def E6(B:Nat)(w:World)(gr:Nat)(c1 c2 c3 c4:Value)(b:aq)(s:PS)(e:Ending)(w':World):Prop :=
  ∃A n c,e=.returned (.agg #[ae b.name,.slice A n c])/\ls 130 w' A n c b.pts/\NmL b.name/\RdP B w' gr c1 c2 c3 c4 s/\w.grownBy w' (some gr)
section
variable {w:World}{g t:Nat}{a0 a1 a2 a3 a4 a5 a6:Value}
theorem Blk.x7(h:Blk w g t #[a0,a1,a2,a3,a4,a5,a6])(a c b:Value):Blk (((w.setCell ⟨g,1,none⟩ a).setCell ⟨g,2,none⟩ c).setCell ⟨g,3,none⟩ b) g t #[a0,a,c,b,a4,a5,a6]:=((h.set_ 1 a).set_ 2 c).set_ 3 b
theorem Blk.y7(h:Blk w g t #[a0,a1,a2,a3,a4,a5,a6])(a c b:Value):Blk (((w.setCell ⟨g,4,none⟩ a).setCell ⟨g,5,none⟩ c).setCell ⟨g,6,none⟩ b) g t #[a0,a1,a2,a3,a,c,b]:=((h.set_ 4 a).set_ 5 c).set_ 6 b
theorem Blk.f7(h:Blk w g t #[a0,a1,a2,a3,a4,a5,a6]):w.frozen? ⟨g,0,none⟩=false/\w.frozen? ⟨g,1,none⟩=false/\w.frozen? ⟨g,2,none⟩=false/\w.frozen? ⟨g,3,none⟩=false/\w.frozen? ⟨g,4,none⟩=false/\w.frozen? ⟨g,5,none⟩=false/\w.frozen? ⟨g,6,none⟩=false:=⟨h.frozen 0,h.frozen 1,h.frozen 2,h.frozen 3,h.frozen 4,h.frozen 5,h.frozen 6⟩
theorem Blk.s21(h:Blk w g t #[a0,a1])(u:Value):Blk (w.setCell ⟨g,1,none⟩ u) g t #[a0,u]:=h.set_ 1 u
end
theorem ls.of_row{w:World}{base n c:Nat}{A:Option Addr}{l:List aB}(h:bc 67 (MkC 130) 7 w base (.slice A n c) n l):ls 130 w A n c l:=h.slT fun _ _ _ _ b a=>b.at_ a
theorem OwJ.far{J:Value->Bool}{w:World}{base n size:Nat}{e:TypeId}{v:Value}{b:List Value}(h:OwJ J w base e size v n b){p:Addr}(i:some p.block≠v.ownBlock)(u:Value):OwJ J (w.setCell p u) base e size v n b:=by
 refine⟨h.1,?_⟩;rcases h.2 with f|⟨g,cap,a,rfl,c,j,d⟩
 ·exact .inl f
 exact .inr ⟨g,cap,a,rfl,c,(so w p u g (fun e=>i (by simp[Value.ownBlock,e]))).trans j,d⟩
theorem gL{J:Value->Bool}{w:World}{base n size g t:Nat}{e:TypeId}{v:Value}{c:List Value}{cs:Array Value}(h:OwJ J w base e size v n c)(hb:Blk w g t cs)(d:t≠e):some g≠v.ownBlock:=by
 intro f;obtain⟨_,a,b,_⟩:=h.at_ f.symm;unfold Blk at hb;rw[b]at hb;injection hb with hb;injection hb with _ hb;exact d hb.symm
theorem TkA.first{B:Nat}{w:World}{A:Option Addr}{n c:Nat}{s:PS}(a:TkA B w A n c s.toks):(n=0/\s.signHead=false)\/(0<n/\∃g o,∃k:Nat,A=some ⟨g,o,none⟩/\w.cell? ⟨g,o,none⟩=some (.int .i64 (k:Nat))/\s.signHead=decide (k=2)):=by
 obtain⟨toks,L,x⟩:=s
 cases toks with
 |nil=>exact .inl ⟨a.1.symm,rfl⟩
 |cons t r =>
  obtain⟨g,o,e,_,b,_⟩:=a.head;refine .inr ⟨by rw[<-a.1];simp,g,o,t.kind,e,b,?_⟩;show (t.kind==2)=_;rfl
structure BdR (B:Nat) (w:World) (gr gb:Nat) (c1 c2 c3 c4:Value) (nm:List UInt8) (wr:World) (s:PS) (l:List aB) (pv:Value):Prop where
  rd:RdP B wr gr c1 c2 c3 c4 s
  rg:w.grownBy wr (some gr)
  out:Blk wr w.heap.size 62 #[ae [],.slice none 0 0]
  b:Blk wr gb 62 #[ae nm,pv]
  row:bc 67 (MkC 130) 7 wr gb pv l.length l
  lt:gr<w.heap.size/\w.heap.size<gb
section
variable {B:Nat}{w:World}{gr gb:Nat}{c1 c2 c3 c4:Value}{nm:List UInt8}{wr w3:World}{s s3:PS}{l:List aB}{pv:Value}
theorem BdR.call(h:BdR B w gr gb c1 c2 c3 c4 nm wr s l pv)(c:RdP B w3 gr c1 c2 c3 c4 s3)(a:wr.grownBy w3 (some gr)):BdR B w gr gb c1 c2 c3 c4 nm w3 s3 l pv :=
 ⟨c,aJ h.rg a,bX a h.out (by have:=h.lt;omega),bX a h.b (by have:=h.lt;omega),h.row.rg (by have:=h.lt;omega) a (fun _ _ x=>x.tch (h.rd.tch a (T:=TA) rfl)),h.lt⟩
theorem BdR.fin{A:Option Addr}{n c:Nat}(h:BdR B w gr gb c1 c2 c3 c4 nm wr s l (.slice A n c))(u v:Value):RdP B ((wr.setCell ⟨w.heap.size,0,none⟩ u).setCell ⟨w.heap.size,1,none⟩ v) gr c1 c2 c3 c4 s/\w.grownBy ((wr.setCell ⟨w.heap.size,0,none⟩ u).setCell ⟨w.heap.size,1,none⟩ v) (some gr)/\ls 130 ((wr.setCell ⟨w.heap.size,0,none⟩ u).setCell ⟨w.heap.size,1,none⟩ v) A n c l:=by
 obtain⟨d,m⟩:=h.lt;refine⟨(h.rd.far d _).far d _,cZ (cZ h.rg Qr _) Qr _,?_⟩
 have j:l.length=n:=by
  obtain⟨q,o,e,_⟩:=h.row.form;injection e with _ e _;exact e.symm
 have b:=h.row;rw[j]at b
 have i:Tch TA wr ((wr.setCell ⟨w.heap.size,0,none⟩ u).setCell ⟨w.heap.size,1,none⟩ v) :=
  Tch.of_ne (by simp[World.setCell]) h.out rfl rfl fun g' _ a=>by rw[so _ _ _ _ a,so _ _ _ _ a]
 exact ls.of_row (b.same (fun g f p k=>by rw[so _ _ _ _ (by show g≠w.heap.size;omega),so _ _ _ _ (by show g≠w.heap.size;omega)];exact k) (fun _ _ x=>x.tch i))
theorem BdR.b5{f:List Value}{d:World}(h:BdR B w gr gb c1 c2 c3 c4 nm wr s l pv)(c:OwJ noW wr gb 67 7 pv l.length f)(o:Obj)(a:(wr.alloc o).grownBy d pv.ownBlock):Blk d gb 62 #[ae nm,pv] :=
 (h.b.alloc o).grown a (gL c h.b (by decide))
theorem BdR.push{q:List Value}{n:World}{g:Value}{cs:List Value}{m:aB}{o:Obj}(h:BdR B w gr gb c1 c2 c3 c4 nm wr s l pv)(d:OwJ noW wr gb 67 7 pv l.length q)(r:jd (MkC 130) 7 wr l q)
 (E:MkC 130 wr cs m) (u:cs.length=7) (f:OwJ noW n gb 67 7 g (l.length+1) (q++cs)) (a:(wr.alloc o).grownBy n pv.ownBlock):BdR B w gr gb c1 c2 c3 c4 nm (n.setCell ⟨gb,1,none⟩ g) s (l++[m]) g:=by
 obtain⟨H,C⟩:=h.lt;have b5:=h.b5 d o a;have G:=h.b.lt;have v:Below gb wr n:=((kz gb wr).alloc (by omega) o).grown a (by simp;omega) (fun k F=>(d.at_ F).1);have i:Below gb wr (n.setCell ⟨gb,1,none⟩ g):=v.setCell (p:=⟨gb,1,none⟩) Qr g;have j:OwJ noW (wr.alloc o) gb 67 7 pv l.length q:=d.belw ((kz _ _).alloc Qr o);obtain⟨A,c,t,_⟩:=h.row.form;have z:Tch TA wr (n.setCell ⟨gb,1,none⟩ g):=((Tch.below ((kz _ _).alloc Qr o)).trans (Tch.grown (T:=TA) (fun _ D=>D) rfl j a)).trans (Tch.set b5 rfl (by rw[t];rfl) 1 g);have y:(l++[m]).length=l.length+1:=by simp
 refine⟨h.rd.bel1 (i.mono (by omega)),dI h.rg (i.mono (by omega)),h.out.below i C,b5.s21 g,?_,h.lt⟩;rw[y];exact⟨y,q++cs,f.far (gL f b5 (by decide)) g,(r.map_ fun _ _ x=>x.tch z).snoc (E.tch z) u⟩
end
theorem Cd(B:Nat)(w:World)(m:Nat)(c1 c2 c3 c4:Value)(s:PS)(h:RdP B w m c1 c2 c3 c4 s):Calls Tryz.prog 72 #[.pointer (some ⟨m,0,none⟩)] w (E6 B w m c1 c2 c3 c4 s.body.1 s.body.2):=by
 obtain⟨i0,bd,br,bx,bw⟩:=Gb uD;have HI:=Qh (And.intro bd (And.intro br (And.intro bx bw)));clear bd br bx bw;unfold PS.body;obtain⟨R,hR⟩:=Z9 (PS.marks (s.toks.length+1) (s.word.2.expect 2 [123]) []);simp only[hR];have HR:=Qh hR;have HP:=Qh h;have b3:=h.lt;have HN:=Qh (iw h.txt);clear h hR;go_in;go_wp2_with fail;refine(eU B _ m c1 c2 c3 c4 s (HP.out.alloc _)).mono ?_;rintro e w1⟨rfl,h1,a2⟩;have z1:Blk w1 w.heap.size 62 #[ae [],.slice none 0 0]:=bX a2 (Blk.new _ _ _) (by omega);have G1:w.grownBy w1 (some m):=aJ (bp (rg_refl m w) _) a2;have bn:=z1.lt;have b1:=h1.lt;have H1:=Qh h1;clear a2 h1;go_wp2_with fail;refine(fF B _ m c1 c2 c3 c4 s.word.2 (H1.out.alloc _) [123]).mono ?_;rintro e w2⟨rfl,h2,al⟩;have z2:Blk w2 w.heap.size 62 #[ae [],.slice none 0 0]:=bX al (z1.alloc _) (by omega);have b2:Blk w2 w1.heap.size 62 #[ae s.word.1,.slice none 0 0]:=bX al (Blk.new _ _ _) (by omega);have G2:w.grownBy w2 (some m):=aJ (bp G1 _) al;clear z1 G1 H1 al;generalize w1.heap.size=gb at bn b1 b2⊢;have bv:=Qh b2;have bs:=Qh z2;have H2:=Qh h2;clear b2 z2 h2;go_wp2_with fail;go_loopw [] (fun wr=>∃f d l pv,BdR B w m gb c1 c2 c3 c4 s.word.1 wr d l pv/\(d.x=0->d.toks.length<f/\l.length+d.toks.length<=65536)/\Hid (PS.marks f d l=R)) (fun wr=>mOf m wr)
 case atStart =>
  have q:=(aM s).trans (aH s.word.2 2 [123]);have h6:=HP.out.len;exact⟨_,_,[],_,⟨H2.out,G2,bs.out,bv.out,bc.nil,b3,bn⟩,fun _=>⟨by have:=q.1;omega,by have:=q.1;simp;omega⟩,HR⟩
 case round =>
  clear HR H2 bs bv G2;obtain⟨f,d,l,pv,ad,a4,HR⟩:=hrel;obtain⟨A,n,c,hb,ht⟩:=ad.rd.blk;obtain⟨a0,_,_,_,_,a5⟩:=hb.c6;obtain⟨Ap,cp,rfl,cu⟩:=ad.row.form;have j:=Qh ad;clear hb ad;by_cases hx:d.x=0
  ·rw[hx,dn]at a5
   obtain⟨cy,cx⟩:=a4 hx;have a6:0<f:=by omega
   rcases ht.first with⟨a8,hs⟩|⟨a8,g,o,k,e,d0,hs⟩
   rotate_left
   ·subst e
    rw[show decide (k=2)=_ from rfl]at hs;have bd:(0:Int)<(n:Int):=by omega
    have cv:(0<n)=True:=xr a8;clear ht;by_cases hk:k=2
    ·have cm:((k:Int)==2)=true:=by simp[hk]
     have ab:=jI (l:=l) a6 hx (by rw[hs];simp[hk]);rw[HR.out]at ab;subst ab;clear hs a4;go_wp2_with fail;refine(fF B _ m c1 c2 c3 c4 d j.out.rd [125]).mono ?_;rintro e w3⟨rfl,h3,r⟩;have Q:=Qh (j.out.call h3 r);obtain⟨bY,cc⟩:=Q.out.out.c2;obtain⟨ca,cr⟩:=Q.out.out.f2;obtain⟨bg,aC⟩:=Q.out.b.c2;have bz:¬gb=w.heap.size:=by omega
     clear h3 r;go_wp2_with fail;refine zr1 (.agg #[ae s.word.1,.slice Ap l.length cp]) ?_;exact⟨_,_,_,rfl,(Q.out.fin _ _).2.2,HN.out,(Q.out.fin _ _).1,(Q.out.fin _ _).2.1⟩
    have cm:((k:Int)==2)=false:=it.2 (by omega);have S:d.signHead=false:=by rw[hs];simp[hk]
    clear hs;have a1:=Qh S;clear S;go_wp2_with fail;refine(eU B _ m c1 c2 c3 c4 d j.out.rd).mono ?_;rintro e w3⟨rfl,h3,r⟩;have aS:=Qh (iw j.out.rd.txt);have t:=h3.lt;have ac:=r.size;have H3:=Qh h3;clear h3 a0 a5;go_wp2_with fail;refine(jN B _ m c1 c2 c3 c4 d.word.2 (H3.out.alloc _)).mono ?_;rintro e w4⟨P,O,n4,J,G,H,M,rfl,q4,h4,N⟩;have p4:Blk w4 w3.heap.size 67 #[ae d.word.1,.bool false,.slice none 0 0,.slice none 0 0,.bool false,.slice none 0 0,.slice none 0 0]:=bX N (Blk.new _ _ _) (by omega);have g4:wr.grownBy w4 (some m):=aJ (bp r _) N;have bu:=p4.lt;obtain⟨_,ao,a9,be,_⟩:=p4.f7;obtain⟨_,aF,ba,an,_⟩:=p4.c7;have P4:=Qh p4;have H4:=Qh h4;have Q4:=Qh q4;clear p4 h4 q4 N r H3;go_wp2_with fail;refine(jN B _ m c1 c2 c3 c4 d.word.2.number.2 (H4.out.bel1 (cQ w4 t 1 2 3 (.bool P) (.slice O n4 J) (.slice G H M)))).mono ?_;rintro e w5⟨b5,I,n5,L,D,F,K,rfl,q5,h5,y⟩;have U:=bX y (P4.out.x7 (.bool P) (.slice O n4 J) (.slice G H M)) (by omega);have g5:wr.grownBy w5 (some m):=aJ (dI g4 (cQ w4 ac 1 2 3 (.bool P) (.slice O n4 J) (.slice G H M))) y;have X:=(Q4.out.tch (fR P4.out rfl 1 2 3 (.bool P) (.slice O n4 J) (.slice G H M))).tch ((H4.out.bel1 (cQ w4 t 1 2 3 (.bool P) (.slice O n4 J) (.slice G H M))).tch y (T:=TA) rfl);have bl:=U.lt;obtain⟨_,_,_,_,fr4,a7,aT⟩:=U.f7;obtain⟨_,_,_,_,aZ,a3,bb⟩:=U.c7;have P5:=Qh U;have H5:=Qh h5;have V:=Qh X;have Q5:=Qh q5;clear U h5 q5 X y g4 P4 H4 Q4 ao a9 be aF ba an;go_wp2_with fail;refine(fF B _ m c1 c2 c3 c4 d.word.2.number.2.number.2 (H5.out.bel1 (cQ w5 t 4 5 6 (.bool b5) (.slice I n5 L) (.slice D F K))) [59]).mono ?_;rintro e W⟨rfl,h6,u⟩;have p6:=bX u (P5.out.y7 (.bool b5) (.slice I n5 L) (.slice D F K)) (by omega);have g6:wr.grownBy W (some m):=aJ (dI g5 (cQ w5 ac 4 5 6 (.bool b5) (.slice I n5 L) (.slice D F K))) u;have t6:=(fR P5.out rfl 4 5 6 (.bool b5) (.slice I n5 L) (.slice D F K)).trans ((H5.out.bel1 (cQ w5 t 4 5 6 (.bool b5) (.slice I n5 L) (.slice D F K))).tch u (T:=TA) rfl);have HM:=Qh (show MkC 130 W [ae d.word.1,.bool P,.slice O n4 J,.slice G H M,.bool b5,.slice I n5 L,.slice D F K] d.mark.1 from⟨P,O,n4,J,G,H,M,b5,I,n5,L,D,F,K,rfl,V.out.tch t6,Q5.out.tch t6,aS.out⟩);have i:=Qh (show BdR B w m gb c1 c2 c3 c4 s.word.1 W d.mark.2 l (.slice Ap l.length cp) from j.out.call h6 g6);obtain⟨_,xs,C,z⟩:=i.out.row;have Y:=Qh C;have HW:=Qh z;obtain⟨bg,aC⟩:=i.out.b.c2;obtain⟨b6,b7,bF,b9,b8,cj,b0⟩:=p6.c7;have cs:=i.out.b.lt;have bk:=p6.lt;clear h6 u C z p6 t6 g5 g6 P5 H5 V Q5 fr4 a7 aT aZ a3 bb;go_wp2_with (at_builtin;refine bK _ rfl noW _ _ _ rfl gb 67 i0 (.agg #[.string ⟨#[]⟩,.bool false,.slice none 0 0,.slice none 0 0,.bool false,.slice none 0 0,.slice none 0 0]) 7 128 Tryz.underlying60 HI.out.1 HI.out.2.1 HI.out.2.2.1 HI.out.2.2.2 rfl (by omega) rfl _ l.length xs rfl (Y.out.belw ((kz _ _).alloc Qr _)) ⟨W.heap.size,0,none⟩ 1 1 [_,_,_,_,_,_,_] rfl rfl (x9 (Ao W _)) (by simp[Value.oneCell']) rfl (by omega) (by unfold maxLen;omega) (by omega) (by simp;omega) ?_;intro gx cap w7 p a cn;have co:=(i.out.b5 Y.out _ a).frozen 1;obtain⟨ck,cb⟩:=(i.out.b5 Y.out _ a).c2);have q:=jc d;have Z:=eJ (l:=l) a6 hx a1.out;rw[HR.out]at Z;go_roundw
    case rel =>
     refine⟨f-1,d.mark.2,l++[d.mark.1],_,i.out.push Y.out HW.out HM.out rfl p a,fun E=>?_,Qh Z.symm⟩;have h9:=(q.2.2.1 E).2;rw[kc,F8];omega
    case measure =>
     rw[(i.out.push Y.out HW.out HM.out rfl p a).rd.meas,j.out.rd.meas,kZ hx];have h8:=q.1;by_cases E:d.mark.2.x=0
     ·have h9:=(q.2.2.1 E).2
      rw[kZ E];omega
     rw[kl E];omega
   subst a8;have S:d.signHead=false:=hs;clear hs ht;have a1:=Qh S;clear S;go_wp2_with fail;refine(eU B _ m c1 c2 c3 c4 d j.out.rd).mono ?_;rintro e w3⟨rfl,h3,r⟩;have aS:=Qh (iw j.out.rd.txt);have t:=h3.lt;have ac:=r.size;have H3:=Qh h3;clear h3 a0 a5;go_wp2_with fail;refine(jN B _ m c1 c2 c3 c4 d.word.2 (H3.out.alloc _)).mono ?_;rintro e w4⟨P,O,n4,J,G,H,M,rfl,q4,h4,N⟩;have p4:Blk w4 w3.heap.size 67 #[ae d.word.1,.bool false,.slice none 0 0,.slice none 0 0,.bool false,.slice none 0 0,.slice none 0 0]:=bX N (Blk.new _ _ _) (by omega);have g4:wr.grownBy w4 (some m):=aJ (bp r _) N;have bu:=p4.lt;obtain⟨_,ao,a9,be,_⟩:=p4.f7;obtain⟨_,aF,ba,an,_⟩:=p4.c7;have P4:=Qh p4;have H4:=Qh h4;have Q4:=Qh q4;clear p4 h4 q4 N r H3;go_wp2_with fail;refine(jN B _ m c1 c2 c3 c4 d.word.2.number.2 (H4.out.bel1 (cQ w4 t 1 2 3 (.bool P) (.slice O n4 J) (.slice G H M)))).mono ?_;rintro e w5⟨b5,I,n5,L,D,F,K,rfl,q5,h5,y⟩;have U:=bX y (P4.out.x7 (.bool P) (.slice O n4 J) (.slice G H M)) (by omega);have g5:wr.grownBy w5 (some m):=aJ (dI g4 (cQ w4 ac 1 2 3 (.bool P) (.slice O n4 J) (.slice G H M))) y;have X:=(Q4.out.tch (fR P4.out rfl 1 2 3 (.bool P) (.slice O n4 J) (.slice G H M))).tch ((H4.out.bel1 (cQ w4 t 1 2 3 (.bool P) (.slice O n4 J) (.slice G H M))).tch y (T:=TA) rfl);have bl:=U.lt;obtain⟨_,_,_,_,fr4,a7,aT⟩:=U.f7;obtain⟨_,_,_,_,aZ,a3,bb⟩:=U.c7;have P5:=Qh U;have H5:=Qh h5;have V:=Qh X;have Q5:=Qh q5;clear U h5 q5 X y g4 P4 H4 Q4 ao a9 be aF ba an;go_wp2_with fail;refine(fF B _ m c1 c2 c3 c4 d.word.2.number.2.number.2 (H5.out.bel1 (cQ w5 t 4 5 6 (.bool b5) (.slice I n5 L) (.slice D F K))) [59]).mono ?_;rintro e W⟨rfl,h6,u⟩;have p6:=bX u (P5.out.y7 (.bool b5) (.slice I n5 L) (.slice D F K)) (by omega);have g6:wr.grownBy W (some m):=aJ (dI g5 (cQ w5 ac 4 5 6 (.bool b5) (.slice I n5 L) (.slice D F K))) u;have t6:=(fR P5.out rfl 4 5 6 (.bool b5) (.slice I n5 L) (.slice D F K)).trans ((H5.out.bel1 (cQ w5 t 4 5 6 (.bool b5) (.slice I n5 L) (.slice D F K))).tch u (T:=TA) rfl);have HM:=Qh (show MkC 130 W [ae d.word.1,.bool P,.slice O n4 J,.slice G H M,.bool b5,.slice I n5 L,.slice D F K] d.mark.1 from⟨P,O,n4,J,G,H,M,b5,I,n5,L,D,F,K,rfl,V.out.tch t6,Q5.out.tch t6,aS.out⟩);have i:=Qh (show BdR B w m gb c1 c2 c3 c4 s.word.1 W d.mark.2 l (.slice Ap l.length cp) from j.out.call h6 g6);obtain⟨_,xs,C,z⟩:=i.out.row;have Y:=Qh C;have HW:=Qh z;obtain⟨bg,aC⟩:=i.out.b.c2;obtain⟨b6,b7,bF,b9,b8,cj,b0⟩:=p6.c7;have cs:=i.out.b.lt;have bk:=p6.lt;clear h6 u C z p6 t6 g5 g6 P5 H5 V Q5 fr4 a7 aT aZ a3 bb;go_wp2_with (at_builtin;refine bK _ rfl noW _ _ _ rfl gb 67 i0 (.agg #[.string ⟨#[]⟩,.bool false,.slice none 0 0,.slice none 0 0,.bool false,.slice none 0 0,.slice none 0 0]) 7 128 Tryz.underlying60 HI.out.1 HI.out.2.1 HI.out.2.2.1 HI.out.2.2.2 rfl (by omega) rfl _ l.length xs rfl (Y.out.belw ((kz _ _).alloc Qr _)) ⟨W.heap.size,0,none⟩ 1 1 [_,_,_,_,_,_,_] rfl rfl (x9 (Ao W _)) (by simp[Value.oneCell']) rfl (by omega) (by unfold maxLen;omega) (by omega) (by simp;omega) ?_;intro gx cap w7 p a cn;have co:=(i.out.b5 Y.out _ a).frozen 1;obtain⟨ck,cb⟩:=(i.out.b5 Y.out _ a).c2);have q:=jc d;have Z:=eJ (l:=l) a6 hx a1.out;rw[HR.out]at Z;go_roundw
   case rel =>
    refine⟨f-1,d.mark.2,l++[d.mark.1],_,i.out.push Y.out HW.out HM.out rfl p a,fun E=>?_,Qh Z.symm⟩;have h9:=(q.2.2.1 E).2;rw[kc,F8];omega
   case measure =>
    rw[(i.out.push Y.out HW.out HM.out rfl p a).rd.meas,j.out.rd.meas,kZ hx];have h8:=q.1;by_cases E:d.mark.2.x=0
    ·have h9:=(q.2.2.1 E).2
     rw[kZ E];omega
    rw[kl E];omega
  rw[eVp hx]at a5;have E:=j.out.out;have bo:=j.out.b;obtain⟨bY,cc⟩:=E.c2;obtain⟨ca,cr⟩:=E.f2;obtain⟨bg,aC⟩:=bo.c2;have bz:¬gb=w.heap.size:=by omega
  have ab:=jH (f:=f) (l:=l) hx;rw[HR.out]at ab;subst ab;clear E bo a4 ht;go_wp2_with fail;refine zr1 (.agg #[ae s.word.1,.slice Ap l.length cp]) ?_;exact⟨_,_,_,rfl,(j.out.fin _ _).2.2,HN.out,(j.out.fin _ _).1,(j.out.fin _ _).2.1⟩
theorem lW{α:Type}{f:α->List UInt8}{l:List α}{nm:List UInt8}{i:Nat}{b:α}(h:∀a∈l.take i,f a≠nm)(hb:l[i]?=some b)(e:f b=nm):l.findIdx? (fun x=>f x==nm)=some i:=by
 rw[GJ];obtain⟨d,hb⟩:=ts.1 hb;refine⟨d,by rw[hb];simp[e],fun j g=>?_⟩
 have c:l[j]'(by omega)∈l.take i:=by
  rw[List.mem_take_iff_getElem];exact⟨j,by omega,rfl⟩
 simpa using h _ c
theorem kS{α:Type}{f:α->List UInt8}{l:List α}{nm:List UInt8}(h:∀a∈l,f a≠nm):l.findIdx? (fun x=>f x==nm)=none:=by
 rw[List.findIdx?_eq_none_iff];intro x b;simpa using h x b
theorem jO{α:Type}{p:α->Prop}{l:List α}{i:Nat}{b:α}(h:∀a∈l.take i,p a)(hb:l[i]?=some b)(d:p b):∀a∈l.take (i+1),p a:=by
 intro a c;rw[FV,hb]at c;simp at c;rcases c with c|rfl
 ·exact h a c
 exact d
section
variable {w w':World}{gr base n c:Nat}{A:Option Addr}{cs:Array Value}
theorem bc.rgt{α:Type}{c:TypeId}{Pc:World->List Value->α->Prop}{sz:Nat}{v:Value}{l:List α}(h:bc c Pc sz w base v n l)(hb:Blk w gr 87 cs)(d:c≠87)(k:w.grownBy w' (some gr))(i:∀cs a,Pc w cs a->Pc w' cs a):bc c Pc sz w' base v n l :=
 h.same (fun g f _ b=>uC k b (fun e=>by
  subst e;unfold Blk at hb;rw[hb]at b;injection b with b;injection b with _ b
  exact d b.symm)) i
theorem bc.bds{k:Nat}{l:List aq}(h:bc 62 (BdC k) 2 w base (.slice A n c) n l):SlS (fD k) 2 w A n c l:=(h.slT (P:=fD k) fun _ _ _ _ b a=>b.at_ a).sl fun _ _ _ p=>p
theorem bc.jts{l:List bj}(h:bc 79 JtC 7 w base (.slice A n c) n l):SlS pG 7 w A n c l:=(h.slT (P:=pG) fun _ _ _ _ b a=>b.at_ a).sl fun _ _ _ p=>p
theorem bc.drs{l:List bD}(h:bc 81 DrC 2 w base (.slice A n c) n l):SlS pH 2 w A n c l:=(h.slT (P:=pH) fun _ _ _ _ b a=>b.at_ a).sl fun _ _ _ p=>p
end
theorem RdP.bodies{B:Nat}{w a:World}{b n c:Nat}{A:Option Addr}{c1 c2 c3 c4:Value}{s:PS}{l:List aq}(h:RdP B w b c1 c2 c3 c4 s)(d:bc 62 (BdC 130) 2 w B (.slice A n c) n l)(k:w.grownBy a (some b)):bc 62 (BdC 130) 2 a B (.slice A n c) n l:=by
 obtain⟨_,_,_,hb,_⟩:=h.blk;exact d.rgt hb (by decide) k fun _ _ x=>x.tch (T:=fun t=>t==87) (h.tch k rfl) (by decide)
theorem rY(B:Nat)(w:World)(v:Nat)(c1 c3 c4:Value)(A:Option Addr)(n c:Nat)(s:PS)(h:RdP B w v c1 (.slice A n c) c3 c4 s)(hr:bc 62 (BdC 130) 2 w B (.slice A n c) n s.L.bodies)(hn:n<=100000)(only:Int):Calls Tryz.prog 74 #[.pointer (some ⟨v,0,none⟩),.int .i64 only] w (tu B w v c1 (.slice A n c) c3 c4 (.int .i64 (s.named only).1) (s.named only).2):=by
 have HP:=Qh h;have HR:=Qh hr;obtain⟨W,j⟩:=Z9 (s.named only);rw[j];have S:=Qh j;clear h hr j;go_in;go_wp2_with fail;refine(eU B _ v c1 (.slice A n c) c3 c4 s HP.out).mono ?_;rintro e w1⟨rfl,T,y⟩;have HB:=Qh (HP.out.bodies HR.out y);have P:=(aM s).2.2.2;have j:=S.out;unfold PS.named at j;simp only at j;rw[P]at j;generalize s.word.2=s' at T j;generalize s.word.1=nm at j⊢;have Z:=Qh T;obtain⟨D,m,d,hb,_⟩:=T.blk;obtain⟨_,_,a2,_,_,Y⟩:=hb.c6;have aS:=hb.lt;clear hb T S HP HR P;by_cases C:s'.x=0
 ·rw[kl (by simp[C])]at j
  rw[C,dn]at Y;have U:=Qh C;have S:=Qh j;clear C j;go_wp2_with fail;clear a2 Y;go_loopw [21] (fun iv wr=>∃i:Nat,iv=.int .i64 (i:Nat)/\i<=n/\Hid (∀a∈s.L.bodies.take i,a.name≠nm)/\Below w1.heap.size w1 wr) (fun iv _=>n-(intOf iv).toNat)
  case atStart=>exact⟨0,rfl,Nat.zero_le _,Qh (by simp),aa w1⟩
  case round =>
   obtain⟨i,rfl,hi,N,hb⟩:=hrel;rename World=>wr;rcases Nat.lt_or_ge i n with an|aT
   ·have al:((i:Int)<(n:Int))=True:=by simp;omega
    obtain⟨g,o,b,e,hg,_,K,hB⟩:=(HB.out.bds.bd hb).at_ an;subst e;obtain⟨A',n',c',d0,d1,hM,ac⟩:=hB;clear hM ac;have ao:=aK b.name;have aF:=aK nm;have z:=Qh K;clear K;by_cases q:b.name=nm
    ·have Q:findB s.L.bodies nm=some i:=lW (f:=aq.name) N.out z.out q
     have j:=S.out;rw[Q]at j;simp only at j;rw[q]at d0 ao;have V:(nm==nm)=true:=by simp
     have H:=Z.out.belw hb;have R:=du y hb;have k:=Qh H;clear z q Q H;by_cases ho:0<=only
     ·have ab:(0<=only)=True:=xr ho
      by_cases r:(i:Int)=only
      ·rw[kl (by simp[r])]at j
       subst j;have J:((i:Int)==only)=true:=by simp[r]
       clear r;go_wp2;go_ret;exact⟨rfl,k.out.alloc _,bp R _⟩
      rw[kZ ⟨ho,r⟩,show s'.fail 7={ s' with x:=7 } from kZ U.out]at j;subst j;have J:((i:Int)==only)=false:=it.2 r;clear r;obtain⟨M,O,I,u,t⟩:=k.out.blk;have F:=Qh (u.alloc (.cells #[ae nm,.slice A' n' c'] 62));have E:=Qh t;clear u t;go_wp2_with fail;refine(gl _ v (.slice M O I) c1 (.slice (some ⟨g,o,none⟩) n c) c3 c4 s'.x 7 F.out (by decide)).mono ?_;rintro e w2⟨rfl,l,aC⟩;have G:=aJ (bp (rg_refl v wr) _) aC;rw[kZ U.out]at l;have X:RdP B w2 v c1 (.slice (some ⟨g,o,none⟩) n c) c3 c4 { s' with x:=7 }:=⟨⟨M,O,I,l,E.out.rg k.out.hB G⟩,k.out.mx.rg k.out.hB G,k.out.hB,k.out.len,k.out.txt,k.out.hw⟩;clear l;go_wp2;go_ret;exact⟨rfl,X,aJ R G⟩
     have ab:(0<=only)=False:=oK ho;rw[kl (by omega)]at j;subst j;go_wp2;go_ret;exact⟨rfl,k.out.alloc _,bp R _⟩
    have V:(b.name==nm)=false:=it.2 q;have ad:=Qh (jO (p:=fun a:aq=>a.name≠nm) N.out z.out q);clear q N z;go_wp2_with fail;go_roundw
    case rel=>exact⟨i+1,by go_num,by omega,ad,hb.alloc hb.size _⟩
    case measure=>simp[intOf];omega
   have al:((i:Int)<(n:Int))=False:=by simp;omega
   obtain rfl:i=n:=by omega
   have hl:s.L.bodies.length=i:=HB.out.1;have Q:findB s.L.bodies nm=none:=kS (f:=aq.name) fun a ha=>N.out a (by rw[ms (by omega)];exact ha)
   have j:=S.out;rw[Q]at j;simp only at j;have e2:s'.fail 5={ s' with x:=5 }:=kZ U.out;rw[e2]at j;subst j;have H:=Z.out.belw hb;have R:=du y hb;have k:=Qh H;obtain⟨M,O,I,u,t⟩:=H.blk;have F:=Qh u;have E:=Qh t;clear u t H Q hl N;go_wp2_with fail;refine(gl _ v (.slice M O I) c1 (.slice A i c) c3 c4 s'.x 5 F.out (by decide)).mono ?_;rintro e w2⟨rfl,l,G⟩;rw[kZ U.out]at l;have X:RdP B w2 v c1 (.slice A i c) c3 c4 { s' with x:=5 }:=⟨⟨M,O,I,l,E.out.rg k.out.hB G⟩,k.out.mx.rg k.out.hB G,k.out.hB,k.out.len,k.out.txt,k.out.hw⟩;clear l;go_wp2;go_ret;exact⟨rfl,X,aJ R G⟩
 rw[kZ (by simpa using C)]at j;subst j;rw[eVp C]at Y;clear C;go_wp2;go_ret;exact⟨rfl,Z.out,y⟩
theorem RdP.body_at{k n c i:Nat}{w:World}{A:Option Addr}{l:List aq}(h:SlS (fD k) 2 w A n c l)(q:i<n):∃g o b f a d,A=some ⟨g,o,none⟩/\l[i]?=some b/\w.cell? ⟨g,o+i*2+1,none⟩=some (.slice f a d)/\SlS (hH k) 7 w f a d b.pts:=by
 obtain⟨g,o,b,e,r,_,j,f,a,d,s,p,m,_⟩:=h.at_ q;exact⟨g,o,b,f,a,d,e,j,p,m⟩
theorem kU(B:Nat)(w:World)(t:Nat)(c1 c3 c4:Value)(A:Option Addr)(n c:Nat)(s:PS)(h:RdP B w t c1 (.slice A n c) c3 c4 s)(hr:bc 62 (BdC 130) 2 w B (.slice A n c) n s.L.bodies)(hn:n<=100000)(P:∀b∈s.L.bodies,b.pts.length<=100000)(only:Int):Calls Tryz.prog 73 #[.pointer (some ⟨t,0,none⟩),.int .i64 only] w (tu B w t c1 (.slice A n c) c3 c4 (.tuple #[.int .i64 (s.full only).1,.int .i64 (s.full only).2.1]) (s.full only).2.2):=by
 have HP:=Qh h;have HR:=Qh hr;have al:=Qh P;obtain⟨W,j⟩:=Z9 (s.full only);rw[j];have O:=Qh j;clear h hr j P;go_in;go_wp2_with fail;refine(rY B _ t c1 c3 c4 A n c s HP.out HR.out hn only).mono ?_;rintro e w1⟨rfl,h1,I⟩;have H1:=Qh h1;clear h1;go_wp2_with fail;refine(fF B _ t c1 (.slice A n c) c3 c4 (s.named only).2 H1.out [46]).mono ?_;rintro e w2⟨rfl,h2,S⟩;have H2:=Qh h2;clear h2;go_wp2_with fail;refine(eU B _ t c1 (.slice A n c) c3 c4 ((s.named only).2.expect 2 [46]) H2.out).mono ?_;rintro e w3⟨rfl,T,H⟩;have U:=aJ (aJ I S) H;have HB:=Qh (HP.out.bodies HR.out U);have z:=(aH (s.named only).2 2 [46]).trans (aM ((s.named only).2.expect 2 [46]));have J:=((fK s only).trans z).2.2.2;have F:=zA s only;have j:=O.out;unfold PS.full at j;simp only at j;rw[J]at j;have E:((s.named only).2.expect 2 [46]).word.2.x=0->(s.named only).2.x=0:=fun l=>(z.2.2.1 l).1
 clear z J O H1 H2 I S H HP HR;generalize ((s.named only).2.expect 2 [46]).word.2=s' at T j E;generalize ((s.named only).2.expect 2 [46]).word.1=nm at j⊢;generalize (s.named only).1=b at j F⊢;have H3:=Qh T;obtain⟨D,m,d,hb,_⟩:=T.blk;obtain⟨_,_,a2,_,_,a5⟩:=hb.c6;have aZ:=hb.lt;clear hb T;by_cases l:s'.x=0
 ·rw[kl (by simp[l])]at j
  rw[l,dn]at a5;obtain⟨N,eb,a3⟩:=F (E l);subst eb;have HX:=Qh l;have hl:s.L.bodies.length=n:=HB.out.1;obtain⟨g,o,bd,A',y,c',e,u,d1,hM⟩:=RdP.body_at HB.out.bds (show N<n by omega);subst e
  have hp:cY s.L (N:Int)=bd.pts:=by
   unfold cY;rw[Hf,u]
  rw[hp]at j;have a0:((N:Int)<(n:Int))=True:=by simp;omega
  have aS:(0:Int)<=(N:Int):=by omega
  have a1:y<=100000:=by rw[<-hM.1];exact al.out bd (pk u)
  have O:=Qh j;have HM:=Qh hM;clear l j hp u hM E F hl;go_wp2_with fail;clear a2 a5 d1;go_loopw [32] (fun Y wr=>∃i:Nat,Y=.int .i64 (i:Nat)/\i<=y/\Hid (∀a∈bd.pts.take i,a.name≠nm)/\Below w3.heap.size w3 wr) (fun Y _=>y-(intOf Y).toNat)
  case atStart=>exact⟨0,rfl,Nat.zero_le _,Qh (by simp),aa w3⟩
  case round =>
   obtain⟨i,rfl,hi,R,hb⟩:=hrel;rename World=>wr;rcases Nat.lt_or_ge i y with ab|a4
   ·have ac:((i:Int)<(y:Int))=True:=by simp;omega
    obtain⟨V,o2,p,e,hg,_,Q,hP⟩:=(HM.out.mk_ hb).at_ ab;subst e;obtain⟨d0,⟨bx,Ax,nx,cx,Dx,mx,ex,d1,X,d3,_⟩,⟨aT,Ay,ny,cy,Dy,my,ey,d4,d5,d6,_⟩,_⟩:=hP;have aC:=aK p.name;have aF:=aK nm;have r:=Qh Q;clear Q;by_cases k:p.name=nm
    ·have M:findM bd.pts nm=some i:=lW (f:=aB.name) R.out r.out k
     have j:=O.out;rw[M]at j;simp only at j;subst j;rw[k]at d0 aC;have an:(nm==nm)=true:=by simp
     have g1:=du U hb;have q:=Qh (H3.out.belw hb);clear r k M;go_wp2_with fail;refine zr1 (.tuple #[.int .i64 (N:Nat),.int .i64 (i:Nat)]) ?_;exact⟨rfl,q.out.alloc _,bp g1 _⟩
    have an:(p.name==nm)=false:=it.2 k;have Z:=Qh (jO (p:=fun a:aB=>a.name≠nm) R.out r.out k);clear k R r;go_wp2_with fail;go_roundw
    case rel=>exact⟨i+1,by go_num,by omega,Z,hb.alloc hb.size _⟩
    case measure=>simp[intOf];omega
   have ac:((i:Int)<(y:Int))=False:=by simp;omega
   obtain rfl:i=y:=by omega
   have hl:bd.pts.length=i:=HM.out.1;have M:findM bd.pts nm=none:=kS (f:=aB.name) fun a ha=>R.out a (by rw[ms (by omega)];exact ha)
   have j:=O.out;rw[M]at j;simp only at j;have e2:s'.fail 5={ s' with x:=5 }:=kZ HX.out;rw[e2]at j;subst j;have r1:=H3.out.belw hb;have g1:=du U hb;have q:=Qh r1;obtain⟨D2,m2,X,K,G⟩:=r1.blk;have ad:=Qh K;have ao:=Qh G;clear K G r1 M hl R;go_wp2_with fail;refine(gl _ t (.slice D2 m2 X) c1 (.slice (some ⟨g,o,none⟩) n c) c3 c4 s'.x 5 ad.out (by decide)).mono ?_;rintro e w5⟨rfl,C,V⟩;rw[kZ HX.out]at C;have R2:RdP B w5 t c1 (.slice (some ⟨g,o,none⟩) n c) c3 c4 { s' with x:=5 }:=⟨⟨D2,m2,X,C,ao.out.rg q.out.hB V⟩,q.out.mx.rg q.out.hB V,q.out.hB,q.out.len,q.out.txt,q.out.hw⟩;clear C;go_wp2_with fail;refine zr1 (.tuple #[.int .i64 0,.int .i64 0]) ?_;exact⟨rfl,R2,aJ g1 V⟩
 rw[kZ (by simpa using l)]at j;subst j;rw[eVp l]at a5;clear l;go_wp2_with fail;refine zr1 (.tuple #[.int .i64 0,.int .i64 0]) ?_;exact⟨rfl,H3.out,U⟩
def E7(ops:Array Oper)(fr:(Nat->Value)->Act)(R:Nat->Value->Prop)(T:Nat->(Nat->Value)->World->Prop)(st:Nat->Option Nat)(K:Nat)(L:Array Bool)(a:Act)(w:World):Prop :=
  ∃x k,a=fr x/\k<=K/\T k x w/\(∀i j,st i=some j->(L.getD i false=true ↔ j<k))/\(∀i,L.getD i false=true->R i (x i)) /\
  (∀i o,ops[i]?=some o->L.getD i false=true->∀e∈o.after,Region.binds .any e=true->L.getD e.on false=true)
section
variable (P:Program) (ops:Array Oper) (Q:Exit->Act->World->Prop) (fr:(Nat->Value)->Act) (R:Nat->Value->Prop) (T:Nat->(Nat->Value)->World->Prop)
def nc(i:Nat)(o:Oper):Prop :=
  ∀ k x wq,T k x wq->(∀e∈o.after,Region.binds .any e=true->R e.on (x e.on))->∀K':Act->World->Prop,Shut (∀v,R i v->K' ((fr x).put o.dst v) wq) ->
      if Region.wanted o (yielded ops (fr x).tmps)=true then Oper.wp P o (fr x) wq K' Q else K' ((fr x).put o.dst undef) wq
def ig(k:Nat)(i:Nat)(o:Oper):Prop :=
  ∀ x wq,T k x wq->(∀e∈o.after,Region.binds .any e=true->R e.on (x e.on))->∀K':Act->World->Prop,Shut (∀v w',R i v->T (k+1) (upd x i v) w'->K' ((fr x).put o.dst v) w') ->
      if Region.wanted o (yielded ops (fr x).tmps)=true then Oper.wp P o (fr x) wq K' Q else K' ((fr x).put o.dst undef) wq
end
section
variable {P:Program}{ops:Array Oper}{Q:Exit->Act->World->Prop}{fr:(Nat->Value)->Act}{R:Nat->Value->Prop}{T:Nat->(Nat->Value)->World->Prop}{st:Nat->Option Nat}{K:Nat}{id:Nat}{w:World}{x0:Nat->Value}
theorem iI{n:Nat}(hm:P.follows .mixedOrders=true)(hn:ops.size=n+1)
 (G:∀i o,ops[i]?=some o->i<n->∀x v,(fr x).put o.dst v=fr (upd x i v))
 (aC:∀i o,ops[i]?=some o->∀e∈o.after,Region.binds .any e=true->e.on<i)
 (t:∀j,j<n->∃k o,j<k/\k<=n/\ops[k]?=some o/\∃e∈o.after,Region.binds .any e=true/\e.on=j)
 (ac:∀i j,st i=some j->i<n/\j<K)
 (ab:∀i g j,st i=some j->st g=some j->i=g)
 (ad:∀j,j<K->∃i,st i=some j)
 (u:∀i o j,ops[i]?=some o->st i=some (j+1)->∃e∈o.after,Region.binds .any e=true/\st e.on=some j)
 (hT:∀k x i v w,st i=none->T k x w->T k (upd x i v) w)
 (h0:T 0 x0 w.drew)
 (U:∀i o,ops[i]?=some o->i<n->st i=none->nc P ops Q fr R T i o)
 (y:∀i o k,ops[i]?=some o->st i=some k->ig P ops Q fr R T k i o)
 (N:∀o,ops[n]?=some o->∀x wq,T K x wq->(∀j,j<n->R j (x j))->∀V:Act->World->Prop,Shut (∀a' J,Q .normal a' J->V a' J) ->
  if Region.wanted o (yielded ops (fr x).tmps)=true then Oper.wp P o (fr x) wq V Q else V ((fr x).put o.dst undef) wq) :
 (Code.region id ops true).wp P Q (fr x0) w:=by
 refine Hc hm (fJ (fun L a J=>(L.getD n false=false/\E7 ops fr R T st K L a J)\/((∀i,i<ops.size->L.getD i false=true)/\Q .normal a J)) ?_ ?_ _ _ _ _ (by simp) ?_ ?_)
 ·rintro L a w1 i hs hi I
  obtain⟨A,o,s,b⟩:=GL.1 hi
  have f:i<L.size:=by
   rcases Nat.lt_or_ge i L.size with h|h
   ·exact h
   rw[pn,zP h]at A;cases A
  have E:L.getD i false=false:=by
   rw[pn,sr f]at A⊢;exact A
  rcases I with⟨S,x,k,rfl,X,q,p,hr,B⟩|⟨O,_⟩
  ·have F:∀e∈o.after,Region.binds .any e=true->R e.on (x e.on):=fun e D d=>hr _ (b e D d)
   refine Ik s fun V hK=>?_
   rcases Nat.lt_or_ge i n with z|z
   ·have C:(L.setIfInBounds i true).getD n false=false:=by
     rw[ak f,S];simp;omega
    have W:∀v,R i v->∀j,(L.setIfInBounds i true).getD j false=true->R j (upd x i v j):=by
     intro v hv j c;by_cases h:j=i
     ·subst h;rw[db];exact hv
     rw[aN _ _ h];rw[ak f]at c;exact hr j (by simpa[h]using c)
    cases hsi:st i with
    |none =>
     refine U i o s z hsi k x w1 q F V (fun v M=>hK _ _ (Iu ⟨C,upd x i v,k,G i o s z x v,X,hT _ _ _ _ _ hsi q,fun g j c=>?_,W v M,gY f s b B⟩));have al:g≠i:=by rintro rfl;rw[hsi]at c;cases c
     rw[ak f,<-p g j c];simp[al]
    |some j0 =>
     have hk:k=j0:=by
      have h1:¬j0<k:=fun h=>by
       have:=(p i j0 hsi).2 h;rw[E]at this;cases this
      cases j0 with
      |zero=>omega
      |succ j =>
       obtain⟨e,D,d,aS⟩:=u i o j s hsi;have:=(p e.on j aS).1 (b e D d);omega
     subst hk;refine y i o k s hsi x w1 q F V (fun v J M aT=>hK _ _ (Iu ⟨C,upd x i v,k+1,G i o s z x v,(ac i k hsi).2,aT,fun g j c=>?_,W v M,gY f s b B⟩));rw[ak f];by_cases h:g=i
     ·subst h
      rw[hsi]at c;injection c with c;subst c;simp
     have aF:j≠k:=fun e=>h (ab _ _ _ c (by rw[e];exact hsi))
     rw[show (decide (g=i)||L.getD g false)=L.getD g false by simp[h],p g j c];omega
   have e:i=n:=by omega
   subst e
   have l:∀m j,j<i->i-j<=m->L.getD j false=true:=by
    intro m
    induction m with
    |zero=>intro j c hm;omega
    |succ m ih =>
     intro j c hm;obtain⟨k,o',aF,hk,r,e,D,d,Y⟩:=t j c;rcases Nat.lt_or_ge k i with h|h
     ·rw[<-Y];exact B k o' r (ih k h (by omega)) e D d
     have e2:k=i:=by omega
     subst e2;rw[s]at r;injection r with r;subst r;rw[<-Y];exact b e D d
   have an:k=K:=by
    rcases Nat.lt_or_ge k K with h|h
    ·obtain⟨g,Z⟩:=ad k h
     have:=(p g k Z).1 (l (i-g) g (ac g k Z).1 Qr);omega
    omega
   subst an;refine N o s x w1 q (fun j c=>hr j (l (i-j) j c Qr)) V (fun a' J hq=>hK _ _ (Or.inr ⟨fun j c=>?_,hq⟩));rw[ak f];by_cases h:j=i
   ·simp[h]
   rw[l (i-j) j (by omega) Qr];simp
  have:=O i (by omega);rw[E]at this;cases this
 ·rintro L a w1 hs ao (⟨S,x,k,rfl,X,q,p,hr,B⟩|⟨_,hq⟩)
  ·have H:∀i,i<ops.size->L.getD i false=true:=by
    intro i
    induction i using Nat.strongRecOn with
    |ind i ih =>
     intro hi;cases h:L.getD i false
     ·exfalso
      have:i∈Region.ready .any ops L:=by
       refine GL.2 ⟨?_,ops[i],sr hi,fun e D d=>?_⟩
       ·rw[pn,sr (by omega)]at h⊢;exact h
       have h1:=aC i _ (sr hi) e D d;exact ih e.on h1 (by omega)
      rw[ao]at this;cases this
     rfl
   have:=H n (by omega);rw[S]at this;cases this
  exact hq
 ·simp
 ·have hz:∀j,(Array.replicate ops.size false).getD j false=false:=by
   intro j;rw[pn,Gs];split<;>rfl
  refine Iu ⟨hz n,x0,0,rfl,Nat.zero_le _,h0,fun i j c=>?_,fun i h=>?_,fun i o _ h=>?_⟩
  ·rw[hz];simp
  ·rw[hz]at h;cases h
  rw[hz]at h;cases h
end
def stg(a K i:Nat):Option Nat:=if a<=i/\i<a+K then some (i-a) else none
theorem je{a K i j:Nat}(h:stg a K i=some j):i=a+j/\j<K:=by
 unfold stg at h;split at h
 ·injection h with h;omega
 cases h
theorem zG{a K j:Nat}(h:j<K):stg a K (a+j)=some j:=by
 unfold stg;rw[kZ (by omega)];congr 1;omega
theorem rZ{a K i:Nat}(h:stg a K i=none):i<a\/a+K<=i:=by
 unfold stg at h;split at h
 ·cases h
 omega
section
variable {P:Program}{ops:Array Oper}{Q:Exit->Act->World->Prop}{fr:(Nat->Value)->Act}{R:Nat->Value->Prop}{T:Nat->(Nat->Value)->World->Prop}{K a:Nat}{id:Nat}{w:World}{x0:Nat->Value}
theorem eV{n:Nat}(C:P.follows .mixedOrders=true)(B:ops.size=n+1)
 (p:∀i o,ops[i]?=some o->i<n->∀x v,(fr x).put o.dst v=fr (upd x i v))
 (q:∀i o,ops[i]?=some o->∀e∈o.after,Region.binds .any e=true->e.on<i)
 (b:∀j,j<n->∃k o,j<k/\k<=n/\ops[k]?=some o/\∃e∈o.after,Region.binds .any e=true/\e.on=j)
 (u:a+K<=n)
 (c:∀j o,j+1<K->ops[a+(j+1)]?=some o->∃e∈o.after,Region.binds .any e=true/\e.on=a+j)
 (y:∀k x i v w,i<a\/a+K<=i->T k x w->T k (upd x i v) w)
 (s:T 0 x0 w.drew)
 (g:∀i o,ops[i]?=some o->i<n->i<a\/a+K<=i->nc P ops Q fr R T i o)
 (d:∀k o,k<K->ops[a+k]?=some o->ig P ops Q fr R T k (a+k) o)
 (f:∀o,ops[n]?=some o->∀x wq,T K x wq->(∀j,j<n->R j (x j))->∀K':Act->World->Prop,Shut (∀a' w',Q .normal a' w'->K' a' w') ->
  if Region.wanted o (yielded ops (fr x).tmps)=true then Oper.wp P o (fr x) wq K' Q else K' ((fr x).put o.dst undef) wq) :
 (Code.region id ops true).wp P Q (fr x0) w :=
 iI (R:=R) (T:=T) (st:=stg a K) (K:=K) C B p q b
  (fun i j h=>by obtain⟨z,l⟩:=je h;omega)
  (fun i E j h t=>by obtain⟨z,_⟩:=je h;obtain⟨l,_⟩:=je t;omega)
  (fun j h=>⟨a+j,zG h⟩)
  (fun i o j m h=>by
   obtain⟨rfl,l⟩:=je h;obtain⟨e,D,hb,r⟩:=c j o l m
   exact⟨e,D,hb,by rw[r];exact zG (by omega)⟩)
  (fun k x i v w h=>y k x i v w (rZ h)) s
  (fun i o m A h=>g i o m A (rZ h))
  (fun i o k m h=>by obtain⟨rfl,l⟩:=je h;exact d k o l m) f
end
def stl(sl:List Nat)(i:Nat):Option Nat:=sl.findIdx? (· == i)
theorem df{sl:List Nat}{i j:Nat}(h:stl sl i=some j):sl[j]?=some i:=by
 unfold stl at h;rw[GJ]at h;obtain⟨b,a,_⟩:=h;rw[sx b];rw[xm]at a;rw[a]
theorem jf{sl:List Nat}{i:Nat}(h:stl sl i=none):i ∉ sl:=by
 unfold stl at h;rw[List.findIdx?_eq_none_iff]at h;intro a;have:=h i a;simp at this
theorem fy{sl:List Nat}{i j:Nat}(h:sl[j]?=some i):j<sl.length:=(ts.1 h).1
section
variable {P:Program}{ops:Array Oper}{Q:Exit->Act->World->Prop}{fr:(Nat->Value)->Act}{R:Nat->Value->Prop}{T:Nat->(Nat->Value)->World->Prop}{id:Nat}{w:World}{x0:Nat->Value}
theorem nP(sl:List Nat){n:Nat}(y:P.follows .mixedOrders=true)(u:ops.size=n+1)
 (m:∀i o,ops[i]?=some o->i<n->∀x v,(fr x).put o.dst v=fr (upd x i v))
 (q:∀i o,ops[i]?=some o->∀e∈o.after,Region.binds .any e=true->e.on<i)
 (a:∀j,j<n->∃k o,j<k/\k<=n/\ops[k]?=some o/\∃e∈o.after,Region.binds .any e=true/\e.on=j)
 (s:∀i∈sl,i<n) (l:∀j,j<sl.length->∃i,sl[j]?=some i/\stl sl i=some j)
 (b:∀i o j,ops[i]?=some o->sl[j+1]?=some i->∃e∈o.after,Region.binds .any e=true/\stl sl e.on=some j)
 (A:∀k x i v w,i ∉ sl->T k x w->T k (upd x i v) w)
 (t:T 0 x0 w.drew)
 (f:∀i o,ops[i]?=some o->i<n->i ∉ sl->nc P ops Q fr R T i o)
 (c:∀k i o,sl[k]?=some i->ops[i]?=some o->ig P ops Q fr R T k i o)
 (d:∀o,ops[n]?=some o->∀x wq,T sl.length x wq->(∀j,j<n->R j (x j))->∀K':Act->World->Prop,Shut (∀a' w',Q .normal a' w'->K' a' w') ->
  if Region.wanted o (yielded ops (fr x).tmps)=true then Oper.wp P o (fr x) wq K' Q else K' ((fr x).put o.dst undef) wq) :
 (Code.region id ops true).wp P Q (fr x0) w :=
 iI (R:=R) (T:=T) (st:=stl sl) (K:=sl.length) y u m q a
  (fun i j h=>⟨s i (pk (df h)),fy (df h)⟩)
  (fun i B j h z=>by have p:=df h;rw[df z]at p;injection p with p;exact p.symm)
  (fun j h=>by obtain⟨i,_,r⟩:=l j h;exact⟨i,r⟩)
  (fun i o j g h=>b i o j g (df h))
  (fun k x i v w h=>A k x i v w (jf h)) t
  (fun i o g r h=>f i o g r (jf h))
  (fun i o k g h=>c k i o (df h) g) d
end
def VE(u:Value):Value->Prop:=fun v=>v=u
def VA:Value->Prop:=fun _=>True
structure RdL (B:Nat) (w:World) (gr:Nat) (s:PS) (A:Option Addr) (n c:Nat) (A':Option Addr) (n' c':Nat) (A'':Option Addr) (n'' c'':Nat):Prop where
  rd:RdP B w gr (ae s.L.name) (.slice A n c) (.slice A' n' c') (.slice A'' n'' c'') s
  bd:bc 62 (BdC 130) 2 w B (.slice A n c) n s.L.bodies
  jt:bc 79 JtC 7 w B (.slice A' n' c') n' s.L.joints
  dr:bc 81 DrC 2 w B (.slice A'' n'' c'') n'' s.L.drivers
  nm:NmL s.L.name
  cnt:n+n'+n''+s.toks.length<=70000
  pts:∀b∈s.L.bodies,b.pts.length<=70000
def E8(B:Nat)(w:World)(gr:Nat)(s:PS)(e:Ending)(w':World):Prop:=e=.returned (.tuple #[])/\(∃A n c A' n' c' A'' n'' c'',RdL B w' gr s A n c A' n' c' A'' n'' c'')/\Below B w w'
section
variable {B:Nat}{w w':World}{gr:Nat}{c1 c2 c3 c4:Value}{s:PS}
theorem RdP.other{T:TypeId->Bool}(h:RdP B w gr c1 c2 c3 c4 s)(b:Tch T w w')(d:T 87=false)(hb:Below B w w'):RdP B w' gr c1 c2 c3 c4 s:=by
 obtain⟨A,n,c,f,a⟩:=h.blk;exact⟨⟨A,n,c,b.2 gr _ _ _ f (.inl d),a.belB hb⟩,h.mx.belB hb,h.hB,h.len,h.txt,h.hw⟩
theorem RdP.put2(h:RdP B w gr c1 c2 c3 c4 s)(v:Value)(f:noW v=true){b:PS}(a:b.toks=s.toks)(i:b.x=s.x):RdP B (w.setCell ⟨gr,2,none⟩ v) gr c1 v c3 c4 b:=by
 obtain⟨A,n,c,g,d⟩:=h.blk;have hb:Below B w (w.setCell ⟨gr,2,none⟩ v):=(kz B w).setCell (p:=⟨gr,2,none⟩) h.hB v;exact⟨⟨A,n,c,by rw[i];exact g.s62 v,by rw[a];exact d.belB hb⟩,h.mx.belB hb,h.hB,by rw[a];exact h.len,by rw[a];exact h.txt,h.hw.1,f,h.hw.2.2⟩
theorem RdP.put3(h:RdP B w gr c1 c2 c3 c4 s)(v:Value)(f:noW v=true){b:PS}(a:b.toks=s.toks)(i:b.x=s.x):RdP B (w.setCell ⟨gr,3,none⟩ v) gr c1 c2 v c4 b:=by
 obtain⟨A,n,c,g,d⟩:=h.blk;have hb:Below B w (w.setCell ⟨gr,3,none⟩ v):=(kz B w).setCell (p:=⟨gr,3,none⟩) h.hB v;exact⟨⟨A,n,c,by rw[i];exact g.s63 v,by rw[a];exact d.belB hb⟩,h.mx.belB hb,h.hB,by rw[a];exact h.len,by rw[a];exact h.txt,h.hw.1,h.hw.2.1,f,h.hw.2.2.2⟩
theorem RdP.put4(h:RdP B w gr c1 c2 c3 c4 s)(v:Value)(f:noW v=true){b:PS}(a:b.toks=s.toks)(i:b.x=s.x):RdP B (w.setCell ⟨gr,4,none⟩ v) gr c1 c2 c3 v b:=by
 obtain⟨A,n,c,g,d⟩:=h.blk;have hb:Below B w (w.setCell ⟨gr,4,none⟩ v):=(kz B w).setCell (p:=⟨gr,4,none⟩) h.hB v;exact⟨⟨A,n,c,by rw[i];exact g.s64 v,by rw[a];exact d.belB hb⟩,h.mx.belB hb,h.hB,by rw[a];exact h.len,by rw[a];exact h.txt,h.hw.1,h.hw.2.1,h.hw.2.2.1,f⟩
theorem RdP.put1(h:RdP B w gr c1 c2 c3 c4 s)(v:Value)(f:noW v=true){b:PS}(a:b.toks=s.toks)(i:b.x=s.x):RdP B (w.setCell ⟨gr,1,none⟩ v) gr v c2 c3 c4 b:=by
 obtain⟨A,n,c,g,d⟩:=h.blk;have hb:Below B w (w.setCell ⟨gr,1,none⟩ v):=(kz B w).setCell (p:=⟨gr,1,none⟩) h.hB v;exact⟨⟨A,n,c,by rw[i];exact g.s61 v,by rw[a];exact d.belB hb⟩,h.mx.belB hb,h.hB,by rw[a];exact h.len,by rw[a];exact h.txt,f,h.hw.2⟩
theorem RdP.drew(h:RdP B w gr c1 c2 c3 c4 s):RdP B w.drew gr c1 c2 c3 c4 s:=⟨h.blk,h.mx,h.hB,h.len,h.txt,h.hw⟩
theorem RdP.cells(h:RdP B w gr c1 c2 c3 c4 s):w.cell? ⟨gr,1,none⟩=some c1/\w.cell? ⟨gr,2,none⟩=some c2/\w.cell? ⟨gr,3,none⟩=some c3/\w.cell? ⟨gr,4,none⟩=some c4/\w.frozen? ⟨gr,1,none⟩=false/\w.frozen? ⟨gr,2,none⟩=false/\w.frozen? ⟨gr,3,none⟩=false/\w.frozen? ⟨gr,4,none⟩=false:=by
 obtain⟨A,n,c,hb,_⟩:=h.blk;obtain⟨_,b,d,f,a,_⟩:=hb.c6;exact⟨b,d,f,a,hb.frozen 1,hb.frozen 2,hb.frozen 3,hb.frozen 4⟩
def bI(t:TypeId):TypeId->Bool:=fun u=>u==t
theorem RdP.tchR(h:RdP B w gr c1 c2 c3 c4 s)(k:w.grownBy w' (some gr)):Tch (bI 87) w w':=h.tch k (by simp[bI])
end
theorem fS{α:Type}{g:TypeId}{Pc:World->List Value->α->Prop}{sz B n:Nat}{w h:World}{v r:Value}{l:List α}{i cs:List Value}{a:α}{o:Obj}(t:l.length=n)(c:OwJ noW w B g sz v n i)(m:jd Pc sz w l i)
 (y:Pc w cs a) (q:cs.length=sz) (f:OwJ noW h B g sz r (n+1) (i++cs)) (b:(w.alloc o).grownBy h v.ownBlock) (hB:B<=w.heap.size) (j:∀w' cs a,Tch (bI g) w w'->Pc w cs a->Pc w' cs a) :
 bc g Pc sz h B r (n+1) (l++[a])/\Tch (bI g) w h/\Below B w h:=by
 have d:OwJ noW (w.alloc o) B g sz v n i:=c.belw ((kz _ _).alloc Qr o);have p:Tch (bI g) w h:=(Tch.below ((kz _ _).alloc Qr o)).trans (Tch.grown (fun _ u=>u) (by simp[bI]) d b);exact⟨⟨by simp[t],i++cs,f,(m.map_ fun cs a x=>j _ _ _ p x).snoc (j _ _ _ p y) q⟩,p,((kz B w).alloc hB o).grown b (by simp;omega) (fun k s=>(c.at_ s).1)⟩
def DQ(B gr:Nat)(w:World)(c1 c2 c3 c4:Value)(s:PS)(b:aq)(v:Value)(wq:World):Prop :=
  ∃A n c,v=.agg #[ae b.name,.slice A n c]/\ls 130 wq A n c b.pts/\NmL b.name/\RdP B wq gr c1 c2 c3 c4 s/\w.grownBy wq (some gr)
def TB(B gr:Nat)(w:World)(c1 c2 c3 c4:Value)(s:PS)(b:aq)(n:Nat)(l:List aq):Nat->Value->Value->Value->World->Prop
  |0,_,_,_,wq=>wq=w.drew
  |1,v7,_,_,wq=>DQ B gr w c1 c2 c3 c4 s b v7 wq
  |2,_,v8,_,wq=>∃w2 A n' c',DQ B gr w c1 c2 c3 c4 s b (.agg #[ae b.name,.slice A n' c']) w2/\v8=.slice (some ⟨w2.heap.size,0,none⟩) 1 1/\wq=w2.alloc (.cells #[ae b.name,.slice A n' c'] 62)
  |3,_,_,v9,wq=>∃w2 v A5 c5,DQ B gr w c1 c2 c3 c4 s b v w2/\v9=.slice A5 (n+1) c5/\bc 62 (BdC 130) 2 wq B v9 (n+1) (l++[b])/\Tch (bI 62) w2 wq/\Below B w2 wq
  |_,_,_,_,_=>False
theorem TB.rd{B c:Nat}{w:World}{c1 c2 c3 c4:Value}{f s:PS}{b:aq}{n:Nat}{l:List aq}(a:RdP B w c c1 c2 c3 c4 f):∀ {k:Nat}{i j g:Value}{d:World},TB B c w c1 c2 c3 c4 s b n l k i j g d->∃s',RdP B d c c1 c2 c3 c4 s'
 |0,_,_,_,_,h=>by
  have h:_=_:=h;rw[h];exact⟨f,⟨a.blk,a.mx,a.hB,a.len,a.txt,a.hw⟩⟩
 |1,_,_,_,_,⟨_,_,_,_,_,_,h,_⟩=>⟨s,h⟩
 |2,_,_,_,_,⟨w2,_,_,_,⟨_,_,_,_,_,_,h,_⟩,_,e⟩=>⟨s,by rw[e];exact h.alloc _⟩
 |3,_,_,_,_,⟨w2,_,_,_,⟨_,_,_,_,_,_,h,_⟩,_,_,ht,hb⟩=>⟨s,h.other ht (by decide) hb⟩
 |_+4,_,_,_,_,h=>False.elim h
def TJ_{α:Type}(T0:TypeId)(Pc:World->List Value->α->Prop)(sz:Nat)(B gj:Nat)(w:World)(cs:List Value)(a:α)(n:Nat)(l:List α):Nat->Value->Value->World->Prop
  |0,_,_,wq=>wq=w.drew
  |1,v7,_,wq=>v7=.slice (some ⟨w.heap.size,0,none⟩) 1 1/\wq=w.drew.alloc (.cells cs.toArray T0)
  |2,_,v8,wq=>∃A5 c5,v8=.slice A5 (n+1) c5/\bc T0 Pc sz wq B v8 (n+1) (l++[a])/\Blk wq gj T0 cs.toArray/\Tch (bI T0) w wq/\Below B w wq
  |_,_,_,_=>False
theorem TJ_.rd{α:Type}{f:TypeId}{Pc:World->List Value->α->Prop}{sz B g d n:Nat}{w:World}{cs:List Value}{a:α}{l:List α}{c1 c2 c3 c4:Value}{s:PS}(i:bI f 87=false)(b:RdP B w d c1 c2 c3 c4 s):∀ {k:Nat}{j m:Value}{c:World},TJ_ f Pc sz B g w cs a n l k j m c->RdP B c d c1 c2 c3 c4 s
 |0,_,_,_,h=>by
  have h:_=_:=h;rw[h];exact⟨b.blk,b.mx,b.hB,b.len,b.txt,b.hw⟩
 |1,_,_,_,⟨_,e⟩=>by
  rw[e];exact b.drew.alloc _
 |2,_,_,_,⟨_,_,_,_,_,ht,hb⟩=>b.other ht i hb
 |_+3,_,_,_,h=>False.elim h
theorem TJ_.blk{α:Type}{b:TypeId}{Pc:World->List Value->α->Prop}{sz B c n:Nat}{w:World}{cs:List Value}{a:α}{l:List α}(hb:Blk w c b cs.toArray):∀ {k:Nat}{g f:Value}{d:World},TJ_ b Pc sz B c w cs a n l k g f d->Blk d c b cs.toArray
 |0,_,_,_,h=>by
  have h:_=_:=h;rw[h];exact hb.drew
 |1,_,_,_,⟨_,e⟩=>by rw[e];exact hb.drew.alloc _
 |2,_,_,_,⟨_,_,_,_,h,_⟩=>h
 |_+3,_,_,_,h=>False.elim h
abbrev fr4(u0 u1 u2 u3 u4 u5 u6 u7 u8 u9 u10 u11 u12 u26 u27 u28 u29 u30 u31 u32 u33 u34 u35 u36 u37 u38 u39 u40 u41 u42 u43 u44 u45 u46 u47 u48 u49 u50 u51 u52 u53 u54 u55 u56 u57 u58 u59 u60 u61 u62 u63 u64 u65 u66 u67 u68 u69 u70 u71 u72 u73 u74 u75 u76 u77 u78 u79 u80 u81 u82 u83 u84 u85 u86 u87 u88 u89 u90 u91 u92:Value)(xf:Nat->Value):Act:=⟨List.toArray (u0::u1::u2::u3::u4::u5::u6::u7::u8::u9::u10::u11::u12::xf 0::xf 1::xf 2::xf 3::xf 4::xf 5::xf 6::xf 7::xf 8::xf 9::xf 10::xf 11::xf 12::u26::u27::u28::u29::u30::u31::u32::u33::u34::u35::u36::u37::u38::u39::u40::u41::u42::u43::u44::u45::u46::u47::u48::u49::u50::u51::u52::u53::u54::u55::u56::u57::u58::u59::u60::u61::u62::u63::u64::u65::u66::u67::u68::u69::u70::u71::u72::u73::u74::u75::u76::u77::u78::u79::u80::u81::u82::u83::u84::u85::u86::u87::u88::u89::u90::u91::u92::[]),[]⟩
abbrev lO(u0 u1 u2 u3 u4 u5 u6 u7 u8 u9 u10 u11 u12 u13 u14 u15 u16 u17 u18 u19 u20 u21 u22 u23 u24 u25 u26 u27 u28 u29 u30 u31 u32 u33 u34 u35 u36 u37 u38 u39 u40 u41 u42 u43 u44 u45 u46 u47 u48 u49 u50 u51 u52 u53 u54 u55 u56 u57 u58 u71 u72 u73 u74 u75 u76 u77 u78 u79 u80 u81 u82 u83 u84 u85 u86 u87 u88 u89 u90 u91 u92:Value)(xf:Nat->Value):Act:=⟨List.toArray (u0::u1::u2::u3::u4::u5::u6::u7::u8::u9::u10::u11::u12::u13::u14::u15::u16::u17::u18::u19::u20::u21::u22::u23::u24::u25::u26::u27::u28::u29::u30::u31::u32::u33::u34::u35::u36::u37::u38::u39::u40::u41::u42::u43::u44::u45::u46::u47::u48::u49::u50::u51::u52::u53::u54::u55::u56::u57::u58::xf 0::xf 1::xf 2::xf 3::xf 4::xf 5::xf 6::xf 7::xf 8::xf 9::xf 10::xf 11::u71::u72::u73::u74::u75::u76::u77::u78::u79::u80::u81::u82::u83::u84::u85::u86::u87::u88::u89::u90::u91::u92::[]),[]⟩
abbrev wJ(u0 u1 u2 u3 u4 u5 u6 u7 u8 u9 u10 u11 u12 u13 u14 u15 u16 u17 u18 u19 u20 u21 u22 u23 u24 u25 u26 u27 u28 u29 u30 u31 u32 u33 u34 u35 u36 u37 u38 u39 u40 u41 u42 u43 u44 u45 u46 u47 u48 u49 u50 u51 u52 u53 u54 u55 u56 u57 u58 u59 u60 u61 u62 u63 u64 u65 u66 u67 u68 u69 u70 u71 u72 u73 u74 u75 u76 u77 u78 u79 u80:Value)(xf:Nat->Value):Act:=⟨List.toArray (u0::u1::u2::u3::u4::u5::u6::u7::u8::u9::u10::u11::u12::u13::u14::u15::u16::u17::u18::u19::u20::u21::u22::u23::u24::u25::u26::u27::u28::u29::u30::u31::u32::u33::u34::u35::u36::u37::u38::u39::u40::u41::u42::u43::u44::u45::u46::u47::u48::u49::u50::u51::u52::u53::u54::u55::u56::u57::u58::u59::u60::u61::u62::u63::u64::u65::u66::u67::u68::u69::u70::u71::u72::u73::u74::u75::u76::u77::u78::u79::u80::xf 0::xf 1::xf 2::xf 3::xf 4::xf 5::xf 6::xf 7::xf 8::xf 9::xf 10::xf 11::[]),[]⟩
theorem tw{α:Type}{d:TypeId}{Pc:World->List Value->α->Prop}{sz base n g:Nat}{w:World}{v:Value}{l:List α}(h:bc d Pc sz w base v n l)(i:w.heap.size<=g):some g≠v.ownBlock:=by
 intro e;obtain⟨_,f,a,_⟩:=h;obtain⟨_,b,c,_⟩:=a.at_ e.symm;have:=Gi c;omega
theorem fs{B g:Nat}(w:World)(hB:B<=g)(i j:Nat)(a b:Value):Below B w ((w.setCell ⟨g,i,none⟩ a).setCell ⟨g,j,none⟩ b) :=
 ((kz B w).setCell (p:=⟨g,i,none⟩) hB a).setCell (p:=⟨g,j,none⟩) hB b
theorem Ce(B:Nat)(w:World)(y:Nat)(s:PS)(A:Option Addr)(n c:Nat)(V:Option Addr)(H U:Nat)(E:Option Addr)(r D:Nat)(h:RdL B w y s A n c V H U E r D):Calls Tryz.prog 41 #[.pointer (some ⟨y,0,none⟩)] w (E8 B w y s.item):=by
 have c9:s.word.1=dG\/s.word.1=iZ\/s.word.1=dL\/s.word.1=dz\/(s.word.1≠dG/\s.word.1≠iZ/\s.word.1≠dL/\s.word.1≠dz):=by
  by_cases h1:s.word.1=dG
  ·exact .inl h1
  by_cases h2:s.word.1=iZ
  ·exact .inr (.inl h2)
  by_cases h3:s.word.1=dL
  ·exact .inr (.inr (.inl h3))
  by_cases h4:s.word.1=dz
  ·exact .inr (.inr (.inr (.inl h4)))
  exact .inr (.inr (.inr (.inr ⟨h1,h2,h3,h4⟩)))
 rcases c9 with M|M|M|M|⟨k1,k2,k3,k4⟩
 have P:=Qh M;have cu:(s.word.1==[98,111,100,121])=true:=by rw[M];decide
 clear M;rotate_left;have P:=Qh M;have cu:(s.word.1==[98,111,100,121])=false:=by rw[M];decide
 have dd:(s.word.1==[112,105,110])=true:=by rw[M];decide
 have aT:(s.word.1==[115,108,105,100,101])=false:=by rw[M];decide
 clear M;rotate_left;have P:=Qh M;have cu:(s.word.1==[98,111,100,121])=false:=by rw[M];decide
 have dd:(s.word.1==[112,105,110])=false:=by rw[M];decide
 have aT:(s.word.1==[115,108,105,100,101])=true:=by rw[M];decide
 clear M;rotate_left;have P:=Qh M;have cu:(s.word.1==[98,111,100,121])=false:=by rw[M];decide
 have dd:(s.word.1==[112,105,110])=false:=by rw[M];decide
 have aT:(s.word.1==[115,108,105,100,101])=false:=by rw[M];decide
 have ek:(s.word.1==[100,114,105,118,101,114])=true:=by rw[M];decide
 clear M;rotate_left;have cu:(s.word.1==[98,111,100,121])=false:=it.2 k1;have dd:(s.word.1==[112,105,110])=false:=it.2 k2;have aT:(s.word.1==[115,108,105,100,101])=false:=it.2 k3;have ek:(s.word.1==[100,114,105,118,101,114])=false:=it.2 k4;have HK:=Qh (show s.item=s.word.2.fail 2 by unfold PS.item;rw[kl k1,kl k2,kl k3,kl k4]);clear k1 k2 k3 k4;rotate_left
 all_goals
  obtain⟨i0,d0,d6,ed,dO⟩:=Gb uE;obtain⟨ij,dq,d4,d3,ee⟩:=Gb uF;obtain⟨id,b7,cc,cp,cr⟩:=Gb uG;have HI:=Qh (And.intro d0 (And.intro d6 (And.intro ed dO)));have bs:=Qh (And.intro dq (And.intro d4 (And.intro d3 ee)));have co:=Qh (And.intro b7 (And.intro cc (And.intro cp cr)));clear d0 d6 ed dO dq d4 d3 ee b7 cc cp cr;have ba:=Qh (aM s).2.2.2;have b5:=Qh ((aM s).trans (aM s.word.2)).2.2.2;have O:=Qh h;obtain⟨W,hW⟩:=Z9 (s.item);rw[hW];have HW:=Qh hW;clear h hW;go_in;go_wp2_with fail;refine(eU B _ y (ae s.L.name) (.slice A n c) (.slice V H U) (.slice E r D) s O.out.rd).mono ?_;rintro e w1⟨rfl,h1,c0⟩;have F:=Qh h1;have es:=h1.lt;have b2:=Qh (ix c0 (B:=B) (by have:=O.out.rd.lt;have:=O.out.rd.hB;omega) O.out.rd.hB);have t0:=O.out.rd.tchR c0;have an:=Qh (O.out.bd.tch t0 (by decide) (fun _ _ x=>x.tch t0 (by decide)));have bz:=Qh (O.out.jt.tch t0 (by decide) (fun _ _ x=>x));have b0:=Qh (O.out.dr.tch t0 (by decide) (fun _ _ x=>x));obtain⟨Ak,nk,ck,cn,_⟩:=h1.blk;have cj:=Qh cn;clear h1 c0 t0 cn;have hn:=aK s.word.1
 ·go_wp2_with fail
  change Code.wp _ _ _ (fr4 _ _ _ _ _ _ _ _ _ _ _ _ _ _ _ _ _ _ _ _ _ _ _ _ _ _ _ _ _ _ _ _ _ _ _ _ _ _ _ _ _ _ _ _ _ _ _ _ _ _ _ _ _ _ _ _ _ _ _ _ _ _ _ _ _ _ _ _ _ _ _ _ _ _ _ _ _ _ _ _ (fun _=>undef)) _;refine eV (n:=13) (a:=7) (K:=3) (x0:=fun _=>undef) (R:=fun ri=>List.getD ((VE (.pointer (some ⟨y,0,none⟩)))::(VE (.pointer (some ⟨y,0,none⟩)))::(VE (.pointer (some ⟨y,0,none⟩)))::(VE (.pointer (some ⟨y,1,none⟩)))::(VE (.pointer (some ⟨y,2,none⟩)))::(VE (.slice A n c))::(VE (.pointer (some ⟨y,0,none⟩)))::VA::VA::VA::(VE (.pointer (some ⟨y,0,none⟩)))::(VE (.pointer (some ⟨y,1,none⟩)))::(VE (.pointer (some ⟨y,2,none⟩)))::[]) ri VA) (T:=fun k x t=>TB B y w1 (ae s.L.name) (.slice A n c) (.slice V H U) (.slice E r D) s.word.2.body.2 s.word.2.body.1 n s.L.bodies k (x 7) (x 8) (x 9) t) (by kernel_rfl) rfl ?_ ?_ ?_ (by decide) ?_ ?_ rfl ?_ ?_ ?_
  ·exact aD ⟨(fun _ _ _=>rfl),(fun _ _ _=>rfl),(fun _ _ _=>rfl),(fun _ _ _=>rfl),(fun _ _ _=>rfl),(fun _ _ _=>rfl),(fun _ _ _=>rfl),(fun _ _ _=>rfl),(fun _ _ _=>rfl),(fun _ _ _=>rfl),(fun _ _ _=>rfl),(fun _ _ _=>rfl),(fun _ _ _=>rfl),(fun h=>absurd h (by decide)),trivial⟩
  ·exact aD (bP _ 0 (by kernel_rfl))
  ·exact(fun j hj=>fk (by kernel_rfl) hj)
  ·intro j o hj C
   obtain rfl|rfl:j=0\/j=1:=by omega
   ·injection C with C
    subst C;exact⟨⟨7,.data⟩,by simp,rfl,rfl⟩
   injection C with C;subst C;exact⟨⟨8,.data⟩,by simp,rfl,rfl⟩
  ·intro k x i v w hi h
   have e7:upd x i v 7=x 7:=aN _ _ (by omega);have e8:upd x i v 8=x 8:=aN _ _ (by omega);have e9:upd x i v 9=x 9:=aN _ _ (by omega);simp only[e7,e8,e9];exact h
  ·refine aD ⟨?_,?_,?_,?_,?_,?_,?_,(fun _ h=>absurd h (by decide)),(fun _ h=>absurd h (by decide)),(fun _ h=>absurd h (by decide)),?_,?_,?_,(fun h=>absurd h (by decide)),trivial⟩
   intro _ _ k f t u hd K z;have m:=trivial;rotate_left;intro _ _ k f t u hd K z;have m:=trivial;rotate_left;intro _ _ k f t u hd K z;have m:f 1=_:=hd ⟨1,.data⟩ (by simp) rfl;rotate_left;intro _ _ k f t u hd K z;have m:f 2=_:=hd ⟨2,.data⟩ (by simp) rfl;rotate_left;intro _ _ k f t u hd K z;have m:f 3=_:=hd ⟨3,.data⟩ (by simp) rfl;rotate_left;intro _ _ k f t u hd K z;have m:f 4=_:=hd ⟨4,.data⟩ (by simp) rfl;obtain⟨sz,eg⟩:=TB.rd F.out u;obtain⟨_,ac,_⟩:=eg.cells;rotate_left;intro _ _ k f t u hd K z;have m:=trivial;rotate_left;intro _ _ k f t u hd K z;have m:f 0=_:=hd ⟨0,.data⟩ (by simp) rfl;rotate_left;intro _ _ k f t u hd K z;have m:f 10=_:=hd ⟨10,.data⟩ (by simp) rfl;rotate_left;intro _ _ k f t u hd K z;have m:f 11=_:=hd ⟨11,.data⟩ (by simp) rfl;rotate_left
   all_goals
    (try dsimp only[fr4]);(try simp only[m]);go_simp;have Q:=z.out _ rfl;dsimp only[fr4]at Q;(try simp only[m]at Q);exact Q
  ·intro k o hk C
   obtain rfl|rfl|rfl:=(show k=0\/k=1\/k=2 by omega)
   ·injection C with C
    subst C;intro f t u hd K z;have aC:f 6=.pointer (some ⟨y,0,none⟩):=hd ⟨6,.data⟩ (by simp) rfl;have u:t=w1.drew:=u;subst u;(try dsimp only[fr4]);(try simp only[aC]);go_simp;go_at_call 72;refine(Cd B _ y (ae s.L.name) (.slice A n c) (.slice V H U) (.slice E r D) s.word.2 F.out.drew).mono ?_;rintro e wr⟨A3,n3,c3,rfl,hm,bo,hr,hg⟩;have Q:=z.out _ _ trivial ⟨A3,n3,c3,rfl,hm,bo,hr,aJ (Cb (rg_refl y w1)) hg⟩;dsimp only[fr4]at Q;simp only[aC]at Q;exact Q
   ·injection C with C
    subst C;intro f t u hd K z;obtain⟨A3,n3,c3,e7,hm,bo,hr,hg⟩:TB B y w1 (ae s.L.name) (.slice A n c) (.slice V H U) (.slice E r D) s.word.2.body.2 s.word.2.body.1 n s.L.bodies 1 (f 7) (f 8) (f 9) t:=u;(try dsimp only[fr4]);(try simp only[e7]);go_simp;have Q:=z.out (.slice (some ⟨t.heap.size,0,none⟩) 1 1) (t.alloc (.cells #[ae s.word.2.body.1.name,.slice A3 n3 c3] 62)) trivial ⟨t,A3,n3,c3,⟨A3,n3,c3,rfl,hm,bo,hr,hg⟩,rfl,rfl⟩;dsimp only[fr4]at Q;simp only[e7]at Q;exact Q
   injection C with C;subst C;intro f t u hd K z;obtain⟨w2,A3,n3,c3,⟨A4,n4,c4,e4,hm,bo,hr,hg⟩,e8,ew⟩:TB B y w1 (ae s.L.name) (.slice A n c) (.slice V H U) (.slice E r D) s.word.2.body.2 s.word.2.body.1 n s.L.bodies 2 (f 7) (f 8) (f 9) t:=u;subst ew;cases e4;have bF:f 5=.slice A n c:=hd ⟨5,.data⟩ (by simp) rfl;obtain⟨hl,xs,G,q⟩:=an.out.rgt cj.out (by decide) hg (fun _ _ x=>x.tch (F.out.tchR hg) (by decide));have cL:=hr.lt;have c6:=hr.hB;rw[kZ (show Region.wanted _ _=true from rfl)];refine gk _ noW _ _ _ rfl B 62 i0 (.agg #[.string ⟨#[]⟩,.slice none 0 0]) 2 40 Tryz.underlying32 HI.out.1 HI.out.2.1 HI.out.2.2.1 HI.out.2.2.2 rfl (by omega) rfl (.slice A n c) n xs bF (G.belw ((kz _ _).alloc Qr _)) ⟨w2.heap.size,0,none⟩ 1 1 [ae s.word.2.body.1.name,.slice A3 n3 c3] e8 rfl (x9 (Ao w2 _)) (by simp[Value.oneCell']) rfl (by omega) (by have:=O.out.cnt;unfold maxLen;omega) (by have:=O.out.cnt;omega) (by simp;omega) ?_;intro g5 cap w5 X N _;have hp:=fS hl G q (a:=s.word.2.body.1) (cs:=[ae s.word.2.body.1.name,.slice A3 n3 c3]) ⟨A3,n3,c3,rfl,hm,bo⟩ rfl X N (by omega) (fun _ _ _ ht x=>x.tch ht (by decide));exact z.out _ _ trivial ⟨w2,_,some ⟨g5,0,none⟩,cap,⟨A3,n3,c3,rfl,hm,bo,hr,hg⟩,rfl,hp.1,hp.2.1,hp.2.2⟩
  intro o C f t u hr K z;injection C with C;subst C;obtain⟨w2,v,A5,c5,⟨A4,n4,c4,e4,hm,bo,ec,hg⟩,e9,q,ht,hb⟩:TB B y w1 (ae s.L.name) (.slice A n c) (.slice V H U) (.slice E r D) s.word.2.body.2 s.word.2.body.1 n s.L.bodies 3 (f 7) (f 8) (f 9) t:=u;have d1:f 12=.pointer (some ⟨y,2,none⟩):=hr 12 (by decide);have RQ:=ec.other ht (by decide) hb;obtain⟨_,ac,_,_,_,c1,_⟩:=RQ.cells;rw[e9]at q;have aF:=Qh RQ;have aZ:=Qh q;clear RQ q ec hm bo hr;(try dsimp only[fr4]);(try simp only[d1,e9]);go_simp;refine z.out _ _ ?_;go_wp2_with fail;go_end0;have t1:=F.out.tchR hg;have t3:=aF.out.tchR (rg_set (rg_refl y t) 2 (.slice A5 (n+1) c5));have Z:=kQ s.word.2;have S:s.word.2.body.2.L=s.L:=((aM s).trans Z).2.2.2;have b1:=jJ (s:=s) (by rw[P.out];decide);have eW:W=s.word.2.body.2.addB s.word.2.body.1:=by rw[<-HW.out];unfold PS.item;rw[kZ P.out]
  subst eW;refine⟨rfl,⟨A5,n+1,c5,V,H,U,E,r,D,⟨?_,?_,?_,?_,?_,?_,?_⟩⟩,?_⟩
  ·show RdP B _ y (ae s.word.2.body.2.L.name) _ _ _ _
   rw[S];exact aF.out.put2 _ rfl rfl rfl
  ·show bc _ _ _ _ _ _ _ (s.word.2.body.2.L.bodies++[s.word.2.body.1])
   rw[S];exact aZ.out.tch t3 (by decide) (fun _ _ x=>x.tch t3 (by decide))
  ·show bc _ _ _ _ _ _ _ s.word.2.body.2.L.joints
   rw[S];exact((bz.out.tch t1 (by decide) (fun _ _ x=>x)).tch ht (by decide) (fun _ _ x=>x)).tch t3 (by decide) (fun _ _ x=>x)
  ·show bc _ _ _ _ _ _ _ s.word.2.body.2.L.drivers
   rw[S];exact((b0.out.tch t1 (by decide) (fun _ _ x=>x)).tch ht (by decide) (fun _ _ x=>x)).tch t3 (by decide) (fun _ _ x=>x)
  ·show NmL s.word.2.body.2.L.name
   rw[S];exact O.out.nm
  ·show n+1+H+r+s.word.2.body.2.toks.length<=_
   have h1:=O.out.cnt;have h2:=Z.1;omega
  ·intro b I
   have I:b∈s.word.2.body.2.L.bodies++[s.word.2.body.1]:=I;rw[S]at I;rcases Gu.1 I with I|I
   ·exact O.out.pts b I
   simp at I;subst I;have h1:=zy s.word.2;have h2:=F.out.len;omega
  exact((b2.out.trans (ix hg (by have:=F.out.lt;have:=F.out.hB;omega) F.out.hB)).trans hb).setCell (p:=⟨y,2,none⟩) F.out.hB _
 ·go_wp2_with fail
  refine(eU B _ y (ae s.L.name) (.slice A n c) (.slice V H U) (.slice E r D) s.word.2 F.out).mono ?_;rintro e w2⟨rfl,h2,ab⟩;have H2:=Qh h2;have ad:=h2.lt;have al:=ab.size;have b3:=Qh (iw F.out.txt);clear h2;go_wp2_with fail;refine(kU B _ y (ae s.L.name) (.slice V H U) (.slice E r D) A n c s.word.2.word.2 (H2.out.alloc _) (by rw[b5.out];exact F.out.bodies an.out (bp ab _)) (by have:=O.out.cnt;omega) (by rw[b5.out];exact fun b hb=>Nat.le_trans (O.out.pts b hb) (by decide)) (-1)).mono ?_;rintro e w3⟨rfl,h3,aS⟩;have a0:=cJ s.word.2.word.2 (-1);generalize br:s.word.2.word.2.full (-1)=d at h3 a0⊢;have b8:=Qh br;have be:=Qh ((aM s.word.2).trans a0);clear br a0;have G3:=aJ (bp ab _) aS;have p3:Blk w3 w2.heap.size 79 #[ae s.word.2.word.1,.int .i64 0,.int .i64 0,.int .i64 0,.int .i64 0,.int .i64 0,.int .i64 0]:=bX aS (Blk.new _ _ _) (by omega);have bv:=p3.lt;have H3:=Qh h3;generalize b9:w2.heap.size=gj at ad al p3 bv⊢;have b6:=Qh (tw bz.out (g:=gj) (by omega));clear b9 aS h3 ab H2;obtain⟨ao,a3,bl,a5,a8,a7,a9⟩:=p3.c7;obtain⟨a1,a4,a6,bn,bb,bk,bg⟩:=p3.f7;have P3:=Qh p3;clear p3;go_wp2_with fail;clear ao a3 bl a5 a8 a7 a9 a1 a4 a6 bn bb bk bg;have B3:=fs w3 ad 2 3 (.int .i64 d.1) (.int .i64 d.2.1);have bw:=dI G3 (fs w3 al 2 3 (.int .i64 d.1) (.int .i64 d.2.1));refine(kU B _ y (ae s.L.name) (.slice V H U) (.slice E r D) A n c d.2.2 (H3.out.bel1 B3) (by rw[be.out.sameL,ba.out];exact F.out.bodies an.out bw) (by have:=O.out.cnt;omega) (by rw[be.out.sameL,ba.out];exact fun b hb=>Nat.le_trans (O.out.pts b hb) (by decide)) (-1)).mono ?_;rintro e w4⟨rfl,h4,bY⟩;have bx:=cJ d.2.2 (-1);generalize cm:d.2.2.full (-1)=l at h4 bx⊢;have c8:=Qh cm;have cb:=Qh (be.out.trans bx);clear cm bx;have G4:=aJ bw bY;have p4:=bX bY ((P3.out.set_ 2 (.int .i64 d.1)).set_ 3 (.int .i64 d.2.1)) (by omega);have p4:=p4;have H4:=Qh h4;have eb:=p4.lt;obtain⟨ao,a3,bl,a5,a8,a7,a9⟩:=p4.c7;obtain⟨a1,a4,a6,bn,bb,bk,bg⟩:=p4.f7;have P4:=Qh p4;clear p4 h4 bY G3 bw B3 P3 H3 bv;go_wp2_with fail;clear ao a3 bl a5 a8 a7 a9 a1 a4 a6 bn bb bk bg;refine(fF B _ y (ae s.L.name) (.slice A n c) (.slice V H U) (.slice E r D) l.2.2 (H4.out.bel1 (fs w4 ad 4 5 (.int .i64 l.1) (.int .i64 l.2.1))) [59]).mono ?_;rintro e J⟨rfl,h6,a2⟩;have G6:=Qh (aJ (dI G4 (fs w4 al 4 5 (.int .i64 l.1) (.int .i64 l.2.1))) a2);have p6:=bX a2 ((P4.out.set_ 4 (.int .i64 l.1)).set_ 5 (.int .i64 l.2.1)) (by omega);have H6:=Qh h6;have P6:=Qh p6;have HC:=Qh (show JtC J [ae s.word.2.word.1,.int .i64 0,.int .i64 d.1,.int .i64 d.2.1,.int .i64 l.1,.int .i64 l.2.1,.int .i64 0] ⟨s.word.2.word.1,0,d.1,d.2.1,l.1,l.2.1,0⟩ from⟨rfl,b3.out⟩);have cz:=Qh (bz.out.tch (F.out.tchR G6.out) (by decide) (fun _ _ x=>x));clear h6 a2 p6;go_wp2_with fail;change Code.wp _ _ _ (lO _ _ _ _ _ _ _ _ _ _ _ _ _ _ _ _ _ _ _ _ _ _ _ _ _ _ _ _ _ _ _ _ _ _ _ _ _ _ _ _ _ _ _ _ _ _ _ _ _ _ _ _ _ _ _ _ _ _ _ _ _ _ _ _ _ _ _ _ _ _ _ _ _ _ _ _ _ _ _ _ _ (fun _=>undef)) _;refine eV (n:=12) (a:=7) (K:=2) (x0:=fun _=>undef) (R:=fun ri=>List.getD ((VE (.pointer (some ⟨y,0,none⟩)))::(VE (.pointer (some ⟨y,0,none⟩)))::(VE (.pointer (some ⟨y,0,none⟩)))::(VE (.pointer (some ⟨y,1,none⟩)))::(VE (.pointer (some ⟨y,3,none⟩)))::(VE (.slice V H U))::(VE (.agg #[ae s.word.2.word.1,.int .i64 0,.int .i64 d.1,.int .i64 d.2.1,.int .i64 l.1,.int .i64 l.2.1,.int .i64 0]))::VA::VA::(VE (.pointer (some ⟨y,0,none⟩)))::(VE (.pointer (some ⟨y,1,none⟩)))::(VE (.pointer (some ⟨y,3,none⟩)))::[]) ri VA) (T:=fun k x t=>TJ_ 79 JtC 7 B gj J [ae s.word.2.word.1,.int .i64 0,.int .i64 d.1,.int .i64 d.2.1,.int .i64 l.1,.int .i64 l.2.1,.int .i64 0] ⟨s.word.2.word.1,0,d.1,d.2.1,l.1,l.2.1,0⟩ H s.L.joints k (x 7) (x 8) t) (by kernel_rfl) rfl ?_ ?_ ?_ (by decide) ?_ ?_ rfl ?_ ?_ ?_
  ·exact aD ⟨(fun _ _ _=>rfl),(fun _ _ _=>rfl),(fun _ _ _=>rfl),(fun _ _ _=>rfl),(fun _ _ _=>rfl),(fun _ _ _=>rfl),(fun _ _ _=>rfl),(fun _ _ _=>rfl),(fun _ _ _=>rfl),(fun _ _ _=>rfl),(fun _ _ _=>rfl),(fun _ _ _=>rfl),(fun h=>absurd h (by decide)),trivial⟩
  ·exact aD (bP _ 0 (by kernel_rfl))
  ·exact(fun j hj=>fk (by kernel_rfl) hj)
  ·intro j o hj C
   obtain rfl:j=0:=by omega
   injection C with C;subst C;exact⟨⟨7,.data⟩,by simp,rfl,rfl⟩
  ·intro k x i v w hi h
   have e7:upd x i v 7=x 7:=aN _ _ (by omega);have e8:upd x i v 8=x 8:=aN _ _ (by omega);simp only[e7,e8];exact h
  ·refine aD ⟨?_,?_,?_,?_,?_,?_,?_,(fun _ h=>absurd h (by decide)),(fun _ h=>absurd h (by decide)),?_,?_,?_,(fun h=>absurd h (by decide)),trivial⟩
   intro _ _ k f t u hd K z;have m:=trivial;rotate_left;intro _ _ k f t u hd K z;have m:=trivial;rotate_left;intro _ _ k f t u hd K z;have m:f 1=_:=hd ⟨1,.data⟩ (by simp) rfl;rotate_left;intro _ _ k f t u hd K z;have m:f 2=_:=hd ⟨2,.data⟩ (by simp) rfl;rotate_left;intro _ _ k f t u hd K z;have m:f 3=_:=hd ⟨3,.data⟩ (by simp) rfl;rotate_left;intro _ _ k f t u hd K z;have m:f 4=_:=hd ⟨4,.data⟩ (by simp) rfl;have ac:=(TJ_.rd (by decide) H6.out u).cells;obtain⟨_,ac,b4,ca,_⟩:=ac;rotate_left;intro _ _ k f t u hd K z;obtain⟨b7,cc,cp,cr,el,ei,eh⟩:=(TJ_.blk P6.out u).c7;have m:=trivial;rotate_left;intro _ _ k f t u hd K z;have m:f 0=_:=hd ⟨0,.data⟩ (by simp) rfl;rotate_left;intro _ _ k f t u hd K z;have m:f 9=_:=hd ⟨9,.data⟩ (by simp) rfl;rotate_left;intro _ _ k f t u hd K z;have m:f 10=_:=hd ⟨10,.data⟩ (by simp) rfl;rotate_left
   all_goals
    (try dsimp only[lO]);(try simp only[m]);go_simp;have Q:=z.out _ rfl;dsimp only[lO]at Q;(try simp only[m]at Q);exact Q
  ·intro k o hk C
   obtain rfl|rfl:=(show k=0\/k=1 by omega)
   ·injection C with C
    subst C;intro f t u hd K z;have u:t=J.drew:=u;subst u;have aC:f 6=.agg #[ae s.word.2.word.1,.int .i64 0,.int .i64 d.1,.int .i64 d.2.1,.int .i64 l.1,.int .i64 l.2.1,.int .i64 0]:=hd ⟨6,.data⟩ (by simp) rfl;(try dsimp only[lO]);(try simp only[aC]);go_simp;have Q:=z.out (.slice (some ⟨J.heap.size,0,none⟩) 1 1) (J.drew.alloc (.cells #[ae s.word.2.word.1,.int .i64 0,.int .i64 d.1,.int .i64 d.2.1,.int .i64 l.1,.int .i64 l.2.1,.int .i64 0] 79)) trivial ⟨rfl,rfl⟩;dsimp only[lO]at Q;simp only[aC]at Q;exact Q
   injection C with C;subst C;intro f t u hd K z;obtain⟨e7,ew⟩:TJ_ 79 JtC 7 B gj J [ae s.word.2.word.1,.int .i64 0,.int .i64 d.1,.int .i64 d.2.1,.int .i64 l.1,.int .i64 l.2.1,.int .i64 0] ⟨s.word.2.word.1,0,d.1,d.2.1,l.1,l.2.1,0⟩ H s.L.joints 1 (f 7) (f 8) t:=u;subst ew;have bF:f 5=.slice V H U:=hd ⟨5,.data⟩ (by simp) rfl;obtain⟨hl,xs,G,q⟩:=cz.out;have G:OwJ noW J.drew B 79 7 (.slice V H U) H xs:=G;have q:jd JtC 7 J.drew s.L.joints xs:=q;have cL:=H6.out.lt;have c6:=H6.out.hB;have dv:J.drew.heap.size=J.heap.size:=rfl;rw[kZ (show Region.wanted _ _=true from rfl)];refine gk _ noW _ _ _ rfl B 79 ij (.agg #[.string ⟨#[]⟩,.int .i64 0,.int .i64 0,.int .i64 0,.int .i64 0,.int .i64 0,.int .i64 0]) 7 64 Tryz.underlying33 bs.out.1 bs.out.2.1 bs.out.2.2.1 bs.out.2.2.2 rfl (by omega) rfl (.slice V H U) H xs bF (G.belw ((kz _ _).alloc Qr _)) ⟨J.heap.size,0,none⟩ 1 1 [ae s.word.2.word.1,.int .i64 0,.int .i64 d.1,.int .i64 d.2.1,.int .i64 l.1,.int .i64 l.2.1,.int .i64 0] e7 rfl (x9 (Ao J.drew _)) (by simp[Value.oneCell']) rfl (by omega) (by have:=O.out.cnt;unfold maxLen;omega) (by have:=O.out.cnt;omega) (by simp;omega) ?_;intro g5 cap w5 X N _;have hp:=fS hl G q (a:=⟨s.word.2.word.1,0,d.1,d.2.1,l.1,l.2.1,0⟩) (cs:=[ae s.word.2.word.1,.int .i64 0,.int .i64 d.1,.int .i64 d.2.1,.int .i64 l.1,.int .i64 l.2.1,.int .i64 0]) (show JtC J.drew _ (⟨s.word.2.word.1,0,d.1,d.2.1,l.1,l.2.1,0⟩:bj) from HC.out) rfl X N (by omega) (fun _ _ _ _ x=>x);exact z.out _ _ trivial ⟨some ⟨g5,0,none⟩,cap,rfl,hp.1,(P6.out.drew.alloc _).grown N b6.out,hp.2.1,((kz B J).drew).trans hp.2.2⟩
  intro o C f t u hr K z;injection C with C;subst C;obtain⟨A5,c5,e8,q,_,ht,hb⟩:TJ_ 79 JtC 7 B gj J [ae s.word.2.word.1,.int .i64 0,.int .i64 d.1,.int .i64 d.2.1,.int .i64 l.1,.int .i64 l.2.1,.int .i64 0] ⟨s.word.2.word.1,0,d.1,d.2.1,l.1,l.2.1,0⟩ H s.L.joints 2 (f 7) (f 8) t:=u;have bu:f 11=.pointer (some ⟨y,3,none⟩):=hr 11 (by decide);have RQ:=H6.out.other ht (by decide) hb;obtain⟨_,ac,b4,ca,_,c1,ea,ds⟩:=RQ.cells;rw[e8]at q;have aF:=Qh RQ;have aZ:=Qh q;clear RQ q hr;(try dsimp only[lO]);(try simp only[bu,e8]);go_simp;refine z.out _ _ ?_;go_wp2_with fail;go_end0;have t1:=F.out.tchR G6.out;have t3:=aF.out.tchR (rg_set (rg_refl y t) 3 (.slice A5 (H+1) c5));have Z:=cb.out.trans (aH l.2.2 2 [59]);have S:(PS.expect l.2.2 2 [59]).L=s.L:=Z.2.2.2.trans ba.out;have b1:=jJ (s:=s) (by rw[P.out];decide);have cv:=Z.1
  have eW:W=PS.addJ (PS.expect l.2.2 2 [59]) ⟨s.word.2.word.1,0,d.1,d.2.1,l.1,l.2.1,0⟩:=by
   rw[<-HW.out];unfold PS.item;rw[kl (by rw[P.out];decide),kZ P.out];unfold PS.joint;simp only[b8.out,c8.out,Gx,Hw]
  subst eW;refine⟨rfl,⟨A,n,c,A5,H+1,c5,E,r,D,⟨?_,?_,?_,?_,?_,?_,?_⟩⟩,?_⟩
  ·show RdP B _ y (ae (PS.expect l.2.2 2 [59]).L.name) _ _ _ _
   rw[S];exact aF.out.put3 _ rfl rfl rfl
  ·show bc _ _ _ _ _ _ _ (PS.expect l.2.2 2 [59]).L.bodies
   rw[S];exact((an.out.tch t1 (by decide) (fun _ _ x=>x.tch t1 (by decide))).tch ht (by decide) (fun _ _ x=>x.tch ht (by decide))).tch t3 (by decide) (fun _ _ x=>x.tch t3 (by decide))
  ·show bc _ _ _ _ _ _ _ ((PS.expect l.2.2 2 [59]).L.joints++[⟨s.word.2.word.1,0,d.1,d.2.1,l.1,l.2.1,0⟩])
   rw[S];exact aZ.out.tch t3 (by decide) (fun _ _ x=>x)
  ·show bc _ _ _ _ _ _ _ (PS.expect l.2.2 2 [59]).L.drivers
   rw[S];exact((b0.out.tch t1 (by decide) (fun _ _ x=>x)).tch ht (by decide) (fun _ _ x=>x)).tch t3 (by decide) (fun _ _ x=>x)
  ·show NmL (PS.expect l.2.2 2 [59]).L.name
   rw[S];exact O.out.nm
  ·show n+(H+1)+r+(PS.expect l.2.2 2 [59]).toks.length<=_
   have h1:=O.out.cnt;omega
  ·intro b I
   have I:b∈(PS.expect l.2.2 2 [59]).L.bodies:=I;rw[S]at I;exact O.out.pts b I
  exact((b2.out.trans (ix G6.out (by have:=F.out.lt;have:=F.out.hB;omega) F.out.hB)).trans hb).setCell (p:=⟨y,3,none⟩) F.out.hB _
 ·go_wp2_with fail
  refine(eU B _ y (ae s.L.name) (.slice A n c) (.slice V H U) (.slice E r D) s.word.2 F.out).mono ?_;rintro e w2⟨rfl,h2,ab⟩;have H2:=Qh h2;have ad:=h2.lt;have al:=ab.size;have b3:=Qh (iw F.out.txt);clear h2;go_wp2_with fail;refine(kU B _ y (ae s.L.name) (.slice V H U) (.slice E r D) A n c s.word.2.word.2 (H2.out.alloc _) (by rw[b5.out];exact F.out.bodies an.out (bp ab _)) (by have:=O.out.cnt;omega) (by rw[b5.out];exact fun b hb=>Nat.le_trans (O.out.pts b hb) (by decide)) (-1)).mono ?_;rintro e w3⟨rfl,h3,aS⟩;have a0:=cJ s.word.2.word.2 (-1);generalize br:s.word.2.word.2.full (-1)=d at h3 a0⊢;have b8:=Qh br;have be:=Qh ((aM s.word.2).trans a0);clear br a0;have G3:=aJ (bp ab _) aS;have p3:Blk w3 w2.heap.size 79 #[ae s.word.2.word.1,.int .i64 0,.int .i64 0,.int .i64 0,.int .i64 0,.int .i64 0,.int .i64 0]:=bX aS (Blk.new _ _ _) (by omega);have bv:=p3.lt;have H3:=Qh h3;generalize b9:w2.heap.size=gj at ad al p3 bv⊢;have b6:=Qh (tw bz.out (g:=gj) (by omega));clear b9 aS h3 ab H2;obtain⟨ao,a3,bl,a5,a8,a7,a9⟩:=p3.c7;obtain⟨a1,a4,a6,bn,bb,bk,bg⟩:=p3.f7;have P3:=Qh p3;clear p3;go_wp2_with fail;clear ao a3 bl a5 a8 a7 a9 a1 a4 a6 bn bb bk bg;have B3:=fs w3 ad 2 3 (.int .i64 d.1) (.int .i64 d.2.1);have bw:=dI G3 (fs w3 al 2 3 (.int .i64 d.1) (.int .i64 d.2.1));refine(kU B _ y (ae s.L.name) (.slice V H U) (.slice E r D) A n c d.2.2 (H3.out.bel1 B3) (by rw[be.out.sameL,ba.out];exact F.out.bodies an.out bw) (by have:=O.out.cnt;omega) (by rw[be.out.sameL,ba.out];exact fun b hb=>Nat.le_trans (O.out.pts b hb) (by decide)) (-1)).mono ?_;rintro e w4⟨rfl,h4,bY⟩;have bx:=cJ d.2.2 (-1);generalize cm:d.2.2.full (-1)=l at h4 bx⊢;have c8:=Qh cm;have cb:=Qh (be.out.trans bx);clear cm bx;have G4:=aJ bw bY;have p4:=bX bY ((P3.out.set_ 2 (.int .i64 d.1)).set_ 3 (.int .i64 d.2.1)) (by omega);have p4:=p4;have H4:=Qh h4;have eb:=p4.lt;obtain⟨ao,a3,bl,a5,a8,a7,a9⟩:=p4.c7;obtain⟨a1,a4,a6,bn,bb,bk,bg⟩:=p4.f7;have P4:=Qh p4;clear p4 h4 bY G3 bw B3 P3 H3 bv;go_wp2_with fail;clear ao a3 bl a5 a8 a7 a9 a1 a4 a6 bn bb bk bg;have B4:=(fs w4 ad 4 5 (.int .i64 l.1) (.int .i64 l.2.1)).setCell (p:=⟨gj,1,none⟩) ad (.int .i64 1);have cx:=dI G4 ((fs w4 al 4 5 (.int .i64 l.1) (.int .i64 l.2.1)).setCell (p:=⟨gj,1,none⟩) al (.int .i64 1));have Q4:=Qh (((P4.out.set_ 4 (.int .i64 l.1)).set_ 5 (.int .i64 l.2.1)).set_ 1 (.int .i64 1));refine(kU B _ y (ae s.L.name) (.slice V H U) (.slice E r D) A n c l.2.2 (H4.out.bel1 B4) (by rw[cb.out.sameL,ba.out];exact F.out.bodies an.out cx) (by have:=O.out.cnt;omega) (by rw[cb.out.sameL,ba.out];exact fun b hb=>Nat.le_trans (O.out.pts b hb) (by decide)) l.1).mono ?_;rintro e w5⟨rfl,h5,di⟩;have cy:=cJ l.2.2 l.1;generalize d2:l.2.2.full l.1=Y at h5 cy⊢;have en:=Qh d2;have eq:=Qh (cb.out.trans cy);clear d2 cy;have G5:=aJ cx di;have p5:=bX di Q4.out (by omega);have H5:=Qh h5;have et:=p5.lt;obtain⟨ao,a3,bl,a5,a8,a7,a9⟩:=p5.c7;obtain⟨a1,a4,a6,bn,bb,bk,bg⟩:=p5.f7;have P5:=Qh p5;clear p5 h5 di G4 cx B4 P4 H4 Q4 eb;go_wp2_with fail;clear ao a3 bl a5 a8 a7 a9 a1 a4 a6 bn bb bk bg;refine(fF B _ y (ae s.L.name) (.slice A n c) (.slice V H U) (.slice E r D) Y.2.2 (H5.out.bel1 ((kz _ w5).setCell (p:=⟨gj,6,none⟩) ad (.int .i64 Y.2.1))) [59]).mono ?_;rintro e J⟨rfl,h6,a2⟩;have G6:=Qh (aJ (dI G5 ((kz _ w5).setCell (p:=⟨gj,6,none⟩) al (.int .i64 Y.2.1))) a2);have p6:=bX a2 (P5.out.set_ 6 (.int .i64 Y.2.1)) (by omega);have H6:=Qh h6;have P6:=Qh p6;have HC:=Qh (show JtC J [ae s.word.2.word.1,.int .i64 1,.int .i64 d.1,.int .i64 d.2.1,.int .i64 l.1,.int .i64 l.2.1,.int .i64 Y.2.1] ⟨s.word.2.word.1,1,d.1,d.2.1,l.1,l.2.1,Y.2.1⟩ from⟨rfl,b3.out⟩);have cz:=Qh (bz.out.tch (F.out.tchR G6.out) (by decide) (fun _ _ x=>x));clear h6 a2 p6;go_wp2_with fail;change Code.wp _ _ _ (lO _ _ _ _ _ _ _ _ _ _ _ _ _ _ _ _ _ _ _ _ _ _ _ _ _ _ _ _ _ _ _ _ _ _ _ _ _ _ _ _ _ _ _ _ _ _ _ _ _ _ _ _ _ _ _ _ _ _ _ _ _ _ _ _ _ _ _ _ _ _ _ _ _ _ _ _ _ _ _ _ _ (fun _=>undef)) _;refine eV (n:=12) (a:=7) (K:=2) (x0:=fun _=>undef) (R:=fun ri=>List.getD ((VE (.pointer (some ⟨y,0,none⟩)))::(VE (.pointer (some ⟨y,0,none⟩)))::(VE (.pointer (some ⟨y,0,none⟩)))::(VE (.pointer (some ⟨y,1,none⟩)))::(VE (.pointer (some ⟨y,3,none⟩)))::(VE (.slice V H U))::(VE (.agg #[ae s.word.2.word.1,.int .i64 1,.int .i64 d.1,.int .i64 d.2.1,.int .i64 l.1,.int .i64 l.2.1,.int .i64 Y.2.1]))::VA::VA::(VE (.pointer (some ⟨y,0,none⟩)))::(VE (.pointer (some ⟨y,1,none⟩)))::(VE (.pointer (some ⟨y,3,none⟩)))::[]) ri VA) (T:=fun k x t=>TJ_ 79 JtC 7 B gj J [ae s.word.2.word.1,.int .i64 1,.int .i64 d.1,.int .i64 d.2.1,.int .i64 l.1,.int .i64 l.2.1,.int .i64 Y.2.1] ⟨s.word.2.word.1,1,d.1,d.2.1,l.1,l.2.1,Y.2.1⟩ H s.L.joints k (x 7) (x 8) t) (by kernel_rfl) rfl ?_ ?_ ?_ (by decide) ?_ ?_ rfl ?_ ?_ ?_
  ·exact aD ⟨(fun _ _ _=>rfl),(fun _ _ _=>rfl),(fun _ _ _=>rfl),(fun _ _ _=>rfl),(fun _ _ _=>rfl),(fun _ _ _=>rfl),(fun _ _ _=>rfl),(fun _ _ _=>rfl),(fun _ _ _=>rfl),(fun _ _ _=>rfl),(fun _ _ _=>rfl),(fun _ _ _=>rfl),(fun h=>absurd h (by decide)),trivial⟩
  ·exact aD (bP _ 0 (by kernel_rfl))
  ·exact(fun j hj=>fk (by kernel_rfl) hj)
  ·intro j o hj C
   obtain rfl:j=0:=by omega
   injection C with C;subst C;exact⟨⟨7,.data⟩,by simp,rfl,rfl⟩
  ·intro k x i v w hi h
   have e7:upd x i v 7=x 7:=aN _ _ (by omega);have e8:upd x i v 8=x 8:=aN _ _ (by omega);simp only[e7,e8];exact h
  ·refine aD ⟨?_,?_,?_,?_,?_,?_,?_,(fun _ h=>absurd h (by decide)),(fun _ h=>absurd h (by decide)),?_,?_,?_,(fun h=>absurd h (by decide)),trivial⟩
   intro _ _ k f t u hd K z;have m:=trivial;rotate_left;intro _ _ k f t u hd K z;have m:=trivial;rotate_left;intro _ _ k f t u hd K z;have m:f 1=_:=hd ⟨1,.data⟩ (by simp) rfl;rotate_left;intro _ _ k f t u hd K z;have m:f 2=_:=hd ⟨2,.data⟩ (by simp) rfl;rotate_left;intro _ _ k f t u hd K z;have m:f 3=_:=hd ⟨3,.data⟩ (by simp) rfl;rotate_left;intro _ _ k f t u hd K z;have m:f 4=_:=hd ⟨4,.data⟩ (by simp) rfl;have ac:=(TJ_.rd (by decide) H6.out u).cells;obtain⟨_,ac,b4,ca,_⟩:=ac;rotate_left;intro _ _ k f t u hd K z;obtain⟨b7,cc,cp,cr,el,ei,eh⟩:=(TJ_.blk P6.out u).c7;have m:=trivial;rotate_left;intro _ _ k f t u hd K z;have m:f 0=_:=hd ⟨0,.data⟩ (by simp) rfl;rotate_left;intro _ _ k f t u hd K z;have m:f 9=_:=hd ⟨9,.data⟩ (by simp) rfl;rotate_left;intro _ _ k f t u hd K z;have m:f 10=_:=hd ⟨10,.data⟩ (by simp) rfl;rotate_left
   all_goals
    (try dsimp only[lO]);(try simp only[m]);go_simp;have Q:=z.out _ rfl;dsimp only[lO]at Q;(try simp only[m]at Q);exact Q
  ·intro k o hk C
   obtain rfl|rfl:=(show k=0\/k=1 by omega)
   ·injection C with C
    subst C;intro f t u hd K z;have u:t=J.drew:=u;subst u;have aC:f 6=.agg #[ae s.word.2.word.1,.int .i64 1,.int .i64 d.1,.int .i64 d.2.1,.int .i64 l.1,.int .i64 l.2.1,.int .i64 Y.2.1]:=hd ⟨6,.data⟩ (by simp) rfl;(try dsimp only[lO]);(try simp only[aC]);go_simp;have Q:=z.out (.slice (some ⟨J.heap.size,0,none⟩) 1 1) (J.drew.alloc (.cells #[ae s.word.2.word.1,.int .i64 1,.int .i64 d.1,.int .i64 d.2.1,.int .i64 l.1,.int .i64 l.2.1,.int .i64 Y.2.1] 79)) trivial ⟨rfl,rfl⟩;dsimp only[lO]at Q;simp only[aC]at Q;exact Q
   injection C with C;subst C;intro f t u hd K z;obtain⟨e7,ew⟩:TJ_ 79 JtC 7 B gj J [ae s.word.2.word.1,.int .i64 1,.int .i64 d.1,.int .i64 d.2.1,.int .i64 l.1,.int .i64 l.2.1,.int .i64 Y.2.1] ⟨s.word.2.word.1,1,d.1,d.2.1,l.1,l.2.1,Y.2.1⟩ H s.L.joints 1 (f 7) (f 8) t:=u;subst ew;have bF:f 5=.slice V H U:=hd ⟨5,.data⟩ (by simp) rfl;obtain⟨hl,xs,G,q⟩:=cz.out;have G:OwJ noW J.drew B 79 7 (.slice V H U) H xs:=G;have q:jd JtC 7 J.drew s.L.joints xs:=q;have cL:=H6.out.lt;have c6:=H6.out.hB;have dv:J.drew.heap.size=J.heap.size:=rfl;rw[kZ (show Region.wanted _ _=true from rfl)];refine gk _ noW _ _ _ rfl B 79 ij (.agg #[.string ⟨#[]⟩,.int .i64 0,.int .i64 0,.int .i64 0,.int .i64 0,.int .i64 0,.int .i64 0]) 7 64 Tryz.underlying33 bs.out.1 bs.out.2.1 bs.out.2.2.1 bs.out.2.2.2 rfl (by omega) rfl (.slice V H U) H xs bF (G.belw ((kz _ _).alloc Qr _)) ⟨J.heap.size,0,none⟩ 1 1 [ae s.word.2.word.1,.int .i64 1,.int .i64 d.1,.int .i64 d.2.1,.int .i64 l.1,.int .i64 l.2.1,.int .i64 Y.2.1] e7 rfl (x9 (Ao J.drew _)) (by simp[Value.oneCell']) rfl (by omega) (by have:=O.out.cnt;unfold maxLen;omega) (by have:=O.out.cnt;omega) (by simp;omega) ?_;intro g5 cap w5 X N _;have hp:=fS hl G q (a:=⟨s.word.2.word.1,1,d.1,d.2.1,l.1,l.2.1,Y.2.1⟩) (cs:=[ae s.word.2.word.1,.int .i64 1,.int .i64 d.1,.int .i64 d.2.1,.int .i64 l.1,.int .i64 l.2.1,.int .i64 Y.2.1]) (show JtC J.drew _ (⟨s.word.2.word.1,1,d.1,d.2.1,l.1,l.2.1,Y.2.1⟩:bj) from HC.out) rfl X N (by omega) (fun _ _ _ _ x=>x);exact z.out _ _ trivial ⟨some ⟨g5,0,none⟩,cap,rfl,hp.1,(P6.out.drew.alloc _).grown N b6.out,hp.2.1,((kz B J).drew).trans hp.2.2⟩
  intro o C f t u hr K z;injection C with C;subst C;obtain⟨A5,c5,e8,q,_,ht,hb⟩:TJ_ 79 JtC 7 B gj J [ae s.word.2.word.1,.int .i64 1,.int .i64 d.1,.int .i64 d.2.1,.int .i64 l.1,.int .i64 l.2.1,.int .i64 Y.2.1] ⟨s.word.2.word.1,1,d.1,d.2.1,l.1,l.2.1,Y.2.1⟩ H s.L.joints 2 (f 7) (f 8) t:=u;have bu:f 11=.pointer (some ⟨y,3,none⟩):=hr 11 (by decide);have RQ:=H6.out.other ht (by decide) hb;obtain⟨_,ac,b4,ca,_,c1,ea,ds⟩:=RQ.cells;rw[e8]at q;have aF:=Qh RQ;have aZ:=Qh q;clear RQ q hr;(try dsimp only[lO]);(try simp only[bu,e8]);go_simp;refine z.out _ _ ?_;go_wp2_with fail;go_end0;have t1:=F.out.tchR G6.out;have t3:=aF.out.tchR (rg_set (rg_refl y t) 3 (.slice A5 (H+1) c5));have Z:=eq.out.trans (aH Y.2.2 2 [59]);have S:(PS.expect Y.2.2 2 [59]).L=s.L:=Z.2.2.2.trans ba.out;have b1:=jJ (s:=s) (by rw[P.out];decide);have cv:=Z.1
  have eW:W=PS.addJ (PS.expect Y.2.2 2 [59]) ⟨s.word.2.word.1,1,d.1,d.2.1,l.1,l.2.1,Y.2.1⟩:=by
   rw[<-HW.out];unfold PS.item;rw[kl (by rw[P.out];decide),kl (by rw[P.out];decide),kZ P.out];unfold PS.joint;simp only[b8.out,c8.out,en.out,GY]
  subst eW;refine⟨rfl,⟨A,n,c,A5,H+1,c5,E,r,D,⟨?_,?_,?_,?_,?_,?_,?_⟩⟩,?_⟩
  ·show RdP B _ y (ae (PS.expect Y.2.2 2 [59]).L.name) _ _ _ _
   rw[S];exact aF.out.put3 _ rfl rfl rfl
  ·show bc _ _ _ _ _ _ _ (PS.expect Y.2.2 2 [59]).L.bodies
   rw[S];exact((an.out.tch t1 (by decide) (fun _ _ x=>x.tch t1 (by decide))).tch ht (by decide) (fun _ _ x=>x.tch ht (by decide))).tch t3 (by decide) (fun _ _ x=>x.tch t3 (by decide))
  ·show bc _ _ _ _ _ _ _ ((PS.expect Y.2.2 2 [59]).L.joints++[⟨s.word.2.word.1,1,d.1,d.2.1,l.1,l.2.1,Y.2.1⟩])
   rw[S];exact aZ.out.tch t3 (by decide) (fun _ _ x=>x)
  ·show bc _ _ _ _ _ _ _ (PS.expect Y.2.2 2 [59]).L.drivers
   rw[S];exact((b0.out.tch t1 (by decide) (fun _ _ x=>x)).tch ht (by decide) (fun _ _ x=>x)).tch t3 (by decide) (fun _ _ x=>x)
  ·show NmL (PS.expect Y.2.2 2 [59]).L.name
   rw[S];exact O.out.nm
  ·show n+(H+1)+r+(PS.expect Y.2.2 2 [59]).toks.length<=_
   have h1:=O.out.cnt;omega
  ·intro b I
   have I:b∈(PS.expect Y.2.2 2 [59]).L.bodies:=I;rw[S]at I;exact O.out.pts b I
  exact((b2.out.trans (ix G6.out (by have:=F.out.lt;have:=F.out.hB;omega) F.out.hB)).trans hb).setCell (p:=⟨y,3,none⟩) F.out.hB _
 ·go_wp2_with fail
  refine(eU B _ y (ae s.L.name) (.slice A n c) (.slice V H U) (.slice E r D) s.word.2 F.out).mono ?_;rintro e w2⟨rfl,h2,ab⟩;have H2:=Qh h2;have ad:=h2.lt;have al:=ab.size;have b3:=Qh (iw F.out.txt);clear h2;go_wp2_with fail;refine(rY B _ y (ae s.L.name) (.slice V H U) (.slice E r D) A n c s.word.2.word.2 (H2.out.alloc _) (by rw[b5.out];exact F.out.bodies an.out (bp ab _)) (by have:=O.out.cnt;omega) (-1)).mono ?_;rintro e w3⟨rfl,h3,aS⟩;have a0:=fK s.word.2.word.2 (-1);generalize br:s.word.2.word.2.named (-1)=d at h3 a0⊢;have b8:=Qh br;have be:=Qh ((aM s.word.2).trans a0);clear br a0;have G3:=aJ (bp ab _) aS;have p3:Blk w3 w2.heap.size 81 #[ae s.word.2.word.1,.int .i64 0]:=bX aS (Blk.new _ _ _) (by omega);have bv:=p3.lt;have H3:=Qh h3;generalize b9:w2.heap.size=gj at ad al p3 bv⊢;have b6:=Qh (tw b0.out (g:=gj) (by omega));clear b9 aS h3 ab H2;obtain⟨ao,a3⟩:=p3.c2;obtain⟨a1,a4⟩:=p3.f2;have P3:=Qh p3;clear p3;go_wp2_with fail;clear ao a3 a1 a4;refine(fF B _ y (ae s.L.name) (.slice A n c) (.slice V H U) (.slice E r D) d.2 (H3.out.bel1 ((kz _ w3).setCell (p:=⟨gj,1,none⟩) ad (.int .i64 d.1))) [59]).mono ?_;rintro e J⟨rfl,h6,a2⟩;have G6:=Qh (aJ (dI G3 ((kz _ w3).setCell (p:=⟨gj,1,none⟩) al (.int .i64 d.1))) a2);have p6:=bX a2 (P3.out.set_ 1 (.int .i64 d.1)) (by omega);have H6:=Qh h6;have P6:=Qh p6;have HC:=Qh (show DrC J [ae s.word.2.word.1,.int .i64 d.1] ⟨s.word.2.word.1,d.1⟩ from⟨rfl,b3.out⟩);have eo:=Qh (b0.out.tch (F.out.tchR G6.out) (by decide) (fun _ _ x=>x));clear h6 a2 p6;go_wp2_with fail;change Code.wp _ _ _ (wJ _ _ _ _ _ _ _ _ _ _ _ _ _ _ _ _ _ _ _ _ _ _ _ _ _ _ _ _ _ _ _ _ _ _ _ _ _ _ _ _ _ _ _ _ _ _ _ _ _ _ _ _ _ _ _ _ _ _ _ _ _ _ _ _ _ _ _ _ _ _ _ _ _ _ _ _ _ _ _ _ _ (fun _=>undef)) _;refine eV (n:=12) (a:=7) (K:=2) (x0:=fun _=>undef) (R:=fun ri=>List.getD ((VE (.pointer (some ⟨y,0,none⟩)))::(VE (.pointer (some ⟨y,0,none⟩)))::(VE (.pointer (some ⟨y,0,none⟩)))::(VE (.pointer (some ⟨y,1,none⟩)))::(VE (.pointer (some ⟨y,4,none⟩)))::(VE (.slice E r D))::(VE (.agg #[ae s.word.2.word.1,.int .i64 d.1]))::VA::VA::(VE (.pointer (some ⟨y,0,none⟩)))::(VE (.pointer (some ⟨y,1,none⟩)))::(VE (.pointer (some ⟨y,4,none⟩)))::[]) ri VA) (T:=fun k x t=>TJ_ 81 DrC 2 B gj J [ae s.word.2.word.1,.int .i64 d.1] ⟨s.word.2.word.1,d.1⟩ r s.L.drivers k (x 7) (x 8) t) (by kernel_rfl) rfl ?_ ?_ ?_ (by decide) ?_ ?_ rfl ?_ ?_ ?_
  ·exact aD ⟨(fun _ _ _=>rfl),(fun _ _ _=>rfl),(fun _ _ _=>rfl),(fun _ _ _=>rfl),(fun _ _ _=>rfl),(fun _ _ _=>rfl),(fun _ _ _=>rfl),(fun _ _ _=>rfl),(fun _ _ _=>rfl),(fun _ _ _=>rfl),(fun _ _ _=>rfl),(fun _ _ _=>rfl),(fun h=>absurd h (by decide)),trivial⟩
  ·exact aD (bP _ 0 (by kernel_rfl))
  ·exact(fun j hj=>fk (by kernel_rfl) hj)
  ·intro j o hj C
   obtain rfl:j=0:=by omega
   injection C with C;subst C;exact⟨⟨7,.data⟩,by simp,rfl,rfl⟩
  ·intro k x i v w hi h
   have e7:upd x i v 7=x 7:=aN _ _ (by omega);have e8:upd x i v 8=x 8:=aN _ _ (by omega);simp only[e7,e8];exact h
  ·refine aD ⟨?_,?_,?_,?_,?_,?_,?_,(fun _ h=>absurd h (by decide)),(fun _ h=>absurd h (by decide)),?_,?_,?_,(fun h=>absurd h (by decide)),trivial⟩
   intro _ _ k f t u hd K z;have m:=trivial;rotate_left;intro _ _ k f t u hd K z;have m:=trivial;rotate_left;intro _ _ k f t u hd K z;have m:f 1=_:=hd ⟨1,.data⟩ (by simp) rfl;rotate_left;intro _ _ k f t u hd K z;have m:f 2=_:=hd ⟨2,.data⟩ (by simp) rfl;rotate_left;intro _ _ k f t u hd K z;have m:f 3=_:=hd ⟨3,.data⟩ (by simp) rfl;rotate_left;intro _ _ k f t u hd K z;have m:f 4=_:=hd ⟨4,.data⟩ (by simp) rfl;have ac:=(TJ_.rd (by decide) H6.out u).cells;obtain⟨_,ac,b4,ca,_⟩:=ac;rotate_left;intro _ _ k f t u hd K z;obtain⟨b7,cc⟩:=(TJ_.blk P6.out u).c2;have m:=trivial;rotate_left;intro _ _ k f t u hd K z;have m:f 0=_:=hd ⟨0,.data⟩ (by simp) rfl;rotate_left;intro _ _ k f t u hd K z;have m:f 9=_:=hd ⟨9,.data⟩ (by simp) rfl;rotate_left;intro _ _ k f t u hd K z;have m:f 10=_:=hd ⟨10,.data⟩ (by simp) rfl;rotate_left
   all_goals
    (try dsimp only[wJ]);(try simp only[m]);go_simp;have Q:=z.out _ rfl;dsimp only[wJ]at Q;(try simp only[m]at Q);exact Q
  ·intro k o hk C
   obtain rfl|rfl:=(show k=0\/k=1 by omega)
   ·injection C with C
    subst C;intro f t u hd K z;have u:t=J.drew:=u;subst u;have aC:f 6=.agg #[ae s.word.2.word.1,.int .i64 d.1]:=hd ⟨6,.data⟩ (by simp) rfl;(try dsimp only[wJ]);(try simp only[aC]);go_simp;have Q:=z.out (.slice (some ⟨J.heap.size,0,none⟩) 1 1) (J.drew.alloc (.cells #[ae s.word.2.word.1,.int .i64 d.1] 81)) trivial ⟨rfl,rfl⟩;dsimp only[wJ]at Q;simp only[aC]at Q;exact Q
   injection C with C;subst C;intro f t u hd K z;obtain⟨e7,ew⟩:TJ_ 81 DrC 2 B gj J [ae s.word.2.word.1,.int .i64 d.1] ⟨s.word.2.word.1,d.1⟩ r s.L.drivers 1 (f 7) (f 8) t:=u;subst ew;have bF:f 5=.slice E r D:=hd ⟨5,.data⟩ (by simp) rfl;obtain⟨hl,xs,G,q⟩:=eo.out;have G:OwJ noW J.drew B 81 2 (.slice E r D) r xs:=G;have q:jd DrC 2 J.drew s.L.drivers xs:=q;have cL:=H6.out.lt;have c6:=H6.out.hB;have dv:J.drew.heap.size=J.heap.size:=rfl;rw[kZ (show Region.wanted _ _=true from rfl)];refine gk _ noW _ _ _ rfl B 81 id (.agg #[.string ⟨#[]⟩,.int .i64 0]) 2 24 Tryz.underlying34 co.out.1 co.out.2.1 co.out.2.2.1 co.out.2.2.2 rfl (by omega) rfl (.slice E r D) r xs bF (G.belw ((kz _ _).alloc Qr _)) ⟨J.heap.size,0,none⟩ 1 1 [ae s.word.2.word.1,.int .i64 d.1] e7 rfl (x9 (Ao J.drew _)) (by simp[Value.oneCell']) rfl (by omega) (by have:=O.out.cnt;unfold maxLen;omega) (by have:=O.out.cnt;omega) (by simp;omega) ?_;intro g5 cap w5 X N _;have hp:=fS hl G q (a:=⟨s.word.2.word.1,d.1⟩) (cs:=[ae s.word.2.word.1,.int .i64 d.1]) (show DrC J.drew _ (⟨s.word.2.word.1,d.1⟩:bD) from HC.out) rfl X N (by omega) (fun _ _ _ _ x=>x);exact z.out _ _ trivial ⟨some ⟨g5,0,none⟩,cap,rfl,hp.1,(P6.out.drew.alloc _).grown N b6.out,hp.2.1,((kz B J).drew).trans hp.2.2⟩
  intro o C f t u hr K z;injection C with C;subst C;obtain⟨A5,c5,e8,q,_,ht,hb⟩:TJ_ 81 DrC 2 B gj J [ae s.word.2.word.1,.int .i64 d.1] ⟨s.word.2.word.1,d.1⟩ r s.L.drivers 2 (f 7) (f 8) t:=u;have bu:f 11=.pointer (some ⟨y,4,none⟩):=hr 11 (by decide);have RQ:=H6.out.other ht (by decide) hb;obtain⟨_,ac,b4,ca,_,c1,ea,ds⟩:=RQ.cells;rw[e8]at q;have aF:=Qh RQ;have aZ:=Qh q;clear RQ q hr;(try dsimp only[wJ]);(try simp only[bu,e8]);go_simp;refine z.out _ _ ?_;go_wp2_with fail;go_end0;have t1:=F.out.tchR G6.out;have t3:=aF.out.tchR (rg_set (rg_refl y t) 4 (.slice A5 (r+1) c5));have Z:=be.out.trans (aH d.2 2 [59]);have S:(PS.expect d.2 2 [59]).L=s.L:=Z.2.2.2.trans ba.out;have b1:=jJ (s:=s) (by rw[P.out];decide);have cv:=Z.1
  have eW:W=PS.addD (PS.expect d.2 2 [59]) ⟨s.word.2.word.1,d.1⟩:=by
   rw[<-HW.out];unfold PS.item;rw[kl (by rw[P.out];decide),kl (by rw[P.out];decide),kl (by rw[P.out];decide),kZ P.out];unfold PS.driver;simp only[b8.out]
  subst eW;refine⟨rfl,⟨A,n,c,V,H,U,A5,r+1,c5,⟨?_,?_,?_,?_,?_,?_,?_⟩⟩,?_⟩
  ·show RdP B _ y (ae (PS.expect d.2 2 [59]).L.name) _ _ _ _
   rw[S];exact aF.out.put4 _ rfl rfl rfl
  ·show bc _ _ _ _ _ _ _ (PS.expect d.2 2 [59]).L.bodies
   rw[S];exact((an.out.tch t1 (by decide) (fun _ _ x=>x.tch t1 (by decide))).tch ht (by decide) (fun _ _ x=>x.tch ht (by decide))).tch t3 (by decide) (fun _ _ x=>x.tch t3 (by decide))
  ·show bc _ _ _ _ _ _ _ (PS.expect d.2 2 [59]).L.joints
   rw[S];exact((bz.out.tch t1 (by decide) (fun _ _ x=>x)).tch ht (by decide) (fun _ _ x=>x)).tch t3 (by decide) (fun _ _ x=>x)
  ·show bc _ _ _ _ _ _ _ ((PS.expect d.2 2 [59]).L.drivers++[⟨s.word.2.word.1,d.1⟩])
   rw[S];exact aZ.out.tch t3 (by decide) (fun _ _ x=>x)
  ·show NmL (PS.expect d.2 2 [59]).L.name
   rw[S];exact O.out.nm
  ·show n+H+(r+1)+(PS.expect d.2 2 [59]).toks.length<=_
   have h1:=O.out.cnt;omega
  ·intro b I
   have I:b∈(PS.expect d.2 2 [59]).L.bodies:=I;rw[S]at I;exact O.out.pts b I
  exact((b2.out.trans (ix G6.out (by have:=F.out.lt;have:=F.out.hB;omega) F.out.hB)).trans hb).setCell (p:=⟨y,4,none⟩) F.out.hB _
 have ep:=cj.out;clear cj;obtain⟨Ak,nk,ck,cn,b1⟩:=F.out.blk;have cj:=Qh cn;have d5:=Qh b1;clear cn b1 ep;go_wp2_with fail;refine(gl _ y (.slice Ak nk ck) (ae s.L.name) (.slice A n c) (.slice V H U) (.slice E r D) s.word.2.x 2 cj.out (by decide)).mono ?_;rintro e w2⟨rfl,aT,g2⟩;have ej:=Qh aT;clear aT;go_wp2_with fail;go_end0;have t1:=F.out.tchR g2;have eW:W=s.word.2.fail 2:=by rw[<-HW.out,HK.out]
 have R2:RdP B w2 y (ae s.L.name) (.slice A n c) (.slice V H U) (.slice E r D) (s.word.2.fail 2):=by
  have aT:=ej.out;unfold PS.fail;split
  ·rename_i hx
   rw[kZ hx]at aT;exact⟨⟨Ak,nk,ck,aT,d5.out.rg F.out.hB g2⟩,F.out.mx.rg F.out.hB g2,F.out.hB,F.out.len,F.out.txt,F.out.hw⟩
  rename_i hx;rw[kl hx]at aT;exact⟨⟨Ak,nk,ck,aT,d5.out.rg F.out.hB g2⟩,F.out.mx.rg F.out.hB g2,F.out.hB,F.out.len,F.out.txt,F.out.hw⟩
 have Z:=(aM s).trans (fQ s.word.2 2 (by decide) 0);have S:(s.word.2.fail 2).L=s.L:=Z.2.2.2;subst eW;refine⟨rfl,⟨A,n,c,V,H,U,E,r,D,⟨by rw[S];exact R2,?_,?_,?_,by rw[S];exact O.out.nm,?_,by rw[S];exact O.out.pts⟩⟩,?_⟩
 ·rw[S];exact an.out.tch t1 (by decide) (fun _ _ x=>x.tch t1 (by decide))
 ·rw[S];exact bz.out.tch t1 (by decide) (fun _ _ x=>x)
 ·rw[S];exact b0.out.tch t1 (by decide) (fun _ _ x=>x)
 ·have h1:=O.out.cnt
  have h2:=Z.1;omega
 exact b2.out.trans (ix g2 (by have:=F.out.lt;have:=F.out.hB;omega) F.out.hB)
theorem zH:∀(f:Nat) (r:List UInt8) (line col:Nat) (l:List Tkn),toks f r line col=.ok l->(l.map fun t=>t.text.length).sum<=r.length/\∀t∈l,0<t.text.length:=by
 intro f
 induction f with
 |zero=>intro r line col l h;unfold toks at h;injection h with h;subst h;simp
 |succ f ih =>
  intro r line col l h
  cases r with
  |nil=>unfold toks at h;injection h with h;subst h;simp
  |cons c s =>
   unfold toks at h;split at h
   ·have:=ih _ _ _ _ h
    refine⟨?_,this.2⟩;rw[oP];omega
   split at h
   ·have:=ih _ _ _ _ h
    refine⟨?_,this.2⟩;rw[oP];omega
   split at h
   ·have:=ih _ _ _ _ h
    refine⟨?_,this.2⟩;rw[vu]at this;omega
   split at h
   ·cases h
   rename_i k n a;have g:=eC a
   cases hx:toks f ((c::s).drop n) line (col+n) with
   |err x=>rw[hx]at h;cases h
   |ok l' =>
    rw[hx]at h;injection h with h;subst h;have:=ih _ _ _ _ hx;have b:((c::s).take n).length=n:=by rw[vq];omega
    rw[vu]at this;refine⟨?_,fun t d=>?_⟩
    ·simp only[Hp,List.sum_cons,b];omega
    rcases Gh.1 d with e|e
    ·subst e;show 0<((c::s).take n).length;omega
    exact this.2 t e
theorem nf:∀ {l:List Tkn},(∀t∈l,0<t.text.length)->l.length<=(l.map fun t=>t.text.length).sum
 |[],_=>by simp
 |t::l,h=>by
  have c:=nf (l:=l) (fun x a=>h x (by simp[a]));have b:=h t (by simp);simp only[oP,Hp,List.sum_cons];omega
theorem ng{s:List UInt8}{l:List Tkn}(h:iV s=.ok l):l.length<=s.length/\(l.map fun t=>t.text.length).sum<=s.length:=by
 obtain⟨b,a⟩:=zH _ _ _ _ _ h;have:=nf a;omega
theorem bi.len{s:List UInt8}{x:Int}{l:List Tkn}(h:bi s x l):l.length<=65536:=by
 rcases h with⟨_,_,rfl⟩|⟨h,a,_⟩|⟨_,_,_,_,rfl⟩
 ·simp
 ·have:=(ng a).1;omega
 simp
end Go.Proofs.YtfilnhompchciaaGreatDoor
