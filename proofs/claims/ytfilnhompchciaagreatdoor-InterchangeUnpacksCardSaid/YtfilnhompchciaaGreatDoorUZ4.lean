/- Part UZ4: lemmas and walks that the claim rests on. No claim is made here. -/
import Derived.Test.YtfilnhompchciaaGreatDoorUZ3
set_option linter.unusedVariables false
set_option maxHeartbeats 8000000
set_option maxRecDepth 100000
/- Walks: tokens: numbers. -/
namespace Go.Proofs.YtfilnhompchciaaGreatDoor
open Go Go.RowKit Bn
attribute [local go_sem ↓] Go.wp_at_zero Go.wp_at_succ
theorem BN(s:List UInt8)(i:Nat):kG (s.drop i)=if atB s i=45 then 1 else 0:=by
 rcases Nat.lt_or_ge i s.length with h|h
 ·rw[ce h]
  unfold kG;split
  ·rename_i e;injection e with a e2;rw[kZ a]
  rename_i e;rw[kl (fun a=>e _ (by rw[a]))]
 rw[FY h,fM h];rfl
theorem y8(s:List UInt8)(i:Nat):uf (s.drop i)=if (atB s i==46||atB s i==47)&&decide (0<d9 (s.drop (i+1))) then 1+d9 (s.drop (i+1)) else 0:=by
 rcases Nat.lt_or_ge i s.length with h|h
 ·rw[ce h];rfl
 rw[FY h,fM h];rfl
theorem jz{s:List UInt8}{i v:Nat}(a:cT (s.drop i)=v):∃m k,((m=1/\atB s i=45)\/(m=0/\atB s i≠45))/\d9 (s.drop (i+m))=k /\
 ((k=0/\v=0)\/(0<k/\∃d,atB s (i+m+k)=d/\((d≠46/\d≠47/\v=m+k)\/((d=46\/d=47)/\∃t,d9 (s.drop (i+m+k+1))=t/\((t=0/\v=m+k)\/(0<t/\v=m+k+(1+t))))))):=by
 unfold cT at a;rw[BN,G8]at a;obtain⟨m,b⟩:=Z9 ((if atB s i=45 then 1 else 0));rw[b]at a
 have c:(m=1/\atB s i=45)\/(m=0/\atB s i≠45):=by
  by_cases h:atB s i=45
  ·rw[kZ h]at b;exact .inl ⟨b.symm,h⟩
  rw[kl h]at b;exact .inr ⟨b.symm,h⟩
 obtain⟨k,f⟩:=Z9 (d9 (s.drop (i+m)));rw[f,G8,y8,<-Nat.add_assoc]at a;refine⟨m,k,c,f,?_⟩;by_cases h0:k=0
 ·rw[kZ h0]at a;exact .inl ⟨h0,a.symm⟩
 rw[kl h0]at a;refine .inr ⟨by omega,_,rfl,?_⟩;by_cases h1:atB s (i+m+k)=46\/atB s (i+m+k)=47
 ·have e:(atB s (i+m+k)==46||atB s (i+m+k)==47)=true:=by rcases h1 with h|h<;>rw[h]<;>rfl
  rw[e,Ho]at a;refine .inr ⟨h1,_,rfl,?_⟩;by_cases h2:0<d9 (s.drop (i+m+k+1))
  ·rw[kZ (zO h2)]at a;exact .inr ⟨h2,a.symm⟩
  rw[kl (by rw[yB h2];decide)]at a;exact .inl ⟨by omega,by omega⟩
 have g:atB s (i+m+k)≠46:=fun h=>h1 (.inl h)
 have j:atB s (i+m+k)≠47:=fun h=>h1 (.inr h)
 rw[it.2 g,it.2 j,Bool.or_self,Bool.false_and,kl (by decide)]at a;exact .inl ⟨g,j,by omega⟩
theorem cB{s:List UInt8}{i k:Nat}(h:d9 (s.drop i)=k)(a:0<k):i+k<=s.length:=by
 have:=pC (s.drop i);rw[h,vu]at this;omega
theorem ry(s:List UInt8):dE s=(atB s 0==45):=by
 cases s with
 |nil=>rfl
 |cons c t =>
  by_cases h:c=45
  ·subst h;rfl
  have e:(c==45)=false:=it.2 h;show dE (c::t)=(c==45);rw[e];unfold dE;split
  ·rename_i a;injection a with h2;exact absurd h2 h
  rfl
theorem kg{s:List UInt8}{i:Nat}{d:UInt8}(h:atB s i=d)(hd:d≠0):i<s.length:=by
 rcases Nat.lt_or_ge i s.length with x|x
 ·exact x
 rw[fM x]at h;exact absurd h.symm hd
theorem cw(w:World)(s:List UInt8)(x:Int)(i:Nat)(hx:x=((i:Nat):Int))(hi:i<=s.length)(q:s.length<4611686018427387904)(y:Int)(J:((i+cT (s.drop i):Nat):Int)=y):Calls Tryz.prog 115 #[ae s,.int .i64 x] w (av w (.int .i64 y)):=by
 obtain⟨v,hv⟩:=Z9 (cT (s.drop i));rw[hv]at J;subst hx;obtain⟨m,k,hm,G,I⟩:=jz hv;clear hv;rcases hm with⟨rfl,B⟩|⟨rfl,B⟩
 ·have aS:i<s.length:=kg B (by decide)
  obtain⟨p,j⟩:=Z9 (atB s i);rw[j]at B;have al:(((p.toNat:Nat):Int)==45)=true:=(ar p 45).trans (by simp[B]);have aF:IntKind.i64.wrap ((i:Int)+1)=(i:Int)+1:=ty _ ⟨by omega,by omega⟩;clear B;rcases I with⟨Z,ab⟩|⟨V,d,hd,I⟩
  ·subst ab
   subst Z;have S:((((i:Int)+1):Int)==((i:Int)+1:Int))=true:=by simp
   go_in;go_wp2_with fail;refine(bh _ (s) ((i:Int)) (i) (by omega) p j).mono ?_;rintro e O⟨rfl,q1⟩;have a:=(aa w).trans (q1.mono (aa w).size);have l:=q1.size;clear q1;go_wp2_with fail;refine(aA _ (s) (((i:Int)+1)) (i+1) (by omega) (by omega) q ((i:Int)+1) (by have z:=G;omega)).mono ?_;rintro e P⟨rfl,q2⟩;have b:=a.trans (q2.mono a.size);have o:=q2.size;clear q2 a;go_wp2;go_ret;exact cF (by rw[<-J];omega) b
  have aC:i+1+k<=s.length:=by have:=cB G V;omega
  have ao:((k:Int)==0)=false:=by simp;omega
  have an:((k:Int)=0)=False:=by simp;omega
  have S:(((i:Int)+1+(k:Int):Int)==((i:Int)+1:Int))=false:=by simp;omega
  rcases I with⟨M,K,f⟩|⟨L,t,H,I⟩
  ·have N:(((d.toNat:Nat):Int)==46)=false:=(ar d 46).trans (by simp[M])
   have W:(((d.toNat:Nat):Int)==47)=false:=(ar d 47).trans (by simp[K]);clear M K;replace f:=f.symm;subst f;have X:IntKind.i64.wrap ((i:Int)+1+(k:Int))=(i:Int)+1+(k:Int):=ty _ ⟨by omega,by omega⟩;go_in;go_wp2_with fail;refine(bh _ (s) ((i:Int)) (i) (by omega) p j).mono ?_;rintro e O⟨rfl,q1⟩;have a:=(aa w).trans (q1.mono (aa w).size);have l:=q1.size;clear q1;go_wp2_with fail;refine(aA _ (s) (((i:Int)+1)) (i+1) (by omega) (by omega) q ((i:Int)+1+(k:Int)) (by have z:=G;omega)).mono ?_;rintro e P⟨rfl,q2⟩;have b:=a.trans (q2.mono a.size);have o:=q2.size;clear q2 a;go_wp2_with fail;refine(bh _ (s) (((i:Int)+1+(k:Int))) (i+1+k) (by omega) d hd).mono ?_;rintro e R⟨rfl,q3⟩;have c:=b.trans (q3.mono b.size);have u:=q3.size;clear q3 b;go_wp2_with fail;refine(bh _ (s) (((i:Int)+1+(k:Int))) (i+1+k) (by omega) d hd).mono ?_;rintro e Q⟨rfl,h⟩;have g:=c.trans (h.mono c.size);have r:=h.size;clear h c;go_wp2;go_ret;exact cF (by rw[<-J];omega) g
  have hl:i+1+k<s.length:=by rcases L with e|e<;>exact kg hd (by rw[e];decide)
  have X:IntKind.i64.wrap ((i:Int)+1+(k:Int))=(i:Int)+1+(k:Int):=ty _ ⟨by omega,by omega⟩;have ad:IntKind.i64.wrap ((i:Int)+1+(k:Int)+1)=(i:Int)+1+(k:Int)+1:=ty _ ⟨by omega,by omega⟩;rcases L with A|n
  ·have N:(((d.toNat:Nat):Int)==46)=true:=(ar d 46).trans (by simp[A])
   clear A;rcases I with⟨E,f⟩|⟨D,f⟩
   ·replace f:=f.symm
    subst f;subst E;go_in;go_wp2_with fail;refine(bh _ (s) ((i:Int)) (i) (by omega) p j).mono ?_;rintro e O⟨rfl,q1⟩;have a:=(aa w).trans (q1.mono (aa w).size);have l:=q1.size;clear q1;go_wp2_with fail;refine(aA _ (s) (((i:Int)+1)) (i+1) (by omega) (by omega) q ((i:Int)+1+(k:Int)) (by have z:=G;omega)).mono ?_;rintro e P⟨rfl,q2⟩;have b:=a.trans (q2.mono a.size);have o:=q2.size;clear q2 a;go_wp2_with fail;refine(bh _ (s) (((i:Int)+1+(k:Int))) (i+1+k) (by omega) d hd).mono ?_;rintro e R⟨rfl,q3⟩;have c:=b.trans (q3.mono b.size);have u:=q3.size;clear q3 b;go_wp2_with fail;refine(aA _ (s) (((i:Int)+1+(k:Int)+1)) (i+1+k+1) (by omega) (by omega) q ((i:Int)+1+(k:Int)+1) (by have z:=H;omega)).mono ?_;rintro e Q⟨rfl,h⟩;have g:=c.trans (h.mono c.size);have r:=h.size;clear h c;go_wp2;go_ret;exact cF (by rw[<-J];omega) g
   replace f:=f.symm;subst f;have ac:((0:Int)<(t:Int))=True:=by simp;omega
   have Y:i+1+k+1+t<=s.length:=by have:=cB H D;omega
   have T:((i:Int)+1+(k:Int)+1<(i:Int)+1+(k:Int)+1+(t:Int))=True:=by simp;omega
   go_in;go_wp2_with fail;refine(bh _ (s) ((i:Int)) (i) (by omega) p j).mono ?_;rintro e O⟨rfl,q1⟩;have a:=(aa w).trans (q1.mono (aa w).size);have l:=q1.size;clear q1;go_wp2_with fail;refine(aA _ (s) (((i:Int)+1)) (i+1) (by omega) (by omega) q ((i:Int)+1+(k:Int)) (by have z:=G;omega)).mono ?_;rintro e P⟨rfl,q2⟩;have b:=a.trans (q2.mono a.size);have o:=q2.size;clear q2 a;go_wp2_with fail;refine(bh _ (s) (((i:Int)+1+(k:Int))) (i+1+k) (by omega) d hd).mono ?_;rintro e R⟨rfl,q3⟩;have c:=b.trans (q3.mono b.size);have u:=q3.size;clear q3 b;go_wp2_with fail;refine(aA _ (s) (((i:Int)+1+(k:Int)+1)) (i+1+k+1) (by omega) (by omega) q ((i:Int)+1+(k:Int)+1+(t:Int)) (by have z:=H;omega)).mono ?_;rintro e Q⟨rfl,h⟩;have g:=c.trans (h.mono c.size);have r:=h.size;clear h c;go_wp2;go_ret;exact cF (by rw[<-J];omega) g
  have N:(((d.toNat:Nat):Int)==46)=false:=(ar d 46).trans (by simp[n]);have W:(((d.toNat:Nat):Int)==47)=true:=(ar d 47).trans (by simp[n]);clear n;rcases I with⟨E,f⟩|⟨D,f⟩
  ·replace f:=f.symm
   subst f;subst E;go_in;go_wp2_with fail;refine(bh _ (s) ((i:Int)) (i) (by omega) p j).mono ?_;rintro e O⟨rfl,q1⟩;have a:=(aa w).trans (q1.mono (aa w).size);have l:=q1.size;clear q1;go_wp2_with fail;refine(aA _ (s) (((i:Int)+1)) (i+1) (by omega) (by omega) q ((i:Int)+1+(k:Int)) (by have z:=G;omega)).mono ?_;rintro e P⟨rfl,q2⟩;have b:=a.trans (q2.mono a.size);have o:=q2.size;clear q2 a;go_wp2_with fail;refine(bh _ (s) (((i:Int)+1+(k:Int))) (i+1+k) (by omega) d hd).mono ?_;rintro e R⟨rfl,q3⟩;have c:=b.trans (q3.mono b.size);have u:=q3.size;clear q3 b;go_wp2_with fail;refine(bh _ (s) (((i:Int)+1+(k:Int))) (i+1+k) (by omega) d hd).mono ?_;rintro e Q⟨rfl,h⟩;have g:=c.trans (h.mono c.size);have r:=h.size;clear h c;go_wp2_with fail;refine(aA _ (s) (((i:Int)+1+(k:Int)+1)) (i+1+k+1) (by omega) (by omega) q ((i:Int)+1+(k:Int)+1) (by have z:=H;omega)).mono ?_;rintro e w5⟨rfl,C⟩;have F:=g.trans (C.mono g.size);have U:=C.size;clear C g;go_wp2;go_ret;exact cF (by rw[<-J];omega) F
  replace f:=f.symm;subst f;have ac:((0:Int)<(t:Int))=True:=by simp;omega
  have Y:i+1+k+1+t<=s.length:=by have:=cB H D;omega
  have T:((i:Int)+1+(k:Int)+1<(i:Int)+1+(k:Int)+1+(t:Int))=True:=by simp;omega
  go_in;go_wp2_with fail;refine(bh _ (s) ((i:Int)) (i) (by omega) p j).mono ?_;rintro e O⟨rfl,q1⟩;have a:=(aa w).trans (q1.mono (aa w).size);have l:=q1.size;clear q1;go_wp2_with fail;refine(aA _ (s) (((i:Int)+1)) (i+1) (by omega) (by omega) q ((i:Int)+1+(k:Int)) (by have z:=G;omega)).mono ?_;rintro e P⟨rfl,q2⟩;have b:=a.trans (q2.mono a.size);have o:=q2.size;clear q2 a;go_wp2_with fail;refine(bh _ (s) (((i:Int)+1+(k:Int))) (i+1+k) (by omega) d hd).mono ?_;rintro e R⟨rfl,q3⟩;have c:=b.trans (q3.mono b.size);have u:=q3.size;clear q3 b;go_wp2_with fail;refine(bh _ (s) (((i:Int)+1+(k:Int))) (i+1+k) (by omega) d hd).mono ?_;rintro e Q⟨rfl,h⟩;have g:=c.trans (h.mono c.size);have r:=h.size;clear h c;go_wp2_with fail;refine(aA _ (s) (((i:Int)+1+(k:Int)+1)) (i+1+k+1) (by omega) (by omega) q ((i:Int)+1+(k:Int)+1+(t:Int)) (by have z:=H;omega)).mono ?_;rintro e w5⟨rfl,C⟩;have F:=g.trans (C.mono g.size);have U:=C.size;clear C g;go_wp2;go_ret;exact cF (by rw[<-J];omega) F
 simp only[Nat.add_zero]at G I;obtain⟨p,j⟩:=Z9 (atB s i);rw[j]at B;have al:(((p.toNat:Nat):Int)==45)=false:=(ar p 45).trans (by simp[B]);clear B;rcases I with⟨Z,ab⟩|⟨V,d,hd,I⟩
 ·subst ab
  subst Z;have S:((((i:Int)):Int)==((i:Int):Int))=true:=by simp
  go_in;go_wp2_with fail;refine(bh _ (s) ((i:Int)) (i) (by omega) p j).mono ?_;rintro e O⟨rfl,q1⟩;have a:=(aa w).trans (q1.mono (aa w).size);have l:=q1.size;clear q1;go_wp2_with fail;refine(aA _ (s) (((i:Int))) (i) (by omega) (by omega) q ((i:Int)) (by have z:=G;omega)).mono ?_;rintro e P⟨rfl,q2⟩;have b:=a.trans (q2.mono a.size);have o:=q2.size;clear q2 a;go_wp2;go_ret;exact cF (by rw[<-J];omega) b
 have aC:i+k<=s.length:=by have:=cB G V;omega
 have ao:((k:Int)==0)=false:=by simp;omega
 have an:((k:Int)=0)=False:=by simp;omega
 have S:(((i:Int)+(k:Int):Int)==((i:Int):Int))=false:=by simp;omega
 rcases I with⟨M,K,f⟩|⟨L,t,H,I⟩
 ·have N:(((d.toNat:Nat):Int)==46)=false:=(ar d 46).trans (by simp[M])
  have W:(((d.toNat:Nat):Int)==47)=false:=(ar d 47).trans (by simp[K]);clear M K;replace f:=f.symm;subst f;have X:IntKind.i64.wrap ((i:Int)+(k:Int))=(i:Int)+(k:Int):=ty _ ⟨by omega,by omega⟩;go_in;go_wp2_with fail;refine(bh _ (s) ((i:Int)) (i) (by omega) p j).mono ?_;rintro e O⟨rfl,q1⟩;have a:=(aa w).trans (q1.mono (aa w).size);have l:=q1.size;clear q1;go_wp2_with fail;refine(aA _ (s) (((i:Int))) (i) (by omega) (by omega) q ((i:Int)+(k:Int)) (by have z:=G;omega)).mono ?_;rintro e P⟨rfl,q2⟩;have b:=a.trans (q2.mono a.size);have o:=q2.size;clear q2 a;go_wp2_with fail;refine(bh _ (s) (((i:Int)+(k:Int))) (i+k) (by omega) d hd).mono ?_;rintro e R⟨rfl,q3⟩;have c:=b.trans (q3.mono b.size);have u:=q3.size;clear q3 b;go_wp2_with fail;refine(bh _ (s) (((i:Int)+(k:Int))) (i+k) (by omega) d hd).mono ?_;rintro e Q⟨rfl,h⟩;have g:=c.trans (h.mono c.size);have r:=h.size;clear h c;go_wp2;go_ret;exact cF (by rw[<-J];omega) g
 have hl:i+k<s.length:=by rcases L with e|e<;>exact kg hd (by rw[e];decide)
 have X:IntKind.i64.wrap ((i:Int)+(k:Int))=(i:Int)+(k:Int):=ty _ ⟨by omega,by omega⟩;have ad:IntKind.i64.wrap ((i:Int)+(k:Int)+1)=(i:Int)+(k:Int)+1:=ty _ ⟨by omega,by omega⟩;rcases L with A|n
 ·have N:(((d.toNat:Nat):Int)==46)=true:=(ar d 46).trans (by simp[A])
  clear A;rcases I with⟨E,f⟩|⟨D,f⟩
  ·replace f:=f.symm
   subst f;subst E;go_in;go_wp2_with fail;refine(bh _ (s) ((i:Int)) (i) (by omega) p j).mono ?_;rintro e O⟨rfl,q1⟩;have a:=(aa w).trans (q1.mono (aa w).size);have l:=q1.size;clear q1;go_wp2_with fail;refine(aA _ (s) (((i:Int))) (i) (by omega) (by omega) q ((i:Int)+(k:Int)) (by have z:=G;omega)).mono ?_;rintro e P⟨rfl,q2⟩;have b:=a.trans (q2.mono a.size);have o:=q2.size;clear q2 a;go_wp2_with fail;refine(bh _ (s) (((i:Int)+(k:Int))) (i+k) (by omega) d hd).mono ?_;rintro e R⟨rfl,q3⟩;have c:=b.trans (q3.mono b.size);have u:=q3.size;clear q3 b;go_wp2_with fail;refine(aA _ (s) (((i:Int)+(k:Int)+1)) (i+k+1) (by omega) (by omega) q ((i:Int)+(k:Int)+1) (by have z:=H;omega)).mono ?_;rintro e Q⟨rfl,h⟩;have g:=c.trans (h.mono c.size);have r:=h.size;clear h c;go_wp2;go_ret;exact cF (by rw[<-J];omega) g
  replace f:=f.symm;subst f;have ac:((0:Int)<(t:Int))=True:=by simp;omega
  have Y:i+k+1+t<=s.length:=by have:=cB H D;omega
  have T:((i:Int)+(k:Int)+1<(i:Int)+(k:Int)+1+(t:Int))=True:=by simp;omega
  go_in;go_wp2_with fail;refine(bh _ (s) ((i:Int)) (i) (by omega) p j).mono ?_;rintro e O⟨rfl,q1⟩;have a:=(aa w).trans (q1.mono (aa w).size);have l:=q1.size;clear q1;go_wp2_with fail;refine(aA _ (s) (((i:Int))) (i) (by omega) (by omega) q ((i:Int)+(k:Int)) (by have z:=G;omega)).mono ?_;rintro e P⟨rfl,q2⟩;have b:=a.trans (q2.mono a.size);have o:=q2.size;clear q2 a;go_wp2_with fail;refine(bh _ (s) (((i:Int)+(k:Int))) (i+k) (by omega) d hd).mono ?_;rintro e R⟨rfl,q3⟩;have c:=b.trans (q3.mono b.size);have u:=q3.size;clear q3 b;go_wp2_with fail;refine(aA _ (s) (((i:Int)+(k:Int)+1)) (i+k+1) (by omega) (by omega) q ((i:Int)+(k:Int)+1+(t:Int)) (by have z:=H;omega)).mono ?_;rintro e Q⟨rfl,h⟩;have g:=c.trans (h.mono c.size);have r:=h.size;clear h c;go_wp2;go_ret;exact cF (by rw[<-J];omega) g
 have N:(((d.toNat:Nat):Int)==46)=false:=(ar d 46).trans (by simp[n]);have W:(((d.toNat:Nat):Int)==47)=true:=(ar d 47).trans (by simp[n]);clear n;rcases I with⟨E,f⟩|⟨D,f⟩
 ·replace f:=f.symm
  subst f;subst E;go_in;go_wp2_with fail;refine(bh _ (s) ((i:Int)) (i) (by omega) p j).mono ?_;rintro e O⟨rfl,q1⟩;have a:=(aa w).trans (q1.mono (aa w).size);have l:=q1.size;clear q1;go_wp2_with fail;refine(aA _ (s) (((i:Int))) (i) (by omega) (by omega) q ((i:Int)+(k:Int)) (by have z:=G;omega)).mono ?_;rintro e P⟨rfl,q2⟩;have b:=a.trans (q2.mono a.size);have o:=q2.size;clear q2 a;go_wp2_with fail;refine(bh _ (s) (((i:Int)+(k:Int))) (i+k) (by omega) d hd).mono ?_;rintro e R⟨rfl,q3⟩;have c:=b.trans (q3.mono b.size);have u:=q3.size;clear q3 b;go_wp2_with fail;refine(bh _ (s) (((i:Int)+(k:Int))) (i+k) (by omega) d hd).mono ?_;rintro e Q⟨rfl,h⟩;have g:=c.trans (h.mono c.size);have r:=h.size;clear h c;go_wp2_with fail;refine(aA _ (s) (((i:Int)+(k:Int)+1)) (i+k+1) (by omega) (by omega) q ((i:Int)+(k:Int)+1) (by have z:=H;omega)).mono ?_;rintro e w5⟨rfl,C⟩;have F:=g.trans (C.mono g.size);have U:=C.size;clear C g;go_wp2;go_ret;exact cF (by rw[<-J];omega) F
 replace f:=f.symm;subst f;have ac:((0:Int)<(t:Int))=True:=by simp;omega
 have Y:i+k+1+t<=s.length:=by have:=cB H D;omega
 have T:((i:Int)+(k:Int)+1<(i:Int)+(k:Int)+1+(t:Int))=True:=by simp;omega
 go_in;go_wp2_with fail;refine(bh _ (s) ((i:Int)) (i) (by omega) p j).mono ?_;rintro e O⟨rfl,q1⟩;have a:=(aa w).trans (q1.mono (aa w).size);have l:=q1.size;clear q1;go_wp2_with fail;refine(aA _ (s) (((i:Int))) (i) (by omega) (by omega) q ((i:Int)+(k:Int)) (by have z:=G;omega)).mono ?_;rintro e P⟨rfl,q2⟩;have b:=a.trans (q2.mono a.size);have o:=q2.size;clear q2 a;go_wp2_with fail;refine(bh _ (s) (((i:Int)+(k:Int))) (i+k) (by omega) d hd).mono ?_;rintro e R⟨rfl,q3⟩;have c:=b.trans (q3.mono b.size);have u:=q3.size;clear q3 b;go_wp2_with fail;refine(bh _ (s) (((i:Int)+(k:Int))) (i+k) (by omega) d hd).mono ?_;rintro e Q⟨rfl,h⟩;have g:=c.trans (h.mono c.size);have r:=h.size;clear h c;go_wp2_with fail;refine(aA _ (s) (((i:Int)+(k:Int)+1)) (i+k+1) (by omega) (by omega) q ((i:Int)+(k:Int)+1+(t:Int)) (by have z:=H;omega)).mono ?_;rintro e w5⟨rfl,C⟩;have F:=g.trans (C.mono g.size);have U:=C.size;clear C g;go_wp2;go_ret;exact cF (by rw[<-J];omega) F
theorem dp(w:World)(s:List UInt8)(n:s.length<4611686018427387904)(v:Nat)(hv:cT s=v):Calls Tryz.prog 109 #[ae s] w (av w (.int .i64 (v:Nat))):=by
 have ac:=ah s;obtain⟨m,k,hm,p,z⟩:=jz (s:=s) (i:=0) hv;rw[Nat.zero_add]at p;simp only[Nat.zero_add]at z;clear hv;rcases hm with⟨rfl,C⟩|⟨rfl,C⟩
 ·have ad:0<s.length:=kg C (by decide)
  have r:dE s=true:=by rw[ry];simp[C]
  clear C;rcases z with⟨Q,R⟩|⟨U,d,hd,z⟩
  ·subst R
   subst Q;go_in;go_wp2_with fail;refine(ci _ (s) true r).mono ?_;rintro e A⟨rfl,q1⟩;have a:=(aa w).trans (q1.mono (aa w).size);have g:=q1.size;clear q1;go_wp2_with fail;refine(aP _ (s) (1) (1) (by omega) (by omega) n (0) (by have o:=p;omega)).mono ?_;rintro e D⟨rfl,q2⟩;have b:=a.trans (q2.mono a.size);have j:=q2.size;clear q2 a;go_wp2;go_ret;exact cF (by omega) b
  have ab:1+k<=s.length:=by have:=cB p U;omega
  have X:((k:Int)==0)=false:=by simp;omega
  have Y:((k:Int)=0)=False:=by simp;omega
  rcases z with⟨H,E,c⟩|⟨F,t,B,z⟩
  ·have I:(((d.toNat:Nat):Int)==46)=false:=(ar d 46).trans (by simp[H])
   have N:(((d.toNat:Nat):Int)==47)=false:=(ar d 47).trans (by simp[E]);clear H E;replace c:=c.symm;subst c;have W:IntKind.i64.wrap (1+(k:Int))=1+(k:Int):=ty _ ⟨by omega,by omega⟩;rcases Nat.lt_or_ge (1+k) s.length with L|L
   ·have K:∀h,(⟨s.toArray⟩:ByteArray)[1+k]' h=d:=fun h=>by rw[<-hd];exact(cO L).symm
    have Z:(1+(k:Int)).toNat=1+k:=by omega
    have J:1+(k:Int)<(s.length:Int):=by omega
    have M:(0:Int)<=1+(k:Int):=by omega
    go_in;go_wp2_with fail;refine(ci _ (s) true r).mono ?_;rintro e A⟨rfl,q1⟩;have a:=(aa w).trans (q1.mono (aa w).size);have g:=q1.size;clear q1;go_wp2_with fail;refine(aP _ (s) (1) (1) (by omega) (by omega) n ((k:Int)) (by have o:=p;omega)).mono ?_;rintro e D⟨rfl,q2⟩;have b:=a.trans (q2.mono a.size);have j:=q2.size;clear q2 a;go_wp2;go_ret;exact cF (by omega) b
   have J:(1+(k:Int)<(s.length:Int))=False:=by simp;omega
   go_in;go_wp2_with fail;refine(ci _ (s) true r).mono ?_;rintro e A⟨rfl,q1⟩;have a:=(aa w).trans (q1.mono (aa w).size);have g:=q1.size;clear q1;go_wp2_with fail;refine(aP _ (s) (1) (1) (by omega) (by omega) n ((k:Int)) (by have o:=p;omega)).mono ?_;rintro e D⟨rfl,q2⟩;have b:=a.trans (q2.mono a.size);have j:=q2.size;clear q2 a;go_wp2;go_ret;exact cF (by omega) b
  have L:1+k<s.length:=by rcases F with e|e<;>exact kg hd (by rw[e];decide)
  have W:IntKind.i64.wrap (1+(k:Int))=1+(k:Int):=ty _ ⟨by omega,by omega⟩;have V:IntKind.i64.wrap (1+(k:Int)+1)=1+(k:Int)+1:=ty _ ⟨by omega,by omega⟩;have K:∀h,(⟨s.toArray⟩:ByteArray)[1+k]' h=d:=fun h=>by rw[<-hd];exact(cO L).symm
  have Z:(1+(k:Int)).toNat=1+k:=by omega
  have J:1+(k:Int)<(s.length:Int):=by omega
  have M:(0:Int)<=1+(k:Int):=by omega
  rcases F with q|l
  ·have I:(((d.toNat:Nat):Int)==46)=true:=(ar d 46).trans (by simp[q])
   clear q;rcases z with⟨y,c⟩|⟨x,c⟩
   ·replace c:=c.symm
    subst c;subst y;go_in;go_wp2_with fail;refine(ci _ (s) true r).mono ?_;rintro e A⟨rfl,q1⟩;have a:=(aa w).trans (q1.mono (aa w).size);have g:=q1.size;clear q1;go_wp2_with fail;refine(aP _ (s) (1) (1) (by omega) (by omega) n ((k:Int)) (by have o:=p;omega)).mono ?_;rintro e D⟨rfl,q2⟩;have b:=a.trans (q2.mono a.size);have j:=q2.size;clear q2 a;go_wp2_with fail;refine(aP _ (s) ((1+(k:Int)+1)) (1+k+1) (by omega) (by omega) n (0) (by have o:=B;omega)).mono ?_;rintro e O⟨rfl,q3⟩;have f:=b.trans (q3.mono b.size);have u:=q3.size;clear q3 b;go_wp2;go_ret;exact cF (by omega) f
   replace c:=c.symm;subst c;have T:((0:Int)<(t:Int))=True:=by simp;omega
   have P:1+k+1+t<=s.length:=by have:=cB B x;omega
   have S:IntKind.i64.wrap (1+(t:Int))=1+(t:Int):=ty _ ⟨by omega,by omega⟩;have G:IntKind.i64.wrap (1+(k:Int)+(1+(t:Int)))=1+(k:Int)+(1+(t:Int)):=ty _ ⟨by omega,by omega⟩;go_in;go_wp2_with fail;refine(ci _ (s) true r).mono ?_;rintro e A⟨rfl,q1⟩;have a:=(aa w).trans (q1.mono (aa w).size);have g:=q1.size;clear q1;go_wp2_with fail;refine(aP _ (s) (1) (1) (by omega) (by omega) n ((k:Int)) (by have o:=p;omega)).mono ?_;rintro e D⟨rfl,q2⟩;have b:=a.trans (q2.mono a.size);have j:=q2.size;clear q2 a;go_wp2_with fail;refine(aP _ (s) ((1+(k:Int)+1)) (1+k+1) (by omega) (by omega) n ((t:Int)) (by have o:=B;omega)).mono ?_;rintro e O⟨rfl,q3⟩;have f:=b.trans (q3.mono b.size);have u:=q3.size;clear q3 b;go_wp2;go_ret;exact cF (by omega) f
  have I:(((d.toNat:Nat):Int)==46)=false:=(ar d 46).trans (by simp[l]);have N:(((d.toNat:Nat):Int)==47)=true:=(ar d 47).trans (by simp[l]);clear l;rcases z with⟨y,c⟩|⟨x,c⟩
  ·replace c:=c.symm
   subst c;subst y;go_in;go_wp2_with fail;refine(ci _ (s) true r).mono ?_;rintro e A⟨rfl,q1⟩;have a:=(aa w).trans (q1.mono (aa w).size);have g:=q1.size;clear q1;go_wp2_with fail;refine(aP _ (s) (1) (1) (by omega) (by omega) n ((k:Int)) (by have o:=p;omega)).mono ?_;rintro e D⟨rfl,q2⟩;have b:=a.trans (q2.mono a.size);have j:=q2.size;clear q2 a;go_wp2_with fail;refine(aP _ (s) ((1+(k:Int)+1)) (1+k+1) (by omega) (by omega) n (0) (by have o:=B;omega)).mono ?_;rintro e O⟨rfl,q3⟩;have f:=b.trans (q3.mono b.size);have u:=q3.size;clear q3 b;go_wp2;go_ret;exact cF (by omega) f
  replace c:=c.symm;subst c;have T:((0:Int)<(t:Int))=True:=by simp;omega
  have P:1+k+1+t<=s.length:=by have:=cB B x;omega
  have S:IntKind.i64.wrap (1+(t:Int))=1+(t:Int):=ty _ ⟨by omega,by omega⟩;have G:IntKind.i64.wrap (1+(k:Int)+(1+(t:Int)))=1+(k:Int)+(1+(t:Int)):=ty _ ⟨by omega,by omega⟩;go_in;go_wp2_with fail;refine(ci _ (s) true r).mono ?_;rintro e A⟨rfl,q1⟩;have a:=(aa w).trans (q1.mono (aa w).size);have g:=q1.size;clear q1;go_wp2_with fail;refine(aP _ (s) (1) (1) (by omega) (by omega) n ((k:Int)) (by have o:=p;omega)).mono ?_;rintro e D⟨rfl,q2⟩;have b:=a.trans (q2.mono a.size);have j:=q2.size;clear q2 a;go_wp2_with fail;refine(aP _ (s) ((1+(k:Int)+1)) (1+k+1) (by omega) (by omega) n ((t:Int)) (by have o:=B;omega)).mono ?_;rintro e O⟨rfl,q3⟩;have f:=b.trans (q3.mono b.size);have u:=q3.size;clear q3 b;go_wp2;go_ret;exact cF (by omega) f
 simp only[Nat.zero_add]at p z;have r:dE s=false:=by rw[ry];simp[C]
 clear C;rcases z with⟨Q,R⟩|⟨U,d,hd,z⟩
 ·subst R
  subst Q;go_in;go_wp2_with fail;refine(ci _ (s) false r).mono ?_;rintro e A⟨rfl,q1⟩;have a:=(aa w).trans (q1.mono (aa w).size);have g:=q1.size;clear q1;go_wp2_with fail;refine(aP _ (s) (0) (0) (by omega) (by omega) n (0) (by have o:=p;omega)).mono ?_;rintro e D⟨rfl,q2⟩;have b:=a.trans (q2.mono a.size);have j:=q2.size;clear q2 a;go_wp2;go_ret;exact cF (by omega) b
 have ab:k<=s.length:=by have:=cB p U;omega
 have X:((k:Int)==0)=false:=by simp;omega
 have Y:((k:Int)=0)=False:=by simp;omega
 rcases z with⟨H,E,c⟩|⟨F,t,B,z⟩
 ·have I:(((d.toNat:Nat):Int)==46)=false:=(ar d 46).trans (by simp[H])
  have N:(((d.toNat:Nat):Int)==47)=false:=(ar d 47).trans (by simp[E]);clear H E;replace c:=c.symm;subst c;rcases Nat.lt_or_ge (k) s.length with L|L
  ·have K:∀h,(⟨s.toArray⟩:ByteArray)[k]' h=d:=fun h=>by rw[<-hd];exact(cO L).symm
   have Z:((k:Int)).toNat=k:=by omega
   have J:(k:Int)<(s.length:Int):=by omega
   have M:(0:Int)<=(k:Int):=by omega
   go_in;go_wp2_with fail;refine(ci _ (s) false r).mono ?_;rintro e A⟨rfl,q1⟩;have a:=(aa w).trans (q1.mono (aa w).size);have g:=q1.size;clear q1;go_wp2_with fail;refine(aP _ (s) (0) (0) (by omega) (by omega) n ((k:Int)) (by have o:=p;omega)).mono ?_;rintro e D⟨rfl,q2⟩;have b:=a.trans (q2.mono a.size);have j:=q2.size;clear q2 a;go_wp2;go_ret;exact cF (by omega) b
  have J:((k:Int)<(s.length:Int))=False:=by simp;omega
  go_in;go_wp2_with fail;refine(ci _ (s) false r).mono ?_;rintro e A⟨rfl,q1⟩;have a:=(aa w).trans (q1.mono (aa w).size);have g:=q1.size;clear q1;go_wp2_with fail;refine(aP _ (s) (0) (0) (by omega) (by omega) n ((k:Int)) (by have o:=p;omega)).mono ?_;rintro e D⟨rfl,q2⟩;have b:=a.trans (q2.mono a.size);have j:=q2.size;clear q2 a;go_wp2;go_ret;exact cF (by omega) b
 have L:k<s.length:=by rcases F with e|e<;>exact kg hd (by rw[e];decide)
 have V:IntKind.i64.wrap ((k:Int)+1)=(k:Int)+1:=ty _ ⟨by omega,by omega⟩;have K:∀h,(⟨s.toArray⟩:ByteArray)[k]' h=d:=fun h=>by rw[<-hd];exact(cO L).symm
 have Z:((k:Int)).toNat=k:=by omega
 have J:(k:Int)<(s.length:Int):=by omega
 have M:(0:Int)<=(k:Int):=by omega
 rcases F with q|l
 ·have I:(((d.toNat:Nat):Int)==46)=true:=(ar d 46).trans (by simp[q])
  clear q;rcases z with⟨y,c⟩|⟨x,c⟩
  ·replace c:=c.symm
   subst c;subst y;go_in;go_wp2_with fail;refine(ci _ (s) false r).mono ?_;rintro e A⟨rfl,q1⟩;have a:=(aa w).trans (q1.mono (aa w).size);have g:=q1.size;clear q1;go_wp2_with fail;refine(aP _ (s) (0) (0) (by omega) (by omega) n ((k:Int)) (by have o:=p;omega)).mono ?_;rintro e D⟨rfl,q2⟩;have b:=a.trans (q2.mono a.size);have j:=q2.size;clear q2 a;go_wp2_with fail;refine(aP _ (s) (((k:Int)+1)) (k+1) (by omega) (by omega) n (0) (by have o:=B;omega)).mono ?_;rintro e O⟨rfl,q3⟩;have f:=b.trans (q3.mono b.size);have u:=q3.size;clear q3 b;go_wp2;go_ret;exact cF (by omega) f
  replace c:=c.symm;subst c;have T:((0:Int)<(t:Int))=True:=by simp;omega
  have P:k+1+t<=s.length:=by have:=cB B x;omega
  have S:IntKind.i64.wrap (1+(t:Int))=1+(t:Int):=ty _ ⟨by omega,by omega⟩;have G:IntKind.i64.wrap ((k:Int)+(1+(t:Int)))=(k:Int)+(1+(t:Int)):=ty _ ⟨by omega,by omega⟩;go_in;go_wp2_with fail;refine(ci _ (s) false r).mono ?_;rintro e A⟨rfl,q1⟩;have a:=(aa w).trans (q1.mono (aa w).size);have g:=q1.size;clear q1;go_wp2_with fail;refine(aP _ (s) (0) (0) (by omega) (by omega) n ((k:Int)) (by have o:=p;omega)).mono ?_;rintro e D⟨rfl,q2⟩;have b:=a.trans (q2.mono a.size);have j:=q2.size;clear q2 a;go_wp2_with fail;refine(aP _ (s) (((k:Int)+1)) (k+1) (by omega) (by omega) n ((t:Int)) (by have o:=B;omega)).mono ?_;rintro e O⟨rfl,q3⟩;have f:=b.trans (q3.mono b.size);have u:=q3.size;clear q3 b;go_wp2;go_ret;exact cF (by omega) f
 have I:(((d.toNat:Nat):Int)==46)=false:=(ar d 46).trans (by simp[l]);have N:(((d.toNat:Nat):Int)==47)=true:=(ar d 47).trans (by simp[l]);clear l;rcases z with⟨y,c⟩|⟨x,c⟩
 ·replace c:=c.symm
  subst c;subst y;go_in;go_wp2_with fail;refine(ci _ (s) false r).mono ?_;rintro e A⟨rfl,q1⟩;have a:=(aa w).trans (q1.mono (aa w).size);have g:=q1.size;clear q1;go_wp2_with fail;refine(aP _ (s) (0) (0) (by omega) (by omega) n ((k:Int)) (by have o:=p;omega)).mono ?_;rintro e D⟨rfl,q2⟩;have b:=a.trans (q2.mono a.size);have j:=q2.size;clear q2 a;go_wp2_with fail;refine(aP _ (s) (((k:Int)+1)) (k+1) (by omega) (by omega) n (0) (by have o:=B;omega)).mono ?_;rintro e O⟨rfl,q3⟩;have f:=b.trans (q3.mono b.size);have u:=q3.size;clear q3 b;go_wp2;go_ret;exact cF (by omega) f
 replace c:=c.symm;subst c;have T:((0:Int)<(t:Int))=True:=by simp;omega
 have P:k+1+t<=s.length:=by have:=cB B x;omega
 have S:IntKind.i64.wrap (1+(t:Int))=1+(t:Int):=ty _ ⟨by omega,by omega⟩;have G:IntKind.i64.wrap ((k:Int)+(1+(t:Int)))=(k:Int)+(1+(t:Int)):=ty _ ⟨by omega,by omega⟩;go_in;go_wp2_with fail;refine(ci _ (s) false r).mono ?_;rintro e A⟨rfl,q1⟩;have a:=(aa w).trans (q1.mono (aa w).size);have g:=q1.size;clear q1;go_wp2_with fail;refine(aP _ (s) (0) (0) (by omega) (by omega) n ((k:Int)) (by have o:=p;omega)).mono ?_;rintro e D⟨rfl,q2⟩;have b:=a.trans (q2.mono a.size);have j:=q2.size;clear q2 a;go_wp2_with fail;refine(aP _ (s) (((k:Int)+1)) (k+1) (by omega) (by omega) n ((t:Int)) (by have o:=B;omega)).mono ?_;rintro e O⟨rfl,q3⟩;have f:=b.trans (q3.mono b.size);have u:=q3.size;clear q3 b;go_wp2;go_ret;exact cF (by omega) f
theorem vR(s:List UInt8)(i:Nat):sS (s.drop i)=(dj (atB s i)||atB s i==95||atB s i==46||atB s i==47):=by
 rcases Nat.lt_or_ge i s.length with h|h
 ·rw[ce h];rfl
 rw[FY h,fM h];rfl
def DD:ot->Value
  | .ok k n=>.tuple #[.int .i64 (k:Nat),.int .i64 (n:Nat),.nilIface]
  | .err x=>.tuple #[.int .i64 0,.int .i64 0,.iface 49 (.int .i64 (x:Nat))]
def EU(i:Nat):ot->Value
  | .ok k n=>.tuple #[.int .i64 (k:Nat),.int .i64 ((i:Int)+(n:Nat)),.int .i64 0]
  | .err x=>.tuple #[.int .i64 0,.int .i64 0,.int .i64 (x:Nat)]
theorem lH{s:List UInt8}{i:Nat}{f:ot}(l:i<s.length)(r:bQ (s.drop i)=f):∃c,atB s i=c/\∃n,cG (s.drop i)=n/\∃m,cT (s.drop i)=m/\n<=s.length-i/\m<=s.length-i /\
 ((dR c=true/\n=0/\m=0/\f=.ok 2 1)\/(dR c=false/\24<n/\f=.err 5)\/(dR c=false/\0<n/\n<=24/\f=.ok 0 n) \/
  (dR c=false/\n=0/\m=0/\f=.err 2)\/(dR c=false/\n=0/\60<m/\f=.err 4) \/
  (dR c=false/\n=0/\0<m/\m<=60/\∃d,atB s (i+m)=d/\((dj d=true/\f=.err 2)\/(dj d=false/\d=95/\f=.err 2)\/(dj d=false/\d=46/\f=.err 2)\/(dj d=false/\d=47/\f=.err 2) \/
   (dj d=false/\d≠95/\d≠46/\d≠47/\f=.ok 1 m)))):=by
 have p:=kH (s.drop i);have o:=pD (s.drop i);rw[vu]at p o;refine⟨_,rfl,_,rfl,_,rfl,p,o,?_⟩;subst r;by_cases g:dR (atB s i)=true
 ·left
  have q:cG (s.drop i)=0:=mC (by
   rw[lh]at g
   rw[oy];simp at g⊢;omega)
  have u:cT (s.drop i)=0:=by
   obtain⟨m,k,t,j,v⟩:=jz (s:=s) (i:=i) rfl;rw[lh]at g;rcases t with⟨_,h⟩|⟨rfl,h⟩
   ·rw[h]at g;exact absurd g (by decide)
   rcases v with⟨_,h⟩|⟨h,_⟩
   ·exact h
   exfalso;rw[Nat.add_zero,ce l]at j;unfold d9 at j;rw[Gj,kl (by rw[rh];simp at g⊢;omega)]at j;simp at j;omega
  refine⟨g,q,u,?_⟩;rw[ce l,bQ,kZ g]
 have g:dR (atB s i)=false:=by simpa using g
 right
 have e:bQ (s.drop i)=(if 0<cG (s.drop i) then (if 24<cG (s.drop i) then .err 5 else .ok 0 (cG (s.drop i)))
  else if cT (s.drop i)=0 then .err 2 else if 60<cT (s.drop i) then .err 4 else if sS ((s.drop i).drop (cT (s.drop i))) then .err 2 else .ok 1 (cT (s.drop i))):=by
  conv=>lhs;rw[ce l]
  rw[bQ,kl (by rw[g];decide),<-ce l]
 rw[e,G8];by_cases a:0<cG (s.drop i)
 ·rw[kZ a]
  by_cases b:24<cG (s.drop i)
  ·rw[kZ b];exact .inl ⟨g,b,rfl⟩
  rw[kl b];exact .inr (.inl ⟨g,a,by omega,rfl⟩)
 rw[kl a];have a:cG (s.drop i)=0:=by omega
 right;right;by_cases b:cT (s.drop i)=0
 ·rw[kZ b];exact .inl ⟨g,a,b,rfl⟩
 rw[kl b];by_cases b2:60<cT (s.drop i)
 ·rw[kZ b2];exact .inr (.inl ⟨g,a,b2,rfl⟩)
 rw[kl b2];refine .inr (.inr ⟨g,a,by omega,by omega,_,rfl,?_⟩);rw[vR];generalize atB s (i+cT (s.drop i))=d;cases hl:dj d
 ·by_cases c1:d=95
  ·subst c1;exact .inr (.inl ⟨rfl,rfl,rfl⟩)
  by_cases c2:d=46
  ·subst c2;exact .inr (.inr (.inl ⟨rfl,rfl,rfl⟩))
  by_cases c3:d=47
  ·subst c3;exact .inr (.inr (.inr (.inl ⟨rfl,rfl,rfl⟩)))
  refine .inr (.inr (.inr (.inr ⟨rfl,c1,c2,c3,?_⟩)));rw[it.2 c1,it.2 c2,it.2 c3];rfl
 exact .inl ⟨rfl,rfl⟩
theorem iX(w:World)(c:UInt8)(v:Bool)(f:dR c=v):Calls Tryz.prog 107 #[.string ⟨#[123,125,59,46]⟩,.int .u8 (c.toNat:Nat)] w (fun e b=>∃x:Int,decide (0<=x)=v/\e=.returned (.int .i64 x)/\Below w.heap.size w b):=by
 refine(Tryz.strings_IndexByte ⟨#[123,125,59,46]⟩ (c.toNat:Nat) w).mono fun e b ⟨d,hw⟩=>⟨_,?_,d,hw ▸ aa _⟩
 have i:((c.toNat:Nat):Int).toNat.toUInt8=c:=by simp
 rw[i,<-f];unfold dR;show decide (0<=Lib.indexByte [123,125,59,46] c)=_;unfold Lib.indexByte Lib.indexByte Lib.indexByte Lib.indexByte Lib.indexByte;by_cases h1:c=123
 ·subst h1;rfl
 by_cases h2:c=125
 ·subst h2;rfl
 by_cases h3:c=59
 ·subst h3;rfl
 by_cases h4:c=46
 ·subst h4;rfl
 have g:∀ {a:UInt8},c≠a->(a==c)=false:=fun h=>it.2 (fun e=>h e.symm)
 rw[it.2 h1,it.2 h2,it.2 h3,it.2 h4];simp[g h1,g h2,g h3,g h4]
theorem un(w:World)(s:List UInt8)(hp:0<s.length)(B:s.length<4611686018427387904)(f:ot)(hf:bQ s=f):Calls Tryz.prog 69 #[ae s] w (av w (DD f)):=by
 have ab:=ah s;obtain⟨c,L,n,o,m,r,ao,aC,Z⟩:=lH (s:=s) (i:=0) hp hf;clear hf;have o:cG s=n:=o;have r:cT s=m:=r;have T:∀h,(⟨s.toArray⟩:ByteArray)[0]' h=c:=fun h=>by rw[<-L];exact(cO hp).symm
 have al:(0:Int)<(s.length:Int):=by omega
 clear L;rcases Z with⟨k,E,O,rfl⟩|⟨k,R,rfl⟩|⟨k,R,aF,rfl⟩|⟨k,E,O,rfl⟩|⟨k,E,X,rfl⟩|⟨k,E,X,an,d,hd,hc⟩
 ·go_in
  go_wp2_with fail;refine(iX _ c _ k).mono ?_;rintro e F⟨x,l,rfl,j⟩;have q:(0<=x)=True:=by simpa using l
  clear l;have b:=j;go_wp2_with fail;refine zr1 (.tuple #[.int .i64 2,.int .i64 1,.nilIface]) ?_;exact⟨rfl,b⟩
 ·have S:((0:Int)<(n:Int))=True:=by simp;omega
  have P:((24:Int)<(n:Int))=True:=by simp;omega
  go_in;go_wp2_with fail;refine(iX _ c _ k).mono ?_;rintro e F⟨x,l,rfl,j⟩;have q:(0<=x)=False:=by simpa using l
  clear l;have b:=j;go_wp2_with fail;refine(dY _ (s) B (n) o).mono ?_;rintro e I⟨rfl,q2⟩;have a:=b.trans (q2.mono b.size);have A:=q2.size;clear q2;go_wp2_with fail;refine zr1 (.tuple #[.int .i64 0,.int .i64 0,.iface 49 (.int .i64 5)]) ?_;exact⟨rfl,a⟩
 ·have S:((0:Int)<(n:Int))=True:=by simp;omega
  have P:((24:Int)<(n:Int))=False:=by simp;omega
  go_in;go_wp2_with fail;refine(iX _ c _ k).mono ?_;rintro e F⟨x,l,rfl,j⟩;have q:(0<=x)=False:=by simpa using l
  clear l;have b:=j;go_wp2_with fail;refine(dY _ (s) B (n) o).mono ?_;rintro e I⟨rfl,q2⟩;have a:=b.trans (q2.mono b.size);have A:=q2.size;clear q2;go_wp2_with fail;refine zr1 (.tuple #[.int .i64 0,.int .i64 n,.nilIface]) ?_;exact⟨rfl,a⟩
 ·subst E
  subst O;go_in;go_wp2_with fail;refine(iX _ c _ k).mono ?_;rintro e F⟨x,l,rfl,j⟩;have q:(0<=x)=False:=by simpa using l
  clear l;have b:=j;go_wp2_with fail;refine(dY _ (s) B (0) o).mono ?_;rintro e I⟨rfl,q2⟩;have a:=b.trans (q2.mono b.size);have A:=q2.size;clear q2;go_wp2_with fail;refine(dp _ (s) B (0) r).mono ?_;rintro e K⟨rfl,q3⟩;have g:=a.trans (q3.mono a.size);have D:=q3.size;clear q3 a;go_wp2_with fail;refine zr1 (.tuple #[.int .i64 0,.int .i64 0,.iface 49 (.int .i64 2)]) ?_;exact⟨rfl,g⟩
 ·subst E
  have U:((m:Int)==0)=false:=by simp;omega
  have Y:((60:Int)<(m:Int))=True:=by simp;omega
  go_in;go_wp2_with fail;refine(iX _ c _ k).mono ?_;rintro e F⟨x,l,rfl,j⟩;have q:(0<=x)=False:=by simpa using l
  clear l;have b:=j;go_wp2_with fail;refine(dY _ (s) B (0) o).mono ?_;rintro e I⟨rfl,q2⟩;have a:=b.trans (q2.mono b.size);have A:=q2.size;clear q2;go_wp2_with fail;refine(dp _ (s) B (m) r).mono ?_;rintro e K⟨rfl,q3⟩;have g:=a.trans (q3.mono a.size);have D:=q3.size;clear q3 a;go_wp2_with fail;refine zr1 (.tuple #[.int .i64 0,.int .i64 0,.iface 49 (.int .i64 4)]) ?_;exact⟨rfl,g⟩
 subst E;have U:((m:Int)==0)=false:=by simp;omega
 have Y:((60:Int)<(m:Int))=False:=by simp;omega
 rw[Nat.zero_add]at hd;rcases Nat.lt_or_ge m s.length with H|H
 ·have ac:∀h,(⟨s.toArray⟩:ByteArray)[m]' h=d:=fun h=>by rw[<-hd];exact(cO H).symm
  have N:((m:Int)<(s.length:Int))=True:=by simp;omega
  have ad:m<s.length:=H;clear hd;rcases hc with⟨C,rfl⟩|⟨C,z,rfl⟩|⟨C,t,rfl⟩|⟨C,p,rfl⟩|⟨C,z,t,p,rfl⟩
  ·skip
   go_in;go_wp2_with fail;refine(iX _ c _ k).mono ?_;rintro e F⟨x,l,rfl,j⟩;have q:(0<=x)=False:=by simpa using l
   clear l;have b:=j;go_wp2_with fail;refine(dY _ (s) B (0) o).mono ?_;rintro e I⟨rfl,q2⟩;have a:=b.trans (q2.mono b.size);have A:=q2.size;clear q2;go_wp2_with fail;refine(dp _ (s) B (m) r).mono ?_;rintro e K⟨rfl,q3⟩;have g:=a.trans (q3.mono a.size);have D:=q3.size;clear q3 a;go_wp2_with fail;refine(bq _ d true C).mono ?_;rintro e Q⟨rfl,y⟩;have u:=g.trans (y.mono g.size);have G:=y.size;clear y g;go_wp2_with fail;refine zr1 (.tuple #[.int .i64 0,.int .i64 0,.iface 49 (.int .i64 2)]) ?_;exact⟨rfl,u⟩
  ·have J:(((d.toNat:Nat):Int)==95)=true:=(ar d 95).trans (by simp[z])
   clear z;go_in;go_wp2_with fail;refine(iX _ c _ k).mono ?_;rintro e F⟨x,l,rfl,j⟩;have q:(0<=x)=False:=by simpa using l
   clear l;have b:=j;go_wp2_with fail;refine(dY _ (s) B (0) o).mono ?_;rintro e I⟨rfl,q2⟩;have a:=b.trans (q2.mono b.size);have A:=q2.size;clear q2;go_wp2_with fail;refine(dp _ (s) B (m) r).mono ?_;rintro e K⟨rfl,q3⟩;have g:=a.trans (q3.mono a.size);have D:=q3.size;clear q3 a;go_wp2_with fail;refine(bq _ d false C).mono ?_;rintro e Q⟨rfl,y⟩;have u:=g.trans (y.mono g.size);have G:=y.size;clear y g;go_wp2_with fail;refine zr1 (.tuple #[.int .i64 0,.int .i64 0,.iface 49 (.int .i64 2)]) ?_;exact⟨rfl,u⟩
  ·have J:(((d.toNat:Nat):Int)==95)=false:=(ar d 95).trans (by simp[t])
   have M:(((d.toNat:Nat):Int)==46)=true:=(ar d 46).trans (by simp[t]);clear t;go_in;go_wp2_with fail;refine(iX _ c _ k).mono ?_;rintro e F⟨x,l,rfl,j⟩;have q:(0<=x)=False:=by simpa using l
   clear l;have b:=j;go_wp2_with fail;refine(dY _ (s) B (0) o).mono ?_;rintro e I⟨rfl,q2⟩;have a:=b.trans (q2.mono b.size);have A:=q2.size;clear q2;go_wp2_with fail;refine(dp _ (s) B (m) r).mono ?_;rintro e K⟨rfl,q3⟩;have g:=a.trans (q3.mono a.size);have D:=q3.size;clear q3 a;go_wp2_with fail;refine(bq _ d false C).mono ?_;rintro e Q⟨rfl,y⟩;have u:=g.trans (y.mono g.size);have G:=y.size;clear y g;go_wp2_with fail;refine zr1 (.tuple #[.int .i64 0,.int .i64 0,.iface 49 (.int .i64 2)]) ?_;exact⟨rfl,u⟩
  ·have J:(((d.toNat:Nat):Int)==95)=false:=(ar d 95).trans (by simp[p])
   have M:(((d.toNat:Nat):Int)==46)=false:=(ar d 46).trans (by simp[p]);have W:(((d.toNat:Nat):Int)==47)=true:=(ar d 47).trans (by simp[p]);clear p;go_in;go_wp2_with fail;refine(iX _ c _ k).mono ?_;rintro e F⟨x,l,rfl,j⟩;have q:(0<=x)=False:=by simpa using l
   clear l;have b:=j;go_wp2_with fail;refine(dY _ (s) B (0) o).mono ?_;rintro e I⟨rfl,q2⟩;have a:=b.trans (q2.mono b.size);have A:=q2.size;clear q2;go_wp2_with fail;refine(dp _ (s) B (m) r).mono ?_;rintro e K⟨rfl,q3⟩;have g:=a.trans (q3.mono a.size);have D:=q3.size;clear q3 a;go_wp2_with fail;refine(bq _ d false C).mono ?_;rintro e Q⟨rfl,y⟩;have u:=g.trans (y.mono g.size);have G:=y.size;clear y g;go_wp2_with fail;refine zr1 (.tuple #[.int .i64 0,.int .i64 0,.iface 49 (.int .i64 2)]) ?_;exact⟨rfl,u⟩
  have J:(((d.toNat:Nat):Int)==95)=false:=(ar d 95).trans (by simp[z]);have M:(((d.toNat:Nat):Int)==46)=false:=(ar d 46).trans (by simp[t]);have W:(((d.toNat:Nat):Int)==47)=false:=(ar d 47).trans (by simp[p]);clear z t p;go_in;go_wp2_with fail;refine(iX _ c _ k).mono ?_;rintro e F⟨x,l,rfl,j⟩;have q:(0<=x)=False:=by simpa using l
  clear l;have b:=j;go_wp2_with fail;refine(dY _ (s) B (0) o).mono ?_;rintro e I⟨rfl,q2⟩;have a:=b.trans (q2.mono b.size);have A:=q2.size;clear q2;go_wp2_with fail;refine(dp _ (s) B (m) r).mono ?_;rintro e K⟨rfl,q3⟩;have g:=a.trans (q3.mono a.size);have D:=q3.size;clear q3 a;go_wp2_with fail;refine(bq _ d false C).mono ?_;rintro e Q⟨rfl,y⟩;have u:=g.trans (y.mono g.size);have G:=y.size;clear y g;go_wp2_with fail;refine zr1 (.tuple #[.int .i64 1,.int .i64 m,.nilIface]) ?_;exact⟨rfl,u⟩
 have N:((m:Int)<(s.length:Int))=False:=by simp;omega
 have V:d=0:=by rw[<-hd];exact fM H
 subst V;clear hd;rcases hc with⟨C,rfl⟩|⟨C,z,rfl⟩|⟨C,t,rfl⟩|⟨C,p,rfl⟩|⟨C,z,t,p,rfl⟩
 ·exact absurd C (by decide)
 ·exact absurd z (by decide)
 ·exact absurd t (by decide)
 ·exact absurd p (by decide)
 clear z t p C;go_in;go_wp2_with fail;refine(iX _ c _ k).mono ?_;rintro e F⟨x,l,rfl,j⟩;have q:(0<=x)=False:=by simpa using l
 clear l;have b:=j;go_wp2_with fail;refine(dY _ (s) B (0) o).mono ?_;rintro e I⟨rfl,q2⟩;have a:=b.trans (q2.mono b.size);have A:=q2.size;clear q2;go_wp2_with fail;refine(dp _ (s) B (m) r).mono ?_;rintro e K⟨rfl,q3⟩;have g:=a.trans (q3.mono a.size);have D:=q3.size;clear q3 a;go_wp2_with fail;refine zr1 (.tuple #[.int .i64 1,.int .i64 m,.nilIface]) ?_;exact⟨rfl,g⟩
theorem zc(w:World)(s:List UInt8)(x:Int)(i:Nat)(hx:x=((i:Nat):Int))(W:i<s.length)(p:s.length<4611686018427387904)(f:ot)(Y:bQ (s.drop i)=f):Calls Tryz.prog 80 #[ae s,.int .i64 x] w (av w (EU i f)):=by
 subst hx;have X:=ah s;obtain⟨c,P,n,j,m,r,al,an,V⟩:=lH (s:=s) (i:=i) W Y;clear Y;have ab:∀h,(⟨s.toArray⟩:ByteArray)[i]' h=c:=fun h=>by rw[<-P];exact(cO W).symm
 have Z:i<s.length:=W;clear P;rcases V with⟨t,y,K,rfl⟩|⟨t,T,rfl⟩|⟨t,T,ao,rfl⟩|⟨t,y,K,rfl⟩|⟨t,y,U,rfl⟩|⟨t,y,U,ad,d,hd,hc⟩
 ·have ac:IntKind.i64.wrap ((i:Int)+1)=(i:Int)+1:=ty _ ⟨by omega,by omega⟩
  subst y;subst K;go_in;go_wp2_with fail;refine(bJ _ (s) ((i:Int)) i rfl (by omega) p ((i:Int)) (by have q:=j;omega)).mono ?_;rintro e E⟨rfl,q1⟩;have a:=(aa w).trans (q1.mono (aa w).size);have l:=q1.size;clear q1;go_wp2_with fail;refine(cw _ (s) ((i:Int)) i rfl (by omega) p ((i:Int)) (by have q:=r;omega)).mono ?_;rintro e M⟨rfl,q2⟩;have b:=a.trans (q2.mono a.size);have z:=q2.size;clear q2 a;go_wp2_with fail;refine(rj _ c true t).mono ?_;rintro e O⟨rfl,q3⟩;have g:=b.trans (q3.mono b.size);have A:=q3.size;clear q3 b;go_wp2_with fail;refine zr1 (.tuple #[.int .i64 2,.int .i64 ((i:Int)+1),.int .i64 0]) ?_;exact⟨rfl,g⟩
 ·have J:((i:Int)<(i:Int)+(n:Int))=True:=by simp;omega
  have N:((0:Int)<(n:Int))=True:=by simp;omega
  have H:IntKind.i64.wrap ((i:Int)+(n:Int)-(i:Int))=(n:Int):=by rw[show (i:Int)+(n:Int)-(i:Int)=(n:Int) by omega];exact ty _ ⟨by omega,by omega⟩
  have C:IntKind.i64.wrap (n:Int)=(n:Int):=ty _ ⟨by omega,by omega⟩;have L:((24:Int)<(n:Int))=True:=by simp;omega
  go_in;go_wp2_with fail;refine(bJ _ (s) ((i:Int)) i rfl (by omega) p ((i:Int)+(n:Int)) (by have q:=j;omega)).mono ?_;rintro e E⟨rfl,q1⟩;have a:=(aa w).trans (q1.mono (aa w).size);have l:=q1.size;clear q1;go_wp2_with fail;refine zr1 (.tuple #[.int .i64 0,.int .i64 0,.int .i64 5]) ?_;exact⟨rfl,a⟩
 ·have J:((i:Int)<(i:Int)+(n:Int))=True:=by simp;omega
  have N:((0:Int)<(n:Int))=True:=by simp;omega
  have H:IntKind.i64.wrap ((i:Int)+(n:Int)-(i:Int))=(n:Int):=by rw[show (i:Int)+(n:Int)-(i:Int)=(n:Int) by omega];exact ty _ ⟨by omega,by omega⟩
  have C:IntKind.i64.wrap (n:Int)=(n:Int):=ty _ ⟨by omega,by omega⟩;have L:((24:Int)<(n:Int))=False:=by simp;omega
  go_in;go_wp2_with fail;refine(bJ _ (s) ((i:Int)) i rfl (by omega) p ((i:Int)+(n:Int)) (by have q:=j;omega)).mono ?_;rintro e E⟨rfl,q1⟩;have a:=(aa w).trans (q1.mono (aa w).size);have l:=q1.size;clear q1;go_wp2_with fail;refine zr1 (.tuple #[.int .i64 0,.int .i64 ((i:Int)+(n:Int)),.int .i64 0]) ?_;exact⟨rfl,a⟩
 ·subst y
  subst K;go_in;go_wp2_with fail;refine(bJ _ (s) ((i:Int)) i rfl (by omega) p ((i:Int)) (by have q:=j;omega)).mono ?_;rintro e E⟨rfl,q1⟩;have a:=(aa w).trans (q1.mono (aa w).size);have l:=q1.size;clear q1;go_wp2_with fail;refine(cw _ (s) ((i:Int)) i rfl (by omega) p ((i:Int)) (by have q:=r;omega)).mono ?_;rintro e M⟨rfl,q2⟩;have b:=a.trans (q2.mono a.size);have z:=q2.size;clear q2 a;go_wp2_with fail;refine(rj _ c false t).mono ?_;rintro e O⟨rfl,q3⟩;have g:=b.trans (q3.mono b.size);have A:=q3.size;clear q3 b;go_wp2_with fail;refine zr1 (.tuple #[.int .i64 0,.int .i64 0,.int .i64 2]) ?_;exact⟨rfl,g⟩
 ·subst y
  have J:((i:Int)<(i:Int)+(m:Int))=True:=by simp;omega
  have N:((0:Int)<(m:Int))=True:=by simp;omega
  have H:IntKind.i64.wrap ((i:Int)+(m:Int)-(i:Int))=(m:Int):=by rw[show (i:Int)+(m:Int)-(i:Int)=(m:Int) by omega];exact ty _ ⟨by omega,by omega⟩
  have C:IntKind.i64.wrap (m:Int)=(m:Int):=ty _ ⟨by omega,by omega⟩;have L:((60:Int)<(m:Int))=True:=by simp;omega
  go_in;go_wp2_with fail;refine(bJ _ (s) ((i:Int)) i rfl (by omega) p ((i:Int)) (by have q:=j;omega)).mono ?_;rintro e E⟨rfl,q1⟩;have a:=(aa w).trans (q1.mono (aa w).size);have l:=q1.size;clear q1;go_wp2_with fail;refine(cw _ (s) ((i:Int)) i rfl (by omega) p ((i:Int)+(m:Int)) (by have q:=r;omega)).mono ?_;rintro e M⟨rfl,q2⟩;have b:=a.trans (q2.mono a.size);have z:=q2.size;clear q2 a;go_wp2_with fail;refine zr1 (.tuple #[.int .i64 0,.int .i64 0,.int .i64 4]) ?_;exact⟨rfl,b⟩
 subst y;have J:((i:Int)<(i:Int)+(m:Int))=True:=by simp;omega
 have N:((0:Int)<(m:Int))=True:=by simp;omega
 have H:IntKind.i64.wrap ((i:Int)+(m:Int)-(i:Int))=(m:Int):=by rw[show (i:Int)+(m:Int)-(i:Int)=(m:Int) by omega];exact ty _ ⟨by omega,by omega⟩
 have C:IntKind.i64.wrap (m:Int)=(m:Int):=ty _ ⟨by omega,by omega⟩;have L:((60:Int)<(m:Int))=False:=by simp;omega
 rcases hc with⟨G,rfl⟩|⟨G,D,rfl⟩|⟨G,B,rfl⟩|⟨G,u,rfl⟩|⟨G,D,B,u,rfl⟩
 ·skip
  go_in;go_wp2_with fail;refine(bJ _ (s) ((i:Int)) i rfl (by omega) p ((i:Int)) (by have q:=j;omega)).mono ?_;rintro e E⟨rfl,q1⟩;have a:=(aa w).trans (q1.mono (aa w).size);have l:=q1.size;clear q1;go_wp2_with fail;refine(cw _ (s) ((i:Int)) i rfl (by omega) p ((i:Int)+(m:Int)) (by have q:=r;omega)).mono ?_;rintro e M⟨rfl,q2⟩;have b:=a.trans (q2.mono a.size);have z:=q2.size;clear q2 a;go_wp2_with fail;refine(bh _ (s) (((i:Int)+(m:Int))) (i+m) (by omega) d hd).mono ?_;rintro e O⟨rfl,q3⟩;have g:=b.trans (q3.mono b.size);have A:=q3.size;clear q3 b;go_wp2_with fail;refine(bq _ d true G).mono ?_;rintro e R⟨rfl,o⟩;have k:=g.trans (o.mono g.size);have F:=o.size;clear o g;go_wp2_with fail;refine zr1 (.tuple #[.int .i64 0,.int .i64 0,.int .i64 2]) ?_;exact⟨rfl,k⟩
 ·have I:(((d.toNat:Nat):Int)==95)=true:=(ar d 95).trans (by simp[D])
  clear D;go_in;go_wp2_with fail;refine(bJ _ (s) ((i:Int)) i rfl (by omega) p ((i:Int)) (by have q:=j;omega)).mono ?_;rintro e E⟨rfl,q1⟩;have a:=(aa w).trans (q1.mono (aa w).size);have l:=q1.size;clear q1;go_wp2_with fail;refine(cw _ (s) ((i:Int)) i rfl (by omega) p ((i:Int)+(m:Int)) (by have q:=r;omega)).mono ?_;rintro e M⟨rfl,q2⟩;have b:=a.trans (q2.mono a.size);have z:=q2.size;clear q2 a;go_wp2_with fail;refine(bh _ (s) (((i:Int)+(m:Int))) (i+m) (by omega) d hd).mono ?_;rintro e O⟨rfl,q3⟩;have g:=b.trans (q3.mono b.size);have A:=q3.size;clear q3 b;go_wp2_with fail;refine(bq _ d false G).mono ?_;rintro e R⟨rfl,o⟩;have k:=g.trans (o.mono g.size);have F:=o.size;clear o g;go_wp2_with fail;refine zr1 (.tuple #[.int .i64 0,.int .i64 0,.int .i64 2]) ?_;exact⟨rfl,k⟩
 ·have I:(((d.toNat:Nat):Int)==95)=false:=(ar d 95).trans (by simp[B])
  have Q:(((d.toNat:Nat):Int)==46)=true:=(ar d 46).trans (by simp[B]);clear B;go_in;go_wp2_with fail;refine(bJ _ (s) ((i:Int)) i rfl (by omega) p ((i:Int)) (by have q:=j;omega)).mono ?_;rintro e E⟨rfl,q1⟩;have a:=(aa w).trans (q1.mono (aa w).size);have l:=q1.size;clear q1;go_wp2_with fail;refine(cw _ (s) ((i:Int)) i rfl (by omega) p ((i:Int)+(m:Int)) (by have q:=r;omega)).mono ?_;rintro e M⟨rfl,q2⟩;have b:=a.trans (q2.mono a.size);have z:=q2.size;clear q2 a;go_wp2_with fail;refine(bh _ (s) (((i:Int)+(m:Int))) (i+m) (by omega) d hd).mono ?_;rintro e O⟨rfl,q3⟩;have g:=b.trans (q3.mono b.size);have A:=q3.size;clear q3 b;go_wp2_with fail;refine(bq _ d false G).mono ?_;rintro e R⟨rfl,o⟩;have k:=g.trans (o.mono g.size);have F:=o.size;clear o g;go_wp2_with fail;refine zr1 (.tuple #[.int .i64 0,.int .i64 0,.int .i64 2]) ?_;exact⟨rfl,k⟩
 ·have I:(((d.toNat:Nat):Int)==95)=false:=(ar d 95).trans (by simp[u])
  have Q:(((d.toNat:Nat):Int)==46)=false:=(ar d 46).trans (by simp[u]);have S:(((d.toNat:Nat):Int)==47)=true:=(ar d 47).trans (by simp[u]);clear u;go_in;go_wp2_with fail;refine(bJ _ (s) ((i:Int)) i rfl (by omega) p ((i:Int)) (by have q:=j;omega)).mono ?_;rintro e E⟨rfl,q1⟩;have a:=(aa w).trans (q1.mono (aa w).size);have l:=q1.size;clear q1;go_wp2_with fail;refine(cw _ (s) ((i:Int)) i rfl (by omega) p ((i:Int)+(m:Int)) (by have q:=r;omega)).mono ?_;rintro e M⟨rfl,q2⟩;have b:=a.trans (q2.mono a.size);have z:=q2.size;clear q2 a;go_wp2_with fail;refine(bh _ (s) (((i:Int)+(m:Int))) (i+m) (by omega) d hd).mono ?_;rintro e O⟨rfl,q3⟩;have g:=b.trans (q3.mono b.size);have A:=q3.size;clear q3 b;go_wp2_with fail;refine(bq _ d false G).mono ?_;rintro e R⟨rfl,o⟩;have k:=g.trans (o.mono g.size);have F:=o.size;clear o g;go_wp2_with fail;refine zr1 (.tuple #[.int .i64 0,.int .i64 0,.int .i64 2]) ?_;exact⟨rfl,k⟩
 have I:(((d.toNat:Nat):Int)==95)=false:=(ar d 95).trans (by simp[D]);have Q:(((d.toNat:Nat):Int)==46)=false:=(ar d 46).trans (by simp[B]);have S:(((d.toNat:Nat):Int)==47)=false:=(ar d 47).trans (by simp[u]);clear D B u;go_in;go_wp2_with fail;refine(bJ _ (s) ((i:Int)) i rfl (by omega) p ((i:Int)) (by have q:=j;omega)).mono ?_;rintro e E⟨rfl,q1⟩;have a:=(aa w).trans (q1.mono (aa w).size);have l:=q1.size;clear q1;go_wp2_with fail;refine(cw _ (s) ((i:Int)) i rfl (by omega) p ((i:Int)+(m:Int)) (by have q:=r;omega)).mono ?_;rintro e M⟨rfl,q2⟩;have b:=a.trans (q2.mono a.size);have z:=q2.size;clear q2 a;go_wp2_with fail;refine(bh _ (s) (((i:Int)+(m:Int))) (i+m) (by omega) d hd).mono ?_;rintro e O⟨rfl,q3⟩;have g:=b.trans (q3.mono b.size);have A:=q3.size;clear q3 b;go_wp2_with fail;refine(bq _ d false G).mono ?_;rintro e R⟨rfl,o⟩;have k:=g.trans (o.mono g.size);have F:=o.size;clear o g;go_wp2_with fail;refine zr1 (.tuple #[.int .i64 1,.int .i64 ((i:Int)+(m:Int)),.int .i64 0]) ?_;exact⟨rfl,k⟩
def nL(t:Tkn):List Value:=[.int .i64 (t.kind:Nat),ae t.text,.int .i64 (t.line:Nat),.int .i64 (t.col:Nat)]
def de(l:List Tkn):List Value:=l.flatMap nL
theorem mI(l:List Tkn)(t:Tkn):de (l++[t])=de l++nL t:=by simp[de]
theorem vS(l:List Tkn):(de l).length=l.length*4:=by
 induction l with
 |nil=>rfl
 |cons t l ih =>
  have:de (t::l)=nL t++de l:=rfl;rw[this,kc,ih,oP];show 4+_=_;omega
def TkS(w:World)(A:Option Addr)(n c:Nat)(l:List Tkn):Prop:=l.length=n/\((n=0/\A=none/\c=0)\/∃g,A=some ⟨g,0,none⟩/\n<=c/\∀i v,(de l)[i]?=some v->w.cell? ⟨g,i,none⟩=some v)
theorem TkS.belw{w b:World}{A:Option Addr}{n c:Nat}{l:List Tkn}(h:TkS w A n c l)(hb:Below w.heap.size w b):TkS b A n c l:=by
 refine⟨h.1,?_⟩;rcases h.2 with h|⟨g,e,d,h⟩
 ·exact .inl h
 exact .inr ⟨g,e,d,fun i v a=>(hb.cell (p:=⟨g,i,none⟩) (Ga w _ (h i v a))).trans (h i v a)⟩
theorem TkS.nil(w:World):TkS w none 0 0 []:=⟨rfl,.inl ⟨rfl,rfl,rfl⟩⟩
theorem TkS.of_own{w:World}{base:Nat}{e:TypeId}{v:Value}{l:List Tkn}(h:w.ownsRow base e 4 v l.length (de l)):∃A c,v=.slice A l.length c/\TkS w A l.length c l:=by
 rcases h.2 with⟨rfl,d⟩|⟨g,cap,b,rfl,hb,j,k,n,m,f⟩
 ·exact⟨none,0,by rw[d],rfl,.inl ⟨d,rfl,rfl⟩⟩
 refine⟨_,_,rfl,rfl,.inr ⟨g,rfl,k,fun i v a=>?_⟩⟩;rw[cell_of_row w g i b e (0,0) j];rw[<-f,Gk]at a;split at a
 ·simpa using a
 cases a
theorem eE{w c:World}{base:Nat}{e:TypeId}{size:Nat}{v:Value}{n:Nat}{d:List Value}(h:w.ownsRow base e size v n d)(hb:Below w.heap.size w c):c.ownsRow base e size v n d:=by
 refine⟨h.1,?_⟩;rcases h.2 with h|⟨g,cap,a,i,b,f,rest⟩
 ·exact .inl h
 exact .inr ⟨g,cap,a,i,b,(hb.block g (Gi f)).trans f,rest⟩
def pre(d:List Tkn):lg->lg
  | .ok l=>.ok (d++l)
  | .err x=>.err x
theorem uo(x:lg):pre [] x=x:=by cases x<;>rfl
theorem rz(d:List Tkn)(t:Tkn)(x:lg):pre d (lg.push t x)=pre (d++[t]) x:=by cases x<;>simp[pre,lg.push]
inductive bi (s:List UInt8) (x:Int) (l:List Tkn):Prop
  |big (h:65536<s.length) (hx:x=4) (hl:l=[])
  |ok (h:s.length<=65536) (ht:iV s=.ok l) (hx:x=0)
  |err (n:Nat) (h:s.length<=65536) (ht:iV s=.err n) (hx:x=(n:Int)) (hl:l=[])
theorem rA(s:List UInt8):∃x l,bi s x l:=by
 by_cases h:65536<s.length
 ·exact⟨4,[],.big h rfl rfl⟩
 cases ht:iV s with
 |ok l=>exact⟨0,l,.ok (by omega) ht rfl⟩
 |err n=>exact⟨n,[],.err n (by omega) ht rfl rfl⟩
theorem bi.uniq{s:List UInt8}{x y:Int}{l m:List Tkn}(h:bi s x l)(j:bi s y m):x=y/\l=m:=by
 rcases h with⟨a,b,c⟩|⟨a,b,c⟩|⟨n,a,b,c,d⟩<;>rcases j with⟨i,f,g⟩|⟨i,f,g⟩|⟨o,i,f,g,k⟩<;>first
  |omega
  |exact⟨by rw[b,f],by rw[c,g]⟩
  |(rw[b]at f;injection f with e;exact⟨by rw[c,g],e⟩)
  |(rw[b]at f;cases f;done)
  |(rw[b]at f;injection f with e;exact⟨by rw[c,g,e],by rw[d,k]⟩)
def sX(w:World)(ev:Value)(l:List Tkn)(e:Ending)(w':World):Prop:=∃A n c,e=.returned (.tuple #[.slice A n c,ev])/\TkS w' A n c l/\Below w.heap.size w w'
def CN(ev:Int->Value)(w:World)(s:List UInt8)(e:Ending)(w':World):Prop:=∃x l,bi s x l/\sX w (ev x) l e w'
theorem rB:(Tryz.prog.info? 123).map (fun i=>(i.zero,i.size,i.bytes))=some (some (.agg #[.int .i64 0,.string ⟨#[]⟩,.int .i64 0,.int .i64 0]),4,40):=by kernel_rfl
theorem oB{s:List UInt8}{j:Nat}(a:j<s.length)(h:atB s j≠10):eB (s.drop j)=1+eB (s.drop (j+1)):=by
 rw[ce a];unfold eB;rw[Gj,kZ (by simpa using h),oP];omega
theorem jA{s:List UInt8}{j:Nat}(h:s.length<=j\/atB s j=10):eB (s.drop j)=0:=by
 rcases Nat.lt_or_ge j s.length with a|a
 ·rw[ce a]
  unfold eB;rcases h with h|h
  ·omega
  rw[Gj,kl (by simp[h])];rfl
 rw[FY a];rfl
theorem oC{s:List UInt8}{i:Nat}(a:i<s.length)(h:atB s i=37)(line col:Nat):0<eB (s.drop i)/\tk (s.drop i) line col=tk (s.drop (i+eB (s.drop i))) line (col+eB (s.drop i)):=by
 have e:=ce a;rw[h]at e;refine⟨by rw[e];exact mB,?_⟩
 conv=>lhs;rw[e]
 rw[Dr,<-e,G8]
theorem mJ{s:List UInt8}{i:Nat}(a:i<s.length)(h:atB s i=10)(line col:Nat):tk (s.drop i) line col=tk (s.drop (i+1)) (line+1) 1:=by rw[ce a,h,BG]
theorem lI{s:List UInt8}{i:Nat}(a:i<s.length)(h:fj (atB s i)=true)(line col:Nat):tk (s.drop i) line col=tk (s.drop (i+1)) line (col+1):=by rw[ce a,yO h]
theorem oE{s:List UInt8}{i k n:Nat}(a:i<s.length)(h:bQ (s.drop i)=.ok k n)(line col:Nat):tk (s.drop i) line col=(tk (s.drop (i+n)) line (col+n)).push ⟨k,(s.drop i).take n,line,col⟩:=by
 have e:=ce a;rw[e]at h⊢;rw[Ds h,<-e,G8]
theorem oG{s:List UInt8}{i x:Nat}(a:i<s.length)(h:bQ (s.drop i)=.err x)(c:atB s i≠10)(b:fj (atB s i)=false)(d:atB s i≠37)(line col:Nat):tk (s.drop i) line col=.err x:=by
 rw[ce a]at h⊢;exact Dt h c b d line col
theorem sY(w:World)(s:List UInt8)(a:0<s.length)(c:s.length<4611686018427387904)(k n:Nat)(b:bQ s=.ok k n):Calls Tryz.prog 69 #[ae s] w (av w (.tuple #[.int .i64 (k:Nat),.int .i64 (n:Nat),.nilIface])):=un w s a c _ b
theorem rC(w:World)(s:List UInt8)(a:0<s.length)(c:s.length<4611686018427387904)(x:Nat)(b:bQ s=.err x):Calls Tryz.prog 69 #[ae s] w (av w (.tuple #[.int .i64 0,.int .i64 0,.iface 49 (.int .i64 (x:Nat))])):=un w s a c _ b
theorem vT(w:World)(s:List UInt8)(i:Nat)(c:i<s.length)(b:s.length<4611686018427387904)(k n:Nat)(a:bQ (s.drop i)=.ok k n):Calls Tryz.prog 80 #[ae s,.int .i64 (i:Nat)] w (av w (.tuple #[.int .i64 (k:Nat),.int .i64 ((i:Int)+(n:Nat)),.int .i64 0])):=zc w s _ i rfl c b _ a
theorem sZ(w:World)(s:List UInt8)(i:Nat)(c:i<s.length)(b:s.length<4611686018427387904)(x:Nat)(a:bQ (s.drop i)=.err x):Calls Tryz.prog 80 #[ae s,.int .i64 (i:Nat)] w (av w (.tuple #[.int .i64 0,.int .i64 0,.int .i64 (x:Nat)])):=zc w s _ i rfl c b _ a
theorem lJ{r:List UInt8}{x:Nat}(h:bQ r=.err x):0<x:=by
 unfold bQ at h;split at h
 ·injection h with h;omega
 split at h
 ·cases h
 split at h
 ·split at h
  ·injection h with h;omega
  cases h
 split at h
 ·injection h with h;omega
 split at h
 ·injection h with h;omega
 split at h
 ·injection h with h;omega
 cases h
theorem isBlk_3{c:UInt8}(h:fj c=true):c=32\/c=9\/c=13:=by
 unfold fj at h;simpa[or_assoc]using h
theorem BO(w:World)(s:List UInt8):Calls Tryz.prog 36 #[ae s] w (CN (fun x=>cd x) w s):=by
 have ao:=ah s;obtain⟨i0,B,I,M,L⟩:=Gb rB;rcases Nat.lt_or_ge 65536 s.length with T|P
 ·have N:((65536:Int)<(s.length:Int))=True:=by simp;omega
  clear B I M L;go_in;go_wp2_with fail;refine zr1 (.tuple #[.slice none 0 0,.iface 49 (.int .i64 4)]) ?_;exact⟨4,[],.big T rfl rfl,none,0,0,rfl,TkS.nil _,aa w⟩
 have N:((65536:Int)<(s.length:Int))=False:=by simp;omega
 have hs:s.length<4611686018427387904:=by omega
 have W:=Qh (And.intro B (And.intro I (And.intro M L)));clear B I M L;go_in;go_wp2_with fail;go_loopw [4,5,6,7] (fun ov lv sv iv wr=>∃(done:List Tkn) (i line st:Nat),lv=.int .i64 (line:Nat)/\sv=.int .i64 (st:Nat)/\iv=.int .i64 (i:Nat)/\i<=s.length/\st<=i/\line<=i+1/\done.length<=i/\Hid (iV s=pre done (tk (s.drop i) line (i-st+1)))/\wr.ownsRow w.heap.size 123 4 ov done.length (de done)/\Below w.heap.size w wr) (fun _ _ _ iv _=>s.length-(intOf iv).toNat)
 case atStart=>exact⟨[],0,1,0,rfl,rfl,rfl,Nat.zero_le _,Qr,by omega,Qr,Qh (by rw[uo];rfl),⟨rfl,.inl ⟨rfl,rfl⟩⟩,aa w⟩
 case round =>
  obtain⟨done,i,line,st,rfl,rfl,rfl,hi,a8,a4,a5,z,G,a⟩:=hrel;have E:=Qh G;clear G;rcases Nat.lt_or_ge i s.length with F|F
  ·have ac:((i:Int)<(s.length:Int))=True:=by simp;omega
   have a0:i<s.length:=F;obtain⟨c,D⟩:=Z9 (atB s i);have C:∀h,(⟨s.toArray⟩:ByteArray)[i]' h=c:=fun h=>by rw[<-D];exact(cO F).symm
   by_cases m:c=10
   ·have U:(((c.toNat:Nat):Int)==10)=true:=(ar c 10).trans (by simp[m])
    have b:=mJ F (by rw[D];exact m) line (i-st+1);have aF:c≠37:=by rw[m];decide
    go_wp2_with fail;go_roundw
    case rel=>exact⟨done,i+1,line+1,i+1,by go_num,by go_num,by go_num,by omega,by omega,by omega,by omega,Qh (by rw[z.out,b];congr 2;omega),E.out,a⟩
    case measure=>simp[intOf];omega
   have U:(((c.toNat:Nat):Int)==10)=false:=(ar c 10).trans (by simp[m]);by_cases l:fj c=true
   ·have b:=lI F (by rw[D];exact l) line (i-st+1)
    rcases isBlk_3 l with q|q|q
    ·have y:(((c.toNat:Nat):Int)==32)=true:=(ar c 32).trans (by simp[q])
     clear q;go_wp2_with fail;go_roundw
     case rel=>exact⟨done,i+1,line,st,rfl,rfl,by go_num,by omega,by omega,by omega,by omega,Qh (by rw[z.out,b];congr 2;omega),E.out,a⟩
     case measure=>simp[intOf];omega
    ·have y:(((c.toNat:Nat):Int)==32)=false:=(ar c 32).trans (by simp[q])
     have Z:(((c.toNat:Nat):Int)==9)=true:=(ar c 9).trans (by simp[q]);clear q;go_wp2_with fail;go_roundw
     case rel=>exact⟨done,i+1,line,st,rfl,rfl,by go_num,by omega,by omega,by omega,by omega,Qh (by rw[z.out,b];congr 2;omega),E.out,a⟩
     case measure=>simp[intOf];omega
    have y:(((c.toNat:Nat):Int)==32)=false:=(ar c 32).trans (by simp[q]);have Z:(((c.toNat:Nat):Int)==9)=false:=(ar c 9).trans (by simp[q]);have R:(((c.toNat:Nat):Int)==13)=true:=(ar c 13).trans (by simp[q]);clear q;go_wp2_with fail;go_roundw
    case rel=>exact⟨done,i+1,line,st,rfl,rfl,by go_num,by omega,by omega,by omega,by omega,Qh (by rw[z.out,b];congr 2;omega),E.out,a⟩
    case measure=>simp[intOf];omega
   have l:fj c=false:=by simpa using l
   have y:(((c.toNat:Nat):Int)==32)=false:=(ar c 32).trans (it.2 (by rintro rfl;exact absurd l (by decide)));have Z:(((c.toNat:Nat):Int)==9)=false:=(ar c 9).trans (it.2 (by rintro rfl;exact absurd l (by decide)));have R:(((c.toNat:Nat):Int)==13)=false:=(ar c 13).trans (it.2 (by rintro rfl;exact absurd l (by decide)));by_cases u:c=37
   ·have V:(((c.toNat:Nat):Int)==37)=true:=(ar c 37).trans (by simp[u])
    obtain⟨a1,b⟩:=oC F (by rw[D];exact u) line (i-st+1);go_wp2_with fail;clear U y Z R V C m l u D;go_loopw [7] (fun jv w2=>∃(j:Nat),jv=.int .i64 (j:Nat)/\i<=j/\j<=s.length/\Hid (j+eB (s.drop j)=i+eB (s.drop i))/\wr=w2) (fun jv _=>s.length-(intOf jv).toNat)
    case atStart=>exact⟨i,rfl,Qr,hi,Qh rfl,by first|rfl|trivial⟩
    case round =>
     obtain⟨j,rfl,a7,hj,o,ab⟩:=hrel;subst ab;rcases Nat.lt_or_ge j s.length with p|p
     ·have ba:j<s.length:=p
      have ad:((j:Int)<(s.length:Int))=True:=by simp;omega
      obtain⟨d,hd⟩:=Z9 (atB s j);have C:∀h,(⟨s.toArray⟩:ByteArray)[j]' h=d:=fun h=>by rw[<-hd];exact(cO p).symm
      by_cases f:d=10
      ·have al:(((d.toNat:Nat):Int)==10)=true:=(ar d 10).trans (by simp[f])
       have O:=jA (s:=s) (j:=j) (.inr (by rw[hd];exact f));have H:i+eB (s.drop i)=j:=by have:=o.out;omega
       clear hd f;go_wp2_with fail;go_roundw
       case rel=>exact⟨done,j,line,st,rfl,rfl,rfl,hj,by omega,by omega,by omega,Qh (by rw[z.out,b,H,show i-st+1+eB (s.drop i)=j-st+1 by have:=o.out;omega]),E.out,a⟩
       case measure=>simp[intOf];omega
      have al:(((d.toNat:Nat):Int)==10)=false:=(ar d 10).trans (by simp[f]);have Q:=oB p (by rw[hd];exact f);clear hd f;go_wp2_with fail;go_roundw
      case rel=>exact⟨j+1,by go_num,by omega,by omega,Qh (by have h9:=o.out;rw[Q]at h9;omega),by first|rfl|trivial⟩
      case measure=>simp[intOf];omega
     have ad:((j:Int)<(s.length:Int))=False:=by simp;omega
     have O:=jA (s:=s) (j:=j) (.inl p);have H:i+eB (s.drop i)=j:=by have:=o.out;omega
     go_wp2_with fail;go_roundw
     case rel=>exact⟨done,j,line,st,rfl,rfl,rfl,hj,by omega,by omega,by omega,Qh (by rw[z.out,b,H,show i-st+1+eB (s.drop i)=j-st+1 by have:=o.out;omega]),E.out,a⟩
     case measure=>simp[intOf];omega
   have V:(((c.toNat:Nat):Int)==37)=false:=(ar c 37).trans (by simp[u]);obtain⟨r,Y⟩:=Z9 (s.drop i);have a9:r.length=s.length-i:=by rw[<-Y,vu]
   have e2:(⟨s.toArray⟩:ByteArray).extract i s.length=⟨r.toArray⟩:=by
    rw[dc,Y,ms (by omega)]
   have B:(0:Int)<=(i:Int):=by omega
   have be:(i:Int)<=(s.length:Int):=by omega
   cases hf:bQ (s.drop i) with
   |err x =>
    have b:=oG F hf (by rw[D];exact m) (by rw[D];exact l) (by rw[D];exact u) line (i-st+1);have a6:=lJ hf;have bg:((x:Int)==0)=false:=by simp;omega
    go_wp2_with fail;refine(rC _ r (by omega) (by omega) x (Y ▸ hf)).mono ?_;rintro e X⟨rfl,t⟩;go_wp2_with fail;refine zr1 (.tuple #[.slice none 0 0,.iface 49 (.int .i64 (x:Nat))]) ?_;refine⟨(x:Int),[],.err x P (by rw[z.out,b];rfl) rfl rfl,none,0,0,by show _=Ending.returned (.tuple #[_,cd (x:Int)]);rw[show cd (x:Int)=_ from kl (by omega)],TkS.nil _,a.trans (t.mono a.size)⟩
   |ok k n =>
    have an:=eC hf;rw[vu]at an;have b:=oE F hf line (i-st+1);obtain⟨x,hx⟩:=Z9 ((s.drop i).take n);rw[hx]at b;have aZ:IntKind.i64.wrap ((i:Int)+(n:Int))=(i:Int)+(n:Int):=ty _ ⟨by omega,by omega⟩;have a3:((i:Int)+(n:Int)).toNat=i+n:=by omega
    have e3:(⟨s.toArray⟩:ByteArray).extract i (i+n)=⟨x.toArray⟩:=by
     rw[dc,<-hx,show i+n-i=n by omega]
    have bb:(0:Int)<=(i:Int)+(n:Int):=by omega
    have a2:(i:Int)+(n:Int)<=(s.length:Int):=by omega
    have bk:(i:Int)<=(i:Int)+(n:Int):=by omega
    have aT:IntKind.i64.wrap ((i:Int)-(st:Int))=(i:Int)-(st:Int):=ty _ ⟨by omega,by omega⟩;have aS:IntKind.i64.wrap ((i:Int)-(st:Int)+1)=(i:Int)-(st:Int)+1:=ty _ ⟨by omega,by omega⟩;go_wp2_with fail;refine(sY _ r (by omega) (by omega) k n (Y ▸ hf)).mono ?_;rintro e X⟨rfl,t⟩;have S:=Qh (eE E.out t);have g:=a.trans (t.mono a.size);clear t;go_wp2_with (at_builtin;refine Gc _ rfl _ _ _ rfl w.heap.size 123 i0 (.agg #[.int .i64 0,.string ⟨#[]⟩,.int .i64 0,.int .i64 0]) 4 40 Tryz.underlying82 W.out.1 W.out.2.1 W.out.2.2.1 W.out.2.2.2 rfl (by omega) _ done.length (de done) rfl (S.out.alloc _) ⟨X.heap.size,0,none⟩ 1 1 [_,_,_,_] rfl rfl (x9 (Ao X _)) (by simp[Value.oneCell']) (by omega) (by unfold maxLen;omega) (by omega) (by have:=g.size;simp;omega) (X.heap.size+1) (by simp) ?_;intro gx cap w9 J K bd aC);go_roundw
    case rel =>
     refine⟨done++[⟨k,x,line,(i-st+1)⟩],i+n,line,st,rfl,rfl,by go_num,by omega,by omega,by omega,by rw[kc,F8];omega,Qh ?_,?_,(g.alloc g.size _).grown K (by have:=g.size;simp;omega) (da S.out)⟩
     ·rw[z.out,b,rz];congr 2;omega
     rw[mI,kc,F8];have e:([.int .i64 (k:Nat),ae x,.int .i64 (line:Nat),.int .i64 ((i:Int)-(st:Int)+1)]:List Value)=nL ⟨k,x,line,(i-st+1)⟩:=by unfold nL;simp;try omega
     rw[<-e];exact J
    case measure=>simp[intOf];omega
  have ac:((i:Int)<(s.length:Int))=False:=by simp;omega
  obtain rfl:i=s.length:=by omega
  obtain⟨A,cc,hv,hS⟩:=TkS.of_own E.out;subst hv;go_wp2_with fail;refine zr1 (.tuple #[.slice A done.length cc,.nilIface]) ?_;exact⟨0,done,.ok P (by rw[z.out,List.drop_length,yN];simp[pre]) rfl,A,done.length,cc,rfl,hS,a⟩
theorem BP(w:World)(s:List UInt8):Calls Tryz.prog 43 #[ae s] w (CN (fun x=>.int .i64 x) w s):=by
 have ao:=ah s;obtain⟨i0,D,I,N,M⟩:=Gb rB;rcases Nat.lt_or_ge 65536 s.length with W|S
 ·have Q:((65536:Int)<(s.length:Int))=True:=by simp;omega
  clear D I N M;go_in;go_wp2_with fail;refine zr1 (.tuple #[.slice none 0 0,.int .i64 4]) ?_;exact⟨4,[],.big W rfl rfl,none,0,0,rfl,TkS.nil _,aa w⟩
 have Q:((65536:Int)<(s.length:Int))=False:=by simp;omega
 have hs:s.length<4611686018427387904:=by omega
 have Z:=Qh (And.intro D (And.intro I (And.intro N M)));clear D I N M;go_in;go_wp2_with fail;go_loopw [4,5,6,7] (fun ov lv sv iv wr=>∃(done:List Tkn) (i line col:Nat),lv=.int .i64 (line:Nat)/\sv=.int .i64 (col:Nat)/\iv=.int .i64 (i:Nat)/\i<=s.length/\col<=i+1/\line<=i+1/\done.length<=i/\Hid (iV s=pre done (tk (s.drop i) line col))/\wr.ownsRow w.heap.size 123 4 ov done.length (de done)/\Below w.heap.size w wr) (fun _ _ _ iv _=>s.length-(intOf iv).toNat)
 case atStart=>exact⟨[],0,1,1,rfl,rfl,rfl,Nat.zero_le _,by omega,by omega,Qr,Qh (by rw[uo];rfl),⟨rfl,.inl ⟨rfl,rfl⟩⟩,aa w⟩
 case round =>
  obtain⟨done,i,line,col,rfl,rfl,rfl,hi,a5,a6,a7,J,G,f⟩:=hrel;have O:=Qh G;clear G;rcases Nat.lt_or_ge i s.length with C|C
  ·have ac:((i:Int)<(s.length:Int))=True:=by simp;omega
   have aT:i<s.length:=C;obtain⟨c,F⟩:=Z9 (atB s i);have E:∀h,(⟨s.toArray⟩:ByteArray)[i]' h=c:=fun h=>by rw[<-F];exact(cO C).symm
   by_cases q:c=10
   ·have X:(((c.toNat:Nat):Int)==10)=true:=(ar c 10).trans (by simp[q])
    have g:=mJ C (by rw[F];exact q) line col;have t:iW c=true:=by rw[q];rfl
    clear q;go_wp2_with fail;refine(kI _ c true (by exact t)).mono ?_;rintro e U⟨rfl,b⟩;have o:=Qh (eE O.out b);have a:=f.trans (b.mono f.size);clear b;go_wp2_with fail;go_roundw
    case rel=>exact⟨done,i+1,line+1,1,by go_num,rfl,by go_num,by omega,by omega,by omega,by omega,Qh (by rw[J.out,g]),o.out,a⟩
    case measure=>simp[intOf];omega
   have X:(((c.toNat:Nat):Int)==10)=false:=(ar c 10).trans (by simp[q]);by_cases l:fj c=true
   ·have g:=lI C (by rw[F];exact l) line col
    have t:iW c=true:=by unfold fj at l;unfold iW;rcases isBlk_3 (by unfold fj;exact l) with e|e|e<;>rw[e]<;>rfl
    go_wp2_with fail;refine(kI _ c true (by exact t)).mono ?_;rintro e U⟨rfl,b⟩;have o:=Qh (eE O.out b);have a:=f.trans (b.mono f.size);clear b;go_wp2_with fail;go_roundw
    case rel=>exact⟨done,i+1,line,col+1,rfl,by go_num,by go_num,by omega,by omega,by omega,by omega,Qh (by rw[J.out,g]),o.out,a⟩
    case measure=>simp[intOf];omega
   have l:fj c=false:=by simpa using l
   have t:iW c=false:=by
    have a1:c≠32:=by rintro rfl;exact absurd l (by decide)
    have a2:c≠9:=by rintro rfl;exact absurd l (by decide)
    have a3:c≠13:=by rintro rfl;exact absurd l (by decide)
    unfold iW;rw[it.2 a1,it.2 a2,it.2 a3,it.2 q];rfl
   by_cases B:c=37
   ·have Y:(((c.toNat:Nat):Int)==37)=true:=(ar c 37).trans (by simp[B])
    obtain⟨aZ,g⟩:=oC C (by rw[F];exact B) line col;clear B F;go_wp2_with fail;refine(kI _ c false (by exact t)).mono ?_;rintro e U⟨rfl,b⟩;have o:=Qh (eE O.out b);have a:=f.trans (b.mono f.size);clear b;go_wp2_with fail;clear X Y E q l t;go_loopw [6,7] (fun kv jv P=>∃(j:Nat),kv=.int .i64 ((col+(j-i):Nat):Int)/\jv=.int .i64 (j:Nat)/\i<=j/\j<=s.length/\Hid (j+eB (s.drop j)=i+eB (s.drop i))/\U=P) (fun _ jv _=>s.length-(intOf jv).toNat)
    case atStart=>exact⟨i,by simp,rfl,Qr,hi,Qh rfl,by first|rfl|trivial⟩
    case round =>
     obtain⟨j,rfl,rfl,a9,hj,u,ab⟩:=hrel;subst ab;rcases Nat.lt_or_ge j s.length with y|y
     ·have bb:j<s.length:=y
      have ad:((j:Int)<(s.length:Int))=True:=by simp;omega
      obtain⟨d,hd⟩:=Z9 (atB s j);have E:∀h,(⟨s.toArray⟩:ByteArray)[j]' h=d:=fun h=>by rw[<-hd];exact(cO y).symm
      by_cases m:d=10
      ·have al:(((d.toNat:Nat):Int)==10)=true:=(ar d 10).trans (by simp[m])
       have R:=jA (s:=s) (j:=j) (.inr (by rw[hd];exact m));have H:i+eB (s.drop i)=j:=by have:=u.out;omega
       clear hd m;go_wp2_with fail;go_roundw
       case rel=>exact⟨done,j,line,col+(j-i),rfl,rfl,rfl,hj,by omega,by omega,by omega,Qh (by rw[J.out,g,H,show eB (s.drop i)=j-i by have:=u.out;omega]),o.out,a⟩
       case measure=>simp[intOf];omega
      have al:(((d.toNat:Nat):Int)==10)=false:=(ar d 10).trans (by simp[m]);have T:=oB y (by rw[hd];exact m);clear hd m;go_wp2_with fail;go_roundw
      case rel=>exact⟨j+1,by go_num,by go_num,by omega,by omega,Qh (by have h9:=u.out;rw[T]at h9;omega),by first|rfl|trivial⟩
      case measure=>simp[intOf];omega
     have ad:((j:Int)<(s.length:Int))=False:=by simp;omega
     have R:=jA (s:=s) (j:=j) (.inl y);have H:i+eB (s.drop i)=j:=by have:=u.out;omega
     go_wp2_with fail;go_roundw
     case rel=>exact⟨done,j,line,col+(j-i),rfl,rfl,rfl,hj,by omega,by omega,by omega,Qh (by rw[J.out,g,H,show eB (s.drop i)=j-i by have:=u.out;omega]),o.out,a⟩
     case measure=>simp[intOf];omega
   have Y:(((c.toNat:Nat):Int)==37)=false:=(ar c 37).trans (by simp[B]);obtain⟨r,hr⟩:=Z9 (s.drop i);have ba:r.length=s.length-i:=by rw[<-hr,vu]
   have e2:(⟨s.toArray⟩:ByteArray).extract i s.length=⟨r.toArray⟩:=by
    rw[dc,hr,ms (by omega)]
   have D:(0:Int)<=(i:Int):=by omega
   have bk:(i:Int)<=(s.length:Int):=by omega
   cases hf:bQ (s.drop i) with
   |err x =>
    have g:=oG C hf (by rw[F];exact q) (by rw[F];exact l) (by rw[F];exact B) line col;have a8:=lJ hf;have bl:((x:Int)==0)=false:=by simp;omega
    go_wp2_with fail;refine(kI _ c false (by exact t)).mono ?_;rintro e U⟨rfl,b⟩;have o:=Qh (eE O.out b);have a:=f.trans (b.mono f.size);clear b;go_wp2_with fail;refine(sZ _ s i C hs x hf).mono ?_;rintro e P⟨rfl,z⟩;go_wp2_with fail;refine zr1 (.tuple #[.slice none 0 0,.int .i64 (x:Nat)]) ?_;refine⟨(x:Int),[],.err x S (by rw[J.out,g];rfl) rfl rfl,none,0,0,rfl,TkS.nil _,a.trans (z.mono a.size)⟩
   |ok k n =>
    have an:=eC hf;rw[vu]at an;have g:=oE C hf line col;obtain⟨x,hx⟩:=Z9 ((s.drop i).take n);rw[hx]at g;have aS:IntKind.i64.wrap ((i:Int)+(n:Int))=(i:Int)+(n:Int):=ty _ ⟨by omega,by omega⟩;have a4:((i:Int)+(n:Int)).toNat=i+n:=by omega
    have e3:(⟨s.toArray⟩:ByteArray).extract i (i+n)=⟨x.toArray⟩:=by
     rw[dc,<-hx,show i+n-i=n by omega]
    have bd:(0:Int)<=(i:Int)+(n:Int):=by omega
    have a0:(i:Int)+(n:Int)<=(s.length:Int):=by omega
    have bn:(i:Int)<=(i:Int)+(n:Int):=by omega
    have be:IntKind.i64.wrap ((i:Int)+(n:Int)-(i:Int))=(n:Int):=by rw[show (i:Int)+(n:Int)-(i:Int)=(n:Int) by omega];exact ty _ ⟨by omega,by omega⟩
    have aC:IntKind.i64.wrap (n:Int)=(n:Int):=ty _ ⟨by omega,by omega⟩;go_wp2_with fail;refine(kI _ c false (by exact t)).mono ?_;rintro e U⟨rfl,b⟩;have o:=Qh (eE O.out b);have a:=f.trans (b.mono f.size);clear b;go_wp2_with fail;refine(vT _ s i C hs k n hf).mono ?_;rintro e P⟨rfl,z⟩;have V:=Qh (eE o.out z);have p:=a.trans (z.mono a.size);clear z;go_wp2_with (at_builtin;refine Gc _ rfl _ _ _ rfl w.heap.size 123 i0 (.agg #[.int .i64 0,.string ⟨#[]⟩,.int .i64 0,.int .i64 0]) 4 40 Tryz.underlying82 Z.out.1 Z.out.2.1 Z.out.2.2.1 Z.out.2.2.2 rfl (by omega) _ done.length (de done) rfl (V.out.alloc _) ⟨P.heap.size,0,none⟩ 1 1 [_,_,_,_] rfl rfl (x9 (Ao P _)) (by simp[Value.oneCell']) (by omega) (by unfold maxLen;omega) (by omega) (by have:=p.size;simp;omega) (P.heap.size+1) (by simp) ?_;intro gx cap w9 K L bg aF);go_roundw
    case rel =>
     refine⟨done++[⟨k,x,line,col⟩],i+n,line,col+n,rfl,by go_num,by go_num,by omega,by omega,by omega,by rw[kc,F8];omega,Qh ?_,?_,(p.alloc p.size _).grown L (by have:=p.size;simp;omega) (da V.out)⟩
     ·rw[J.out,g,rz]
     rw[mI,kc,F8];have e:([.int .i64 (k:Nat),ae x,.int .i64 (line:Nat),.int .i64 (col:Nat)]:List Value)=nL ⟨k,x,line,col⟩:=by unfold nL;simp;try omega
     rw[<-e];exact K
    case measure=>simp[intOf];omega
  have ac:((i:Int)<(s.length:Int))=False:=by simp;omega
  obtain rfl:i=s.length:=by omega
  obtain⟨A,cc,hv,hS⟩:=TkS.of_own O.out;subst hv;go_wp2_with fail;refine zr1 (.tuple #[.slice A done.length cc,.int .i64 0]) ?_;exact⟨0,done,.ok S (by rw[J.out,List.drop_length,yN];simp[pre]) rfl,A,done.length,cc,rfl,hS,f⟩
theorem ze{l:List Tkn}{i:Nat}(h:i<l.length):(de l)[i*4]?=some (.int .i64 (l[i].kind:Nat))/\(de l)[i*4+1]?=some (ae l[i].text)/\(de l)[i*4+2]?=some (.int .i64 (l[i].line:Nat))/\(de l)[i*4+3]?=some (.int .i64 (l[i].col:Nat)):=by
 induction l generalizing i with
 |nil=>simp at h
 |cons t l ih =>
  have e:de (t::l)=[.int .i64 (t.kind:Nat),ae t.text,.int .i64 (t.line:Nat),.int .i64 (t.col:Nat)]++de l:=rfl;rw[e]
  cases i with
  |zero=>simp
  |succ i =>
   have a:=ih (i:=i) (by simpa using h);have s:(i+1)*4=i*4+4:=by omega
   rw[s];simp only[List.getElem_cons_succ];refine⟨?_,?_,?_,?_⟩
   ·rw[xE (by simp)];exact a.1
   ·rw[xE (by simp)];exact a.2.1
   ·rw[xE (by simp)];exact a.2.2.1
   rw[xE (by simp)];exact a.2.2.2
theorem TkS.cells{w:World}{A:Option Addr}{n c:Nat}{l:List Tkn}(h:TkS w A n c l){i:Nat}(j:i<n):∃g t,A=some ⟨g,0,none⟩/\n<=c/\l[i]?=some t/\w.cell? ⟨g,i*4,none⟩=some (.int .i64 (t.kind:Nat))/\w.cell? ⟨g,i*4+1,none⟩=some (ae t.text)/\w.cell? ⟨g,i*4+2,none⟩=some (.int .i64 (t.line:Nat))/\w.cell? ⟨g,i*4+3,none⟩=some (.int .i64 (t.col:Nat)):=by
 have f:=h.1;rcases h.2 with⟨k,_⟩|⟨g,e,d,a⟩
 ·omega
 have b:=ze (l:=l) (i:=i) (by omega);exact⟨g,_,e,d,sx (by omega),a _ _ b.1,a _ _ b.2.1,a _ _ b.2.2.1,a _ _ b.2.2.2⟩
def bU(s:List UInt8):Bool:=decide (0<cG s)&&decide (cG s=s.length)&&decide (cG s<=24)
def iG:List (List UInt8)->List UInt8
  |[]=>[]
  |[x]=>x
  |x::y::r=>x++32::iG (y::r)
theorem rD(a:List (List UInt8)):Lib.join a [32]=iG a:=by
 induction a with
 |nil=>rfl
 |cons x r ih =>
  cases r with
  |nil=>rw[Lib.join_one];rfl
  |cons y r =>
   rw[iG,<-ih];rw[Lib.join_cons,Lib.join_cons];simp[Lib.joinTail]
theorem aL(a b:List UInt8):(⟨a.toArray⟩:ByteArray)++(⟨b.toArray⟩:ByteArray)=⟨(a++b).toArray⟩:=by
 apply ByteArray.ext;simp
theorem mK(w:World)(s:List UInt8)(g:s.length<4611686018427387904)(v:Bool)(c:bU s=v):Calls Tryz.prog 75 #[ae s] w (av w (.bool v)):=by
 have k:=ah s;obtain⟨n,b⟩:=Z9 (cG s);have l:n<=s.length:=by rw[<-b];exact kH s
 unfold bU at c;rw[b]at c;rcases (show n=0\/(0<n/\n≠s.length)\/(0<n/\n=s.length/\24<n)\/(0<n/\n=s.length/\n<=24) by omega) with i|⟨i,f⟩|⟨i,f,m⟩|⟨i,f,m⟩
 ·have g0:((0:Int)<(n:Int))=False:=oK (by omega)
  obtain rfl:v=false:=by rw[<-c];simp;omega
  have p:(n==0)=true:=by simp;omega
  clear c;go_in;go_wp2_with fail;refine(dY _ (s) g n b).mono ?_;rintro e h⟨rfl,q1⟩;have a:=(aa w).trans (q1.mono (aa w).size);have d:=q1.size;clear q1;go_wp2;go_ret;exact cg rfl a
 ·have g0:((0:Int)<(n:Int))=True:=xr (by omega)
  have j:((n:Int)==(s.length:Int))=false:=by simp;omega
  obtain rfl:v=false:=by rw[<-c];simp;omega
  clear c f;go_in;go_wp2_with fail;refine(dY _ (s) g n b).mono ?_;rintro e h⟨rfl,q1⟩;have a:=(aa w).trans (q1.mono (aa w).size);have d:=q1.size;clear q1;go_wp2;go_ret;exact cg rfl a
 ·have g0:((0:Int)<(n:Int))=True:=xr (by omega)
  have j:((n:Int)==(s.length:Int))=true:=by simp;omega
  have o:((n:Int)<=24)=False:=oK (by omega);obtain rfl:v=false:=by rw[<-c];simp;omega
  clear c f;go_in;go_wp2_with fail;refine(dY _ (s) g n b).mono ?_;rintro e h⟨rfl,q1⟩;have a:=(aa w).trans (q1.mono (aa w).size);have d:=q1.size;clear q1;go_wp2;go_ret;exact cg rfl a
 have g0:((0:Int)<(n:Int))=True:=xr (by omega);have j:((n:Int)==(s.length:Int))=true:=by simp;omega
 have o:((n:Int)<=24)=True:=xr (by omega);obtain rfl:v=true:=by rw[<-c,zO (show 0<n by omega),zO (show n=s.length by omega),zO (show n<=24 by omega)];rfl
 clear c f;go_in;go_wp2_with fail;refine(dY _ (s) g n b).mono ?_;rintro e h⟨rfl,q1⟩;have a:=(aa w).trans (q1.mono (aa w).size);have d:=q1.size;clear q1;go_wp2;go_ret;exact cg rfl a
theorem mL(w:World)(s:List UInt8)(h:s.length<4611686018427387904)(v:Bool)(a:bU s=v):Calls Tryz.prog 52 #[ae s] w (av w (.bool v)):=by
 have i:=ah s;obtain⟨n,b⟩:=Z9 (cG s);have k:n<=s.length:=by rw[<-b];exact kH s
 unfold bU at a;rw[b]at a;rcases (show s.length=0\/24<s.length\/(0<s.length/\s.length<=24/\n≠s.length)\/(0<s.length/\s.length<=24/\n=s.length) by omega) with d|d|⟨d,l,m⟩|⟨d,l,m⟩
 ·have g0:((0:Int)<(s.length:Int))=False:=oK (by omega)
  obtain rfl:v=false:=by rw[<-a];simp;omega
  clear a;go_in;go_wp2;go_ret;exact cg (by first|rfl|(simp;omega)) (aa w)
 ·have g0:((0:Int)<(s.length:Int))=True:=xr (by omega)
  have g:((s.length:Int)<=24)=False:=oK (by omega);obtain rfl:v=false:=by rw[<-a];simp;omega
  clear a;go_in;go_wp2;go_ret;exact cg (by first|rfl|(simp;omega)) (aa w)
 ·have g0:((0:Int)<(s.length:Int))=True:=xr (by omega)
  have g:((s.length:Int)<=24)=True:=xr (by omega);have o:((n:Int)==(s.length:Int))=false:=by simp;omega
  obtain rfl:v=false:=by rw[<-a];simp;omega
  clear a;go_in;go_wp2_with fail;refine(bJ _ (s) (0) 0 rfl (Nat.zero_le _) h (n:Nat) (by rw[Gl,b,Nat.zero_add])).mono ?_;rintro e j⟨rfl,q1⟩;have c:=(aa w).trans (q1.mono (aa w).size);have f:=q1.size;clear q1;go_wp2;go_ret;exact cg (by first|rfl|(simp;omega)) c
 have g0:((0:Int)<(s.length:Int))=True:=xr (by omega);have g:((s.length:Int)<=24)=True:=xr (by omega);have o:((n:Int)==(s.length:Int))=true:=by simp;omega
 obtain rfl:v=true:=by rw[<-a,zO (show 0<n by omega),zO (show n=s.length by omega),zO (show n<=24 by omega)];rfl
 clear a;go_in;go_wp2_with fail;refine(bJ _ (s) (0) 0 rfl (Nat.zero_le _) h (n:Nat) (by rw[Gl,b,Nat.zero_add])).mono ?_;rintro e j⟨rfl,q1⟩;have c:=(aa w).trans (q1.mono (aa w).size);have f:=q1.size;clear q1;go_wp2;go_ret;exact cg (by first|rfl|(simp;omega)) c
structure aB where
  name:List UInt8
  x:RD
  y:RD
structure aq where
  name:List UInt8
  pts:List aB
structure bj where
  name:List UInt8
  kind:Int
  a:Int
  point:Int
  b:Int
  on:Int
  to_:Int
structure bD where
  name:List UInt8
  body:Int
structure am where
  name:List UInt8
  bodies:List aq
  joints:List bj
  drivers:List bD
def bM{α:Type}(f:List α->α->Int):List α->List α->Int
  |_,[]=>0
  |prev,a::r=>if f prev a=0 then bM f (prev++[a]) r else f prev a
theorem dS{α:Type}{f:List α->α->Int}{l:List α}{i:Nat}{x:Int}(h:bM f (l.take i) (l.drop i)=x){a:α}(c:l[i]?=some a):
 (f (l.take i) a=0/\bM f (l.take (i+1)) (l.drop (i+1))=x)\/(f (l.take i) a≠0/\f (l.take i) a=x):=by
 obtain⟨d,j⟩:=ts.1 c;have hd:l.drop i=a::l.drop (i+1):=by rw[Gp d,j]
 have g:l.take (i+1)=l.take i++[a]:=by rw[FV,c];rfl
 rw[hd]at h;unfold bM at h;rw[g];split at h
 ·left;rename_i b;exact⟨b,h⟩
 right;rename_i b;exact⟨b,h⟩
theorem fo{α:Type}{f:List α->α->Int}{l:List α}{i:Nat}{x:Int}(h:bM f (l.take i) (l.drop i)=x)(a:l.length<=i):x=0:=by
 rw[FY a]at h;exact h.symm
theorem dt{α:Type}{f:List α->α->Int}{l:List α}{x:Int}(h:bM f [] l=x):bM f (l.take 0) (l.drop 0)=x:=h
def twN(l:List (List UInt8))(n:List UInt8):Bool:=l.any fun m=>m==n
theorem fp{α:Type}{f:α->List UInt8}{l:List α}{j:Nat}{a:α}{nm:List UInt8}(c:l[j]?=some a)(h:twN ((l.take j).map f) nm=false)(b:f a≠nm):twN ((l.take (j+1)).map f) nm=false:=by
 have d:l.take (j+1)=l.take j++[a]:=by rw[FV,c];rfl
 unfold twN at h⊢;rw[d,List.map_append,Hu,h];simpa using b
theorem eS{α:Type}{f:α->List UInt8}{l:List α}{j i:Nat}{a:α}{nm:List UInt8}(d:l[j]?=some a)(b:j<i)(c:f a=nm):twN ((l.take i).map f) nm=true:=by
 unfold twN;rw[Ha];refine⟨f a,?_,by simpa using c⟩;have g:(l.take i)[j]?=some a:=by rw[Gk,kZ b];exact d
 exact List.mem_map_of_mem (pk g)
def inI(i:Int)(n:Nat):Bool:=decide (0<=i)&&decide (i<(n:Int))
def bE(prev:List aB)(m:aB):Int :=
  if bU m.name=false then 5 else if twN (prev.map aB.name) m.name=true then 6 else if m.x.ok=false then 3 else if m.y.ok=false then 3 else 0
def aY(prev:List aq)(b:aq):Int :=
  if bU b.name=false then 5 else if twN (prev.map aq.name) b.name=true then 6 else if 8<b.pts.length then 4 else bM bE [] b.pts
def cY(L:am)(i:Int):List aB:=match L.bodies[i.toNat]? with|some b=>b.pts|none=>[]
def fC(l:List aB)(i j:Int):Bool:=match l[i.toNat]?,l[j.toNat]? with|some p,some q=>decide (p.x.q=q.x.q)&&decide (p.y.q=q.y.q)|_,_=>false
def bC(L:am)(j:bj):Int :=
  if j.kind≠0/\j.kind≠1 then 7 else if inI j.a L.bodies.length=false then 9 else if inI j.b L.bodies.length=false then 9 else if j.a=j.b then 13
  else if inI j.point (cY L j.a).length=false then 9 else if inI j.on (cY L j.b).length=false then 9
  else if j.kind=0 then (if j.to_=0 then 0 else 2) else if inI j.to_ (cY L j.b).length=false then 9 else if fC (cY L j.b) j.on j.to_=true then 8 else 0
def aW(L:am)(prev:List bj)(j:bj):Int :=
  if bU j.name=false then 5 else if twN (prev.map bj.name) j.name=true then 6 else bC L j
def aG(n:Nat)(prev:List bD)(d:bD):Int :=
  if bU d.name=false then 5 else if twN (prev.map bD.name) d.name=true then 6 else if inI d.body n=false then 9 else if d.body=0 then 7
  else if (prev.any fun p=>p.body==d.body)=true then 6 else 0
def bN(L:am):Int :=
  if bU L.name=false then 5 else if L.bodies.length=0 then 10 else if 8<L.bodies.length then 4 else if bM aY [] L.bodies≠0 then bM aY [] L.bodies
  else if 16<L.joints.length then 4 else if bM (aW L) [] L.joints≠0 then bM (aW L) [] L.joints
  else if 2<L.drivers.length then 4 else bM (aG L.bodies.length) [] L.drivers
theorem iu{z:Int}{k K:Nat}(h:z.natAbs<4294967296^k)(a:k<=K)(b:0<K):(Lib.itoa z).length<=10*K+1:=by
 have c:Lib.nDigits z.natAbs<=10*K:=gf a b h;rw[iR,kc,GQ];split<;>simp<;>omega
theorem oH(X Y:List UInt8):((⟨X.toArray⟩:ByteArray)++⟨#[47]⟩)++⟨Y.toArray⟩=⟨(X++47::Y).toArray⟩:=by
 rw[show (⟨#[47]⟩:ByteArray)=⟨[47].toArray⟩ from rfl,lG,lG,ys];rfl
theorem li{q:Rat}(h:q.den=1):bH q=Lib.itoa q.num:=kZ h
theorem lj{q:Rat}(h:q.den≠1):bH q=Lib.itoa q.num++47::Lib.itoa (q.den:Int):=kl h
theorem oI(w:World)(b A n c z k)(h:IZ w b A n c z k)(b' A' n' c' z' k')(d:IZ w b' A' n' c' z' k')(v:Int)(f:dD z z'=v)(a:k+k'<=999999999):Calls Tryz.prog 171 #[.agg #[.bool b,.slice A n c],.agg #[.bool b',.slice A' n' c']] w (av w (.int .i64 v)):=by
 subst f;exact tZ w b A n c z k h b' A' n' c' z' k' d a
theorem up{x y:Int}(h:x≠y):dD x y≠0:=by
 unfold dD;(repeat' split)<;>omega
theorem rE:dD 1 1=0:=by decide
theorem zf(w:World)(b A n c D m e q k)(h:QZ w b A n c D m e q k)(h0:0<k)(hk:k<=40000000)(v:Tab w)(hd:q.den=1):
 Calls Tryz.prog 141 #[.agg #[.bool b,.slice A n c,.slice D m e]] w (av w (ae (bH q))):=by
 rw[li hd];have Y:=Qh (show dD (q.den:Int) 1=0 by rw[hd];exact rE);clear hd;go_in;go_wp2_with fail;refine(jw _ b A n c D m e (q) (k) ?_ ?_ ?_).mono ?_;(exact(h.belw ((kz _ _).alloc Qr _)));(omega);(omega);rintro e B⟨C,E,G,c1,a,f,g,d,rfl,F,i,I⟩;have q1:=I.q1;replace h:=h.belw q1;have l:Blk B w.heap.size 65 #[.bool b,.slice A n c,.slice D m e]:=(aj _ _ _ (by simp)).below I (by simp);have J:=(aa w).trans (q1.mono (aa w).size);have Z:=I.l1;clear q1;go_wp2_with fail;have p2:=(((Kp.refl B).alloc (.cells #[.bool C,.slice E G c1] 194)).alloc (.cells #[.bool a,.slice f g d] 194));have H:=((J.alloc (by first|omega|(simp<;>omega)) (.cells #[.bool C,.slice E G c1] 194)).alloc (by first|omega|(simp<;>omega)) (.cells #[.bool a,.slice f g d] 194));have j:Blk ((B.alloc (.cells #[.bool C,.slice E G c1] 194)).alloc (.cells #[.bool a,.slice f g d] 194)) B.heap.size 194 #[.bool C,.slice E G c1]:=((aj _ _ _ (by simp)).alloc (.cells #[.bool a,.slice f g d] 194));have t:Blk ((B.alloc (.cells #[.bool C,.slice E G c1] 194)).alloc (.cells #[.bool a,.slice f g d] 194)) (B.heap.size+1) 194 #[.bool a,.slice f g d]:=(aj _ _ _ (by simp));replace l:=((l.alloc (.cells #[.bool C,.slice E G c1] 194)).alloc (.cells #[.bool a,.slice f g d] 194));have S:B.heap.size+2<=((B.alloc (.cells #[.bool C,.slice E G c1] 194)).alloc (.cells #[.bool a,.slice f g d] 194)).heap.size:=by simp
 generalize R:((B.alloc (.cells #[.bool C,.slice E G c1] 194)).alloc (.cells #[.bool a,.slice f g d] 194))=w2 at p2 H S j t l⊢;clear R;replace h:=h.keep p2;replace F:=F.keep p2;replace i:=i.keep p2;clear J;have O:=fd l.lt;obtain⟨o,p,s,u⟩:=fd j.lt;have P:=t.c2;have L:=kn t.lt
 go_region_held3 (fun U=>Sees w2.heap.size w2 U) (first|with_reducible exact Sees.of Qr (by assumption)|with_reducible exact Sees.of Qr (aa _).drew|exact Sees.of Qr (af (aa _) 1)|exact Sees.of Qr (af (by assumption) _))
  (first
   |(go_at_call 154;(with_reducible refine(tW _).mono ?_);rintro e V⟨X,A3,W,c3,rfl,N,x⟩;replace x:=ag (af (aa _) 1) x;have q3:Below w2.heap.size w2 V:=ag (aa w2) x;replace h:=h.belw x;replace F:=F.belw x;replace i:=i.belw x)
   |(go_at_call 152;(with_reducible refine(ul _ a f g d (((q).den:Int)) ((k)) ?_ X A3 W c3 (1) (1) ?_ 0 Y.out ?_).mono ?_);(exact i.iz);(exact N.iz);(omega);rintro e T⟨rfl,y⟩;have M:Below w2.heap.size w2 T:=ag q3 y;replace h:=h.belw y;replace F:=F.belw y;replace i:=i.belw y;replace N:=N.belw y))
 have r:=H.trans (M.mono H.size);clear O o p s u P L;replace l:=l.b M;replace j:=j.b M;replace t:=t.b M;have ab:=M.size;have K:=j.c2;obtain⟨o,p,s,u⟩:=fd j.lt;go_wp2_with fail;refine(mH _ C E G c1 ((q).num) ((k)) ?_ (Lib.itoa q.num) ?_ ?_ ?_).mono ?_;(exact F.iz);(omega);(first|exact v.belw r|exact(v.belw r).belw (af (aa _) 1)|exact(v.belw r).belw (aa _).drew|exact(v.belw r).belw (by assumption)|fail);(exact rfl);rintro e w5⟨rfl,z⟩;clear K o p s u;replace h:=h.belw z;replace F:=F.belw z;replace i:=i.belw z;replace N:=N.belw z;replace l:=l.b z;replace j:=j.b z;replace t:=t.b z;have Q:=r.trans (z.mono r.size);have ac:=z.size;clear z r;go_wp2;go_ret;exact⟨rfl,Q⟩
theorem zg(w:World)(b A n c D m e q k)(h:QZ w b A n c D m e q k)(h0:0<k)(hk:k<=40000000)(a:Tab w)(hd:q.den≠1):
 Calls Tryz.prog 141 #[.agg #[.bool b,.slice A n c,.slice D m e]] w (av w (ae (bH q))):=by
 rw[lj hd];obtain⟨u,hu⟩:=Z9 (dD (q.den:Int) 1);have an:u≠0:=by rw[<-hu];exact up (by omega)
 have e0:((u:Int)==0)=false:=by simp;exact an
 have HC:=Qh hu;obtain⟨X,hX⟩:=Z9 (Lib.itoa q.num);obtain⟨Y,hY⟩:=Z9 (Lib.itoa (q.den:Int));have hs:=h.sz h0;have aF:(⟨X.toArray⟩:ByteArray).size<=1000000000:=by show X.length<=_;rw[<-hX];have:=iu hs.1 hk (by omega);omega
 have ao:(⟨Y.toArray⟩:ByteArray).size<=1000000000:=by show Y.length<=_;rw[<-hY];have:=iu (z:=(q.den:Int)) (by simpa using hs.2) hk (by omega);omega
 obtain⟨N,hN⟩:=Z9 ((⟨X.toArray⟩:ByteArray).size);obtain⟨M,hM⟩:=Z9 ((⟨Y.toArray⟩:ByteArray).size);rw[hN]at aF;rw[hM]at ao;have a4:(9223372036854775807<N+1)=False:=by simp;omega
 have a2:(9223372036854775807<=N)=False:=by simp;omega
 have a3:(9223372036854775807<N+1+M)=False:=by simp;omega
 rw[hX,hY];have HX:=Qh hX;have HY:=Qh hY;clear hd hu an hX hY hs;go_in;go_wp2_with fail;refine(jw _ b A n c D m e (q) (k) ?_ ?_ ?_).mono ?_;(exact(h.belw ((kz _ _).alloc Qr _)));(omega);(omega);rintro e U⟨V,T,W,c1,f,g,i,j,rfl,R,d,ac⟩;have q1:=ac.q1;replace h:=h.belw q1;have p:Blk U w.heap.size 65 #[.bool b,.slice A n c,.slice D m e]:=(aj _ _ _ (by simp)).below ac (by simp);have ad:=(aa w).trans (q1.mono (aa w).size);have a0:=ac.l1;clear q1;go_wp2_with fail;have p2:=(((Kp.refl U).alloc (.cells #[.bool V,.slice T W c1] 194)).alloc (.cells #[.bool f,.slice g i j] 194));have ab:=((ad.alloc (by first|omega|(simp<;>omega)) (.cells #[.bool V,.slice T W c1] 194)).alloc (by first|omega|(simp<;>omega)) (.cells #[.bool f,.slice g i j] 194));have r:Blk ((U.alloc (.cells #[.bool V,.slice T W c1] 194)).alloc (.cells #[.bool f,.slice g i j] 194)) U.heap.size 194 #[.bool V,.slice T W c1]:=((aj _ _ _ (by simp)).alloc (.cells #[.bool f,.slice g i j] 194));have o:Blk ((U.alloc (.cells #[.bool V,.slice T W c1] 194)).alloc (.cells #[.bool f,.slice g i j] 194)) (U.heap.size+1) 194 #[.bool f,.slice g i j]:=(aj _ _ _ (by simp));replace p:=((p.alloc (.cells #[.bool V,.slice T W c1] 194)).alloc (.cells #[.bool f,.slice g i j] 194));have aT:U.heap.size+2<=((U.alloc (.cells #[.bool V,.slice T W c1] 194)).alloc (.cells #[.bool f,.slice g i j] 194)).heap.size:=by simp
 generalize aS:((U.alloc (.cells #[.bool V,.slice T W c1] 194)).alloc (.cells #[.bool f,.slice g i j] 194))=w2 at p2 ab aT r o p⊢;clear aS;replace h:=h.keep p2;replace R:=R.keep p2;replace d:=d.keep p2;clear ad;obtain⟨E,O,C,J⟩:=fd p.lt;obtain⟨s,G,K,L⟩:=fd r.lt;obtain⟨I,t⟩:=o.c2;obtain⟨v,F,y,B⟩:=kn o.lt
 go_region_held3 (fun w'=>Sees w2.heap.size w2 w') (first|with_reducible exact Sees.of Qr (by assumption)|with_reducible exact Sees.of Qr (aa _).drew|exact Sees.of Qr (af (aa _) 1)|exact Sees.of Qr (af (by assumption) _))
  (first
   |(go_at_call 154;(with_reducible refine(tW _).mono ?_);rintro e w3⟨b3,A3,n3,c3,rfl,h3,P⟩;replace P:=ag (af (aa _) 1) P;have q3:Below w2.heap.size w2 w3:=ag (aa w2) P;replace h:=h.belw P;replace R:=R.belw P;replace d:=d.belw P)
   |(go_at_call 152;(with_reducible refine(ul _ f g i j (((q).den:Int)) ((k)) ?_ b3 A3 n3 c3 (1) (1) ?_ u HC.out ?_).mono ?_);(exact d.iz);(exact h3.iz);(omega);rintro e Z⟨rfl,S⟩;have q4:Below w2.heap.size w2 Z:=ag q3 S;replace h:=h.belw S;replace R:=R.belw S;replace d:=d.belw S;replace h3:=h3.belw S))
 have l:=ab.trans (q4.mono ab.size);clear E O C J s G K L I t v F y B;replace p:=p.b q4;replace r:=r.b q4;replace o:=o.b q4;have a1:=q4.size;obtain⟨E,O,C,J⟩:=fd p.lt;have al:=r.c2;obtain⟨s,G,K,L⟩:=fd r.lt;obtain⟨I,t⟩:=o.c2;obtain⟨v,F,y,B⟩:=kn o.lt;go_wp2_with fail
 go_region_held3 (fun w'=>Sees Z.heap.size Z w') (first|with_reducible exact Sees.of Qr (by assumption)|with_reducible exact Sees.of Qr (aa _).drew|exact Sees.of Qr (af (aa _) 1)|exact Sees.of Qr (af (by assumption) _))
  (first
   |(go_at_call 182;(with_reducible refine(mH _ V T W c1 ((q).num) ((k)) ?_ X ?_ ?_ ?_).mono ?_);(exact R.iz);(omega);(first|exact a.belw l|exact(a.belw l).belw (af (aa _) 1)|exact(a.belw l).belw (aa _).drew|exact(a.belw l).belw (by assumption)|fail);(exact HX.out);rintro e w5⟨rfl,H⟩;replace H:=ag (af (aa _) 1) H;have q5:Below Z.heap.size Z w5:=ag (aa Z) H;replace h:=h.belw H;replace R:=R.belw H;replace d:=d.belw H;replace h3:=h3.belw H)
   |(go_at_call 182;(with_reducible refine(mH _ f g i j (((q).den:Int)) ((k)) ?_ Y ?_ ?_ ?_).mono ?_);(exact d.iz);(omega);(first|exact a.belw l|exact(a.belw l).belw (af (aa _) 1)|exact(a.belw l).belw (aa _).drew|exact(a.belw l).belw (by assumption)|fail);(exact HY.out);rintro e w6⟨rfl,Q⟩;have q6:Below Z.heap.size Z w6:=ag q5 Q;replace h:=h.belw Q;replace R:=R.belw Q;replace d:=d.belw Q;replace h3:=h3.belw Q))
 have aC:=l.trans (q6.mono l.size);clear E O C J al s G K L I t v F y B;replace p:=p.b q6;replace r:=r.b q6;replace o:=o.b q6;have aZ:=q6.size;go_wp2;go_ret;refine⟨?_,aC⟩;exact mo (fun x=>Ending.returned (.string x)) (oH X Y)
theorem DE(w:World)(b A n c D m e q k)(h:QZ w b A n c D m e q k)(f:0<k)(d:k<=40000000)(a:Tab w)(T:List UInt8)(g:bH q=T):Calls Tryz.prog 141 #[.agg #[.bool b,.slice A n c,.slice D m e]] w (av w (ae T)):=by
 subst g;by_cases hd:q.den=1
 ·exact zf w b A n c D m e q k h f d a hd
 exact zg w b A n c D m e q k h f d a hd
theorem zh(w:World)(b A n c D m e q k)(h:QZ w b A n c D m e q k)(h0:0<k)(hk:k<=40000000)(hd:q.den=1):
 Calls Tryz.prog 146 #[.agg #[.bool b,.slice A n c,.slice D m e]] w (av w (ae (bH q))):=by
 rw[li hd];have X:=Qh (show dD (q.den:Int) 1=0 by rw[hd];exact rE);clear hd;go_in;go_wp2_with fail;refine(eP _ b A n c D m e (q) (k) ?_ ?_ ?_).mono ?_;(exact(h.belw ((kz _ _).alloc Qr _)));(omega);(omega);rintro e y⟨z,B,E,c1,a,f,g,d,rfl,C,i,H⟩;have q1:=H.q1;replace h:=h.belw q1;have l:Blk y w.heap.size 65 #[.bool b,.slice A n c,.slice D m e]:=(aj _ _ _ (by simp)).below H (by simp);have I:=(aa w).trans (q1.mono (aa w).size);have Y:=H.l1;clear q1;go_wp2_with fail;have p2:=(((Kp.refl y).alloc (.cells #[.bool z,.slice B E c1] 194)).alloc (.cells #[.bool a,.slice f g d] 194));have G:=((I.alloc (by first|omega|(simp<;>omega)) (.cells #[.bool z,.slice B E c1] 194)).alloc (by first|omega|(simp<;>omega)) (.cells #[.bool a,.slice f g d] 194));have j:Blk ((y.alloc (.cells #[.bool z,.slice B E c1] 194)).alloc (.cells #[.bool a,.slice f g d] 194)) y.heap.size 194 #[.bool z,.slice B E c1]:=((aj _ _ _ (by simp)).alloc (.cells #[.bool a,.slice f g d] 194));have s:Blk ((y.alloc (.cells #[.bool z,.slice B E c1] 194)).alloc (.cells #[.bool a,.slice f g d] 194)) (y.heap.size+1) 194 #[.bool a,.slice f g d]:=(aj _ _ _ (by simp));replace l:=((l.alloc (.cells #[.bool z,.slice B E c1] 194)).alloc (.cells #[.bool a,.slice f g d] 194));have R:y.heap.size+2<=((y.alloc (.cells #[.bool z,.slice B E c1] 194)).alloc (.cells #[.bool a,.slice f g d] 194)).heap.size:=by simp
 generalize Q:((y.alloc (.cells #[.bool z,.slice B E c1] 194)).alloc (.cells #[.bool a,.slice f g d] 194))=w2 at p2 G R j s l⊢;clear Q;replace h:=h.keep p2;replace C:=C.keep p2;replace i:=i.keep p2;clear I;have N:=fd l.lt;obtain⟨o,p,r,t⟩:=fd j.lt;have O:=s.c2;have K:=kn s.lt
 go_region_held3 (fun T=>Sees w2.heap.size w2 T) (first|with_reducible exact Sees.of Qr (by assumption)|with_reducible exact Sees.of Qr (aa _).drew|exact Sees.of Qr (af (aa _) 1)|exact Sees.of Qr (af (by assumption) _))
  (first
   |(go_at_call 173;(with_reducible refine(qP _).mono ?_);rintro e U⟨W,A3,V,c3,rfl,M,u⟩;replace u:=ag (af (aa _) 1) u;have q3:Below w2.heap.size w2 U:=ag (aa w2) u;replace h:=h.belw u;replace C:=C.belw u;replace i:=i.belw u)
   |(go_at_call 171;(with_reducible refine(oI _ a f g d (((q).den:Int)) ((k)) ?_ W A3 V c3 (1) (1) ?_ 0 X.out ?_).mono ?_);(exact i.iz);(exact M.iz);(omega);rintro e S⟨rfl,v⟩;have L:Below w2.heap.size w2 S:=ag q3 v;replace h:=h.belw v;replace C:=C.belw v;replace i:=i.belw v;replace M:=M.belw v))
 have F:=G.trans (L.mono G.size);clear N o p r t O K;replace l:=l.b L;replace j:=j.b L;replace s:=s.b L;have Z:=L.size;have J:=j.c2;obtain⟨o,p,r,t⟩:=fd j.lt;go_wp2_with fail;refine(kf _ z B E c1 ((q).num) ((k)) ?_ (Lib.itoa q.num) ?_ ?_).mono ?_;(exact C.iz);(omega);(exact rfl);rintro e w5⟨rfl,x⟩;clear J o p r t;replace h:=h.belw x;replace C:=C.belw x;replace i:=i.belw x;replace M:=M.belw x;replace l:=l.b x;replace j:=j.b x;replace s:=s.b x;have P:=F.trans (x.mono F.size);have ab:=x.size;clear x F;go_wp2;go_ret;exact⟨rfl,P⟩
theorem zi(w:World)(b A n c D m e q k)(h:QZ w b A n c D m e q k)(h0:0<k)(hk:k<=40000000)(hd:q.den≠1):
 Calls Tryz.prog 146 #[.agg #[.bool b,.slice A n c,.slice D m e]] w (av w (ae (bH q))):=by
 rw[lj hd];obtain⟨u,hu⟩:=Z9 (dD (q.den:Int) 1);have an:u≠0:=by rw[<-hu];exact up (by omega)
 have e0:((u:Int)==0)=false:=by simp;exact an
 have HC:=Qh hu;obtain⟨X,hX⟩:=Z9 (Lib.itoa q.num);obtain⟨Y,hY⟩:=Z9 (Lib.itoa (q.den:Int));have hs:=h.sz h0;have aF:(⟨X.toArray⟩:ByteArray).size<=1000000000:=by show X.length<=_;rw[<-hX];have:=iu hs.1 hk (by omega);omega
 have ao:(⟨Y.toArray⟩:ByteArray).size<=1000000000:=by show Y.length<=_;rw[<-hY];have:=iu (z:=(q.den:Int)) (by simpa using hs.2) hk (by omega);omega
 obtain⟨N,hN⟩:=Z9 ((⟨X.toArray⟩:ByteArray).size);obtain⟨M,hM⟩:=Z9 ((⟨Y.toArray⟩:ByteArray).size);rw[hN]at aF;rw[hM]at ao;have a4:(9223372036854775807<N+1)=False:=by simp;omega
 have a2:(9223372036854775807<=N)=False:=by simp;omega
 have a3:(9223372036854775807<N+1+M)=False:=by simp;omega
 rw[hX,hY];have HX:=Qh hX;have HY:=Qh hY;clear hd hu an hX hY hs;go_in;go_wp2_with fail;refine(eP _ b A n c D m e (q) (k) ?_ ?_ ?_).mono ?_;(exact(h.belw ((kz _ _).alloc Qr _)));(omega);(omega);rintro e S⟨T,R,U,c1,d,f,g,i,rfl,P,a,ab⟩;have q1:=ab.q1;replace h:=h.belw q1;have l:Blk S w.heap.size 65 #[.bool b,.slice A n c,.slice D m e]:=(aj _ _ _ (by simp)).below ab (by simp);have ac:=(aa w).trans (q1.mono (aa w).size);have a0:=ab.l1;clear q1;go_wp2_with fail;have p2:=(((Kp.refl S).alloc (.cells #[.bool T,.slice R U c1] 194)).alloc (.cells #[.bool d,.slice f g i] 194));have W:=((ac.alloc (by first|omega|(simp<;>omega)) (.cells #[.bool T,.slice R U c1] 194)).alloc (by first|omega|(simp<;>omega)) (.cells #[.bool d,.slice f g i] 194));have o:Blk ((S.alloc (.cells #[.bool T,.slice R U c1] 194)).alloc (.cells #[.bool d,.slice f g i] 194)) S.heap.size 194 #[.bool T,.slice R U c1]:=((aj _ _ _ (by simp)).alloc (.cells #[.bool d,.slice f g i] 194));have j:Blk ((S.alloc (.cells #[.bool T,.slice R U c1] 194)).alloc (.cells #[.bool d,.slice f g i] 194)) (S.heap.size+1) 194 #[.bool d,.slice f g i]:=(aj _ _ _ (by simp));replace l:=((l.alloc (.cells #[.bool T,.slice R U c1] 194)).alloc (.cells #[.bool d,.slice f g i] 194));have aT:S.heap.size+2<=((S.alloc (.cells #[.bool T,.slice R U c1] 194)).alloc (.cells #[.bool d,.slice f g i] 194)).heap.size:=by simp
 generalize aS:((S.alloc (.cells #[.bool T,.slice R U c1] 194)).alloc (.cells #[.bool d,.slice f g i] 194))=w2 at p2 W aT o j l⊢;clear aS;replace h:=h.keep p2;replace P:=P.keep p2;replace a:=a.keep p2;clear ac;obtain⟨B,K,y,H⟩:=fd l.lt;obtain⟨p,E,I,J⟩:=fd o.lt;obtain⟨G,r⟩:=j.c2;obtain⟨s,C,t,v⟩:=kn j.lt
 go_region_held3 (fun w'=>Sees w2.heap.size w2 w') (first|with_reducible exact Sees.of Qr (by assumption)|with_reducible exact Sees.of Qr (aa _).drew|exact Sees.of Qr (af (aa _) 1)|exact Sees.of Qr (af (by assumption) _))
  (first
   |(go_at_call 173;(with_reducible refine(qP _).mono ?_);rintro e w3⟨b3,A3,n3,c3,rfl,Z,L⟩;replace L:=ag (af (aa _) 1) L;have q3:Below w2.heap.size w2 w3:=ag (aa w2) L;replace h:=h.belw L;replace P:=P.belw L;replace a:=a.belw L)
   |(go_at_call 171;(with_reducible refine(oI _ d f g i (((q).den:Int)) ((k)) ?_ b3 A3 n3 c3 (1) (1) ?_ u HC.out ?_).mono ?_);(exact a.iz);(exact Z.iz);(omega);rintro e V⟨rfl,Q⟩;have q4:Below w2.heap.size w2 V:=ag q3 Q;replace h:=h.belw Q;replace P:=P.belw Q;replace a:=a.belw Q;replace Z:=Z.belw Q))
 have ad:=W.trans (q4.mono W.size);clear B K y H p E I J G r s C t v;replace l:=l.b q4;replace o:=o.b q4;replace j:=j.b q4;have a1:=q4.size;obtain⟨B,K,y,H⟩:=fd l.lt;have al:=o.c2;obtain⟨p,E,I,J⟩:=fd o.lt;obtain⟨G,r⟩:=j.c2;obtain⟨s,C,t,v⟩:=kn j.lt;go_wp2_with fail
 go_region_held3 (fun w'=>Sees V.heap.size V w') (first|with_reducible exact Sees.of Qr (by assumption)|with_reducible exact Sees.of Qr (aa _).drew|exact Sees.of Qr (af (aa _) 1)|exact Sees.of Qr (af (by assumption) _))
  (first
   |(go_at_call 185;(with_reducible refine(kf _ T R U c1 ((q).num) ((k)) ?_ X ?_ ?_).mono ?_);(exact P.iz);(omega);(exact HX.out);rintro e w5⟨rfl,F⟩;replace F:=ag (af (aa _) 1) F;have q5:Below V.heap.size V w5:=ag (aa V) F;replace h:=h.belw F;replace P:=P.belw F;replace a:=a.belw F;replace Z:=Z.belw F)
   |(go_at_call 185;(with_reducible refine(kf _ d f g i (((q).den:Int)) ((k)) ?_ Y ?_ ?_).mono ?_);(exact a.iz);(omega);(exact HY.out);rintro e w6⟨rfl,O⟩;have q6:Below V.heap.size V w6:=ag q5 O;replace h:=h.belw O;replace P:=P.belw O;replace a:=a.belw O;replace Z:=Z.belw O))
 have aC:=ad.trans (q6.mono ad.size);clear B K y H al p E I J G r s C t v;replace l:=l.b q6;replace o:=o.b q6;replace j:=j.b q6;have aZ:=q6.size;go_wp2;go_ret;refine⟨?_,aC⟩;exact mo (fun x=>Ending.returned (.string x)) (oH X Y)
theorem DF(w:World)(b A n c D m e q k)(h:QZ w b A n c D m e q k)(d:0<k)(a:k<=40000000)(T:List UInt8)(f:bH q=T):Calls Tryz.prog 146 #[.agg #[.bool b,.slice A n c,.slice D m e]] w (av w (ae T)):=by
 subst f;by_cases hd:q.den=1
 ·exact zh w b A n c D m e q k h d a hd
 exact zi w b A n c D m e q k h d a hd
def bm(m:aB):List UInt8:=32::(m.name++32::(bH m.x.q++32::(bH m.y.q++[59])))
def gZ(b:aq):List UInt8:=[98,111,100,121,32]++b.name++[32,123]++b.pts.flatMap bm++[32,125]
theorem eG{q:Rat}{k:Nat}(b:Sz q k)(a:k<=500):(bH q).length<=10100:=by
 have d:=iu (z:=q.num) (k:=k) (K:=500) b.1 a (by decide);have c:=iu (z:=(q.den:Int)) (k:=k) (K:=500) (by simpa using b.2) a (by decide);by_cases h:q.den=1
 ·rw[li h];omega
 rw[lj h,kc,oP];omega
def jB(m:aB):Prop:=m.name.length<=1000/\Sz m.x.q 500/\Sz m.y.q 500
theorem pF{m:aB}(h:jB m):(bm m).length<=22000:=by
 have b:=eG h.2.1 Qr;have a:=eG h.2.2 Qr;have c:=h.1;unfold bm;simp only[oP,kc,Gm];omega
theorem jC:∀ {l:List aB},(∀m∈l,jB m)->(l.flatMap bm).length<=22000*l.length
 |[],_=>by simp
 |m::l,h=>by
  have b:=pF (h m (by simp));have c:=jC (l:=l) (fun x a=>h x (by simp[a]));simp only[G0,kc,oP];omega
theorem dy{α:Type}(f:α->List UInt8){l:List α}{i:Nat}{a:α}(h:l[i]?=some a):(l.take (i+1)).flatMap f=(l.take i).flatMap f++f a:=by
 rw[FV,h];simp
theorem cP{α:Type}(f:α->List UInt8):∀(l:List α) (i:Nat),((l.take i).flatMap f).length<=(l.flatMap f).length
 |[],i=>by simp
 |a::l,0=>by simp
 |a::l,i+1=>by
  have:=cP f l i;simp only[Hv,G0,kc];omega
abbrev NmL(s:List UInt8):Prop:=s.length<4611686018427387904
def j5(w:World)(g o:Nat)(r:RD)(k:Nat):Prop:=∃b A n c D m e,w.cell? ⟨g,o,none⟩=some (.bool b)/\w.cell? ⟨g,o+1,none⟩=some (.slice A n c)/\w.cell? ⟨g,o+2,none⟩=some (.slice D m e)/\QD w b A n c D m e r k
def hH(k:Nat)(w:World)(g o:Nat)(m:aB):Prop:=w.cell? ⟨g,o,none⟩=some (ae m.name)/\j5 w g (o+1) m.x k/\j5 w g (o+4) m.y k/\NmL m.name
def SlS{α:Type}(P:World->Nat->Nat->α->Prop)(s:Nat)(w:World)(A:Option Addr)(n c:Nat)(l:List α):Prop :=
  l.length=n/\n<=c/\(0<n->∃g o,A=some ⟨g,o,none⟩/\g<w.heap.size/\∀i a,l[i]?=some a->P w g (o+i*s) a)
def fD(k:Nat)(w:World)(g o:Nat)(b:aq):Prop:=∃A n c,w.cell? ⟨g,o,none⟩=some (ae b.name)/\w.cell? ⟨g,o+1,none⟩=some (.slice A n c)/\SlS (hH k) 7 w A n c b.pts/\NmL b.name
def pG(w:World)(g o:Nat)(j:bj):Prop:=w.cell? ⟨g,o,none⟩=some (ae j.name)/\w.cell? ⟨g,o+1,none⟩=some (.int .i64 j.kind)/\w.cell? ⟨g,o+2,none⟩=some (.int .i64 j.a)/\w.cell? ⟨g,o+3,none⟩=some (.int .i64 j.point)/\w.cell? ⟨g,o+4,none⟩=some (.int .i64 j.b)/\w.cell? ⟨g,o+5,none⟩=some (.int .i64 j.on)/\w.cell? ⟨g,o+6,none⟩=some (.int .i64 j.to_)/\NmL j.name
def pH(w:World)(g o:Nat)(d:bD):Prop:=w.cell? ⟨g,o,none⟩=some (ae d.name)/\w.cell? ⟨g,o+1,none⟩=some (.int .i64 d.body)/\NmL d.name
structure LkS (k:Nat) (w:World) (A:Option Addr) (n c:Nat) (B:Option Addr) (p d:Nat) (C:Option Addr) (q e:Nat) (L:am):Prop where
  name:NmL L.name
  bodies:SlS (fD k) 2 w A n c L.bodies
  joints:SlS pG 7 w B p d L.joints
  drivers:SlS pH 2 w C q e L.drivers
theorem aw{w a:World}{g o:Nat}{v:Value}(h:w.cell? ⟨g,o,none⟩=some v)(hb:Below w.heap.size w a):a.cell? ⟨g,o,none⟩=some v:=(hb.cell (p:=⟨g,o,none⟩) (Ga w _ h)).trans h
theorem j5.belw{w a:World}{g o:Nat}{r:RD}{k:Nat}(h:j5 w g o r k)(hb:Below w.heap.size w a):j5 a g o r k:=by
 obtain⟨b,A,n,c,D,m,e,i,d,j,f⟩:=h;exact⟨b,A,n,c,D,m,e,aw i hb,aw d hb,aw j hb,f.belw hb⟩
theorem hH.belw{w a:World}{g o:Nat}{m:aB}{k:Nat}(h:hH k w g o m)(hb:Below w.heap.size w a):hH k a g o m:=⟨aw h.1 hb,h.2.1.belw hb,h.2.2.1.belw hb,h.2.2.2⟩
theorem SlS.belw{α:Type}{P:World->Nat->Nat->α->Prop}{s:Nat}{w b:World}{A:Option Addr}{n c:Nat}{l:List α}(m:∀g o a,P w g o a->P b g o a)(h:SlS P s w A n c l)(hb:Below w.heap.size w b):SlS P s b A n c l:=by
 refine⟨h.1,h.2.1,fun j=>?_⟩;obtain⟨g,o,e,d,f⟩:=h.2.2 j;exact⟨g,o,e,Nat.lt_of_lt_of_le d hb.size,fun i a k=>m _ _ _ (f i a k)⟩
theorem fD.belw{w a:World}{g o:Nat}{b:aq}{k:Nat}(h:fD k w g o b)(hb:Below w.heap.size w a):fD k a g o b:=by
 obtain⟨A,n,c,i,d,j,f⟩:=h;exact⟨A,n,c,aw i hb,aw d hb,j.belw (fun _ _ _ h=>h.belw hb) hb,f⟩
theorem pG.belw{w a:World}{g o:Nat}{j:bj}(h:pG w g o j)(hb:Below w.heap.size w a):pG a g o j :=
 ⟨aw h.1 hb,aw h.2.1 hb,aw h.2.2.1 hb,aw h.2.2.2.1 hb,aw h.2.2.2.2.1 hb,aw h.2.2.2.2.2.1 hb,aw h.2.2.2.2.2.2.1 hb,h.2.2.2.2.2.2.2⟩
theorem pH.belw{w a:World}{g o:Nat}{d:bD}(h:pH w g o d)(hb:Below w.heap.size w a):pH a g o d:=⟨aw h.1 hb,aw h.2.1 hb,h.2.2⟩
theorem LkS.belw{k:Nat}{w a:World}{A B C:Option Addr}{n c p d q e:Nat}{L:am}(h:LkS k w A n c B p d C q e L)(hb:Below w.heap.size w a):LkS k a A n c B p d C q e L :=
 ⟨h.name,h.bodies.belw (fun _ _ _ h=>h.belw hb) hb,h.joints.belw (fun _ _ _ h=>h.belw hb) hb,h.drivers.belw (fun _ _ _ h=>h.belw hb) hb⟩
theorem SlS.bd{k:Nat}{w a:World}{A:Option Addr}{n c:Nat}{l:List aq}(h:SlS (fD k) 2 w A n c l)(hb:Below w.heap.size w a):SlS (fD k) 2 a A n c l:=h.belw (fun _ _ _ h=>h.belw hb) hb
theorem SlS.mk_{k:Nat}{w a:World}{A:Option Addr}{n c:Nat}{l:List aB}(h:SlS (hH k) 7 w A n c l)(hb:Below w.heap.size w a):SlS (hH k) 7 a A n c l:=h.belw (fun _ _ _ h=>h.belw hb) hb
theorem SlS.jt{w a:World}{A:Option Addr}{n c:Nat}{l:List bj}(h:SlS pG 7 w A n c l)(hb:Below w.heap.size w a):SlS pG 7 a A n c l:=h.belw (fun _ _ _ h=>h.belw hb) hb
theorem SlS.dr{w a:World}{A:Option Addr}{n c:Nat}{l:List bD}(h:SlS pH 2 w A n c l)(hb:Below w.heap.size w a):SlS pH 2 a A n c l:=h.belw (fun _ _ _ h=>h.belw hb) hb
theorem SlS.at_{α:Type}{P:World->Nat->Nat->α->Prop}{s:Nat}{w:World}{A:Option Addr}{n c:Nat}{l:List α}(h:SlS P s w A n c l){i:Nat}(j:i<n):∃g o a,A=some ⟨g,o,none⟩/\g<w.heap.size/\n<=c/\l[i]?=some a/\P w g (o+i*s) a:=by
 obtain⟨g,o,e,f,d⟩:=h.2.2 (by omega);have b:i<l.length:=by rw[h.1];exact j
 exact⟨g,o,l[i],e,f,h.2.1,sx b,d i _ (sx b)⟩
theorem SlS.rowAt{α:Type}{P:World->Nat->Nat->α->Prop}{s:Nat}{w:World}{g o n c:Nat}{l:List α}(h:SlS P s w (some ⟨g,o,none⟩) n c l){j:Nat}(f:j<n):∃a,l[j]?=some a/\P w g (o+j*s) a:=by
 obtain⟨g',i,a,e,_,_,d,b⟩:=h.at_ f;injection e with e;injection e with e1 e2 _;subst e1 e2;exact⟨a,d,b⟩
theorem zj(b:Nat)(w:World)(d:w.cell? ⟨b,0,none⟩=some (.pointer (some ⟨b,0,none⟩))):
 Calls Tryz.prog 58 #[.pointer (some ⟨b,0,none⟩)] w fun e c=>e=.returned (.tuple #[])/\c=w:=by
 obtain⟨j,a,_⟩:=Hg.1 (show (Tryz.prog.info? 70).map TypeInfo.size=some 2 by kernel_rfl);go_in;go_wp2;rw[Lib.run_neq_ptr_same w _ Tryz.underlying68 a];go_wp2;go_end0;exact⟨rfl,rfl⟩
theorem vU(b:Nat)(w:World)(h:w.cell? ⟨b,0,none⟩=some (.pointer none))(a:w.shape? b=some (70,2))(g:w.frozen? ⟨b,0,none⟩=false):
 Calls Tryz.prog 58 #[.pointer (some ⟨b,0,none⟩)] w fun e f=>e=.returned (.tuple #[])/\f=w.setCell ⟨b,0,none⟩ (.pointer (some ⟨b,0,none⟩)):=by
 obtain⟨j,d,c⟩:=Hg.1 (show (Tryz.prog.info? 70).map TypeInfo.size=some 2 by kernel_rfl);go_in;go_wp2;rw[Lib.run_to_unsafe w ⟨b,0,none⟩ Tryz.underlying68 Tryz.underlying152 d (by rw[c];decide) a (Nat.zero_lt_succ 1)];simp only[Result.andThen];rw[Ip];go_wp2;rw[run_callFunc_extern Tryz.func99 (by kernel_rfl) (by kernel_rfl) (by kernel_rfl) (e:=Extern.AbiNoEscape.same) (by kernel_rfl)];rw[Lib.run_noEscape];simp only[Result.andThen];rw[Ip];go_wp2;rw[Lib.run_from_unsafe w ⟨b,0,none⟩ Tryz.underlying152 Tryz.underlying68 d a (by kernel_rfl)];simp only[Result.andThen];rw[Ip];go_wp2;go_end0;exact⟨rfl,rfl⟩
def Oth(b:Nat)(w w':World):Prop:=∀g T cs,g≠b->T≠5->Blk w g T cs->Blk w' g T cs
theorem Oth.refl(b:Nat)(w:World):Oth b w w:=fun _ _ _ _ _ h=>h
theorem Oth.set{b:Nat}{w a:World}(h:Oth b w a)(i:Nat)(u:Value):Oth b w (a.setCell ⟨b,i,none⟩ u):=fun g T cs c d hb=>(h g T cs c d hb).far c u
theorem vV(B b:Nat)(bs:List Value)(w:World)(h:Lib.IsBuilder 70 5 B b bs w):
 Calls Tryz.prog 58 #[.pointer (some ⟨b,0,none⟩)] w fun e a=>e=.returned (.tuple #[])/\(Lib.BuilderAt 70 5 B b (.pointer (some ⟨b,0,none⟩)) bs a/\Below B w a/\Oth b w a):=by
 rcases h with h|h
 ·refine(vU b w h.cell0 h.shape h.frozen0).mono ?_
  rintro e a⟨rfl,rfl⟩;exact⟨rfl,h.used _,(kz B w).setCell (p:=⟨b,0,none⟩) h.1 _,(Oth.refl b w).set 0 _⟩
 refine(zj b w h.cell0).mono ?_;rintro e a⟨rfl,rfl⟩;exact⟨rfl,h,kz B _,Oth.refl b _⟩
theorem vW(B b:Nat)(bs:List Value)(s:ByteArray)(w:World)(h:Lib.IsBuilder 70 5 B b bs w)(J:bs.length+s.size<=140737488355328)(O:B<=w.heap.size):
 Calls Tryz.prog 27 #[.pointer (some ⟨b,0,none⟩),.string s] w fun e t=>e=.returned (.tuple #[.int .i64 s.size,.nilIface])/\(Lib.BuilderAt 70 5 B b (.pointer (some ⟨b,0,none⟩)) (bs++Lib.strCells s) t/\Below B w t/\Oth b w t):=by
 obtain⟨N,P,x,A,C⟩:=Gb (show (Tryz.prog.info? 5).map (fun i=>(i.zero,i.size,i.bytes))=some (some (.int .u8 0),1,1) by kernel_rfl);go_in;go_wp2_with (go_at_call 58;refine(vV B b bs _ h).mono ?_);rintro e o⟨rfl,M,n,E⟩;obtain⟨hB,v,j,d,u⟩:=M;have c0:o.cell? ⟨b,0,none⟩=some (.pointer (some ⟨b,0,none⟩)):=by rw[Hn j];rfl
 have c1:o.cell? ⟨b,1,none⟩=some v:=by rw[Hn j];rfl
 go_wp2_with (at_builtin;refine Lib.wpList_append_own_string _ rfl _ _ 47 9 rfl B 5 N Tryz.underlying47 Tryz.underlying9 P x A C _ _ _ rfl d s rfl ?c3 ?c4 ?c5 ?_)
 case c3=>unfold maxLen;omega
 case c4=>omega
 case c5=>have:=n.size;omega
 intro K q f a _
 have r:b<o.heap.size:=by
  rcases Nat.lt_or_ge b o.heap.size with z|z
  ·exact z
  simp[zP z]at j
 have l:q.heap[b]?=some (.cells #[.pointer (some ⟨b,0,none⟩),v] 70 (0,0)):=by
  rw[a.block b r (fun e=>u e.symm)];exact j
 have R:q.cell? ⟨b,0,none⟩=some (.pointer (some ⟨b,0,none⟩)):=by rw[Hn l];rfl
 have Q:q.cell? ⟨b,1,none⟩=some v:=by rw[Hn l];rfl
 have f1:q.frozen? ⟨b,1,none⟩=false:=Lib.frozen_of_heap l 1
 obtain⟨H,G,cap,rfl⟩:∃H G cap,K=.slice H G cap:=by
  rcases f.2 with⟨m,_⟩|⟨g,cap,D,m,_⟩
  ·exact⟨_,_,_,m⟩
  exact⟨_,_,_,m⟩
 go_wp2;go_ret2;refine⟨rfl,?_,?_,Oth.set (fun g T cs L I hb=>?_) 1 _⟩
 ·exact Lib.BuilderAt.put (T:=70) (e:=5) hB l (bs':=bs++Lib.strCells s) (by simpa[Lib.strCells_length]using f) (by decide)
 ·exact(n.grown a (by have:=n.size;omega) (fun k y=>(d.lt k y).1)).setCell (p:=⟨b,1,none⟩) hB _
 have F:=E g T cs L I hb;refine(a.block g F.lt (fun c=>?_)).trans F;rcases d.2 with⟨m,_⟩|⟨g',cap,D,m,_,y,_⟩
 ·rw[m]at c;cases c
 rw[m]at c;injection c with c;subst c;have:=F.symm.trans y;simp only[Option.some.injEq,Obj.cells.injEq]at this;exact I this.2.1
theorem kK(w:World)(b:Bool)(A:Option Addr)(n c:Nat)(D:Option Addr)(m e:Nat)(r:RD)(k:Nat)(h:QD w b A n c D m e r k)(i:0<k)(j:k<=40000000)(a:Tab w)(T:List UInt8)(g:bH r.q=T):
 Calls Tryz.prog 101 #[.agg #[.bool b,.slice A n c,.slice D m e]] w (av w (ae T)):=by
 have H:=Qh h;have l:=Qh g;clear h g;go_in;go_wp2_with fail;have d:Below w.heap.size w (w.alloc (.cells #[.bool b,.slice A n c,.slice D m e] 65)):=(kz _ _).alloc Qr _;refine(DE _ b A n c D m e r.q k (H.out.belw d).qz i j (a.belw d) T l.out).mono ?_;rintro p o⟨rfl,f⟩;have q1:=d.trans (f.mono d.size);go_wp2;go_ret;exact⟨rfl,q1⟩
theorem kL(w:World)(b:Bool)(A:Option Addr)(n c:Nat)(D:Option Addr)(m e:Nat)(r:RD)(k:Nat)(h:QD w b A n c D m e r k)(g:0<k)(i:k<=40000000)(T:List UInt8)(f:bH r.q=T):
 Calls Tryz.prog 106 #[.agg #[.bool b,.slice A n c,.slice D m e]] w (av w (ae T)):=by
 have H:=Qh h;have j:=Qh f;clear h f;go_in;go_wp2_with fail;have a:Below w.heap.size w (w.alloc (.cells #[.bool b,.slice A n c,.slice D m e] 65)):=(kz _ _).alloc Qr _;refine(DF _ b A n c D m e r.q k (H.out.belw a).qz g i T j.out).mono ?_;rintro o l⟨rfl,d⟩;have q1:=a.trans (d.mono a.size);go_wp2;go_ret;exact⟨rfl,q1⟩
def Bu(B b:Nat)(w:World)(l:List UInt8):Prop:=Lib.IsBuilder 70 5 B b (Lib.byteCells l) w/\B<=w.heap.size
theorem BuilderAt.belw{T e:TypeId}{B b:Nat}{p:Value}{bs:List Value}{w j:World}(h:Lib.BuilderAt T e B b p bs w)(hb:Below w.heap.size w j):Lib.BuilderAt T e B b p bs j:=by
 have c:=h.lt;obtain⟨hB,v,m,a,d⟩:=h;refine⟨hB,v,(hb.block b c).trans m,⟨a.1,?_⟩,d⟩;rcases a.2 with f|⟨g,cap,i,f,l,k,n⟩
 ·exact Iu f
 refine Or.inr ⟨g,cap,i,f,l,(hb.block g ?_).trans k,n⟩;exact Gi k
theorem Bu.belw{B b:Nat}{w a:World}{l:List UInt8}(h:Bu B b w l)(hb:Below w.heap.size w a):Bu B b a l :=
 ⟨h.1.imp (fun x=>BuilderAt.belw x hb) (fun x=>BuilderAt.belw x hb),Nat.le_trans h.2 hb.size⟩
theorem Bu.lt{B b:Nat}{w:World}{l:List UInt8}(h:Bu B b w l):b<w.heap.size:=h.1.elim (fun x=>x.lt) (fun x=>x.lt)
theorem Bu.new{w:World}:Bu w.heap.size w.heap.size (w.alloc (.cells #[.pointer none,.slice none 0 0] 70)) [] :=
 ⟨Lib.fresh_isBuilder _ _ w,by simp⟩
theorem nM(a:List UInt8)(b:List UInt8):Lib.byteCells a++Lib.strCells ⟨b.toArray⟩=Lib.byteCells (a++b):=by
 simp[Lib.strCells,Lib.byteCells]
theorem dF(B b:Nat)(w:World)(l s:List UInt8)(h:Bu B b w l)(a:l.length+s.length<=140737488355328):
 Calls Tryz.prog 27 #[.pointer (some ⟨b,0,none⟩),ae s] w fun e c=>e=.returned (.tuple #[.int .i64 (s.length:Nat),.nilIface])/\Bu B b c (l++s)/\Below B w c/\Oth b w c:=by
 have g:(⟨s.toArray⟩:ByteArray).size=s.length:=ah s;refine(vW B b (Lib.byteCells l) ⟨s.toArray⟩ w h.1 (by rw[g];simpa[Lib.byteCells]using a) h.2).mono ?_;rintro e c⟨rfl,f,d,i⟩;rw[nM]at f;exact⟨by rw[g],⟨Or.inr f,Nat.le_trans h.2 d.size⟩,d,i⟩
theorem zk(B b:Nat)(w:World)(l:List UInt8)(h:Bu B b w l):
 Calls Tryz.prog 31 #[.pointer (some ⟨b,0,none⟩)] w fun e a=>e=.returned (.int .i64 (l.length:Nat))/\a=w:=by
 refine(Tryz.Builder_Len B b _ w h.1).mono ?_;rintro e a⟨rfl,rfl⟩;exact⟨by simp[Lib.byteCells],rfl⟩
theorem tb(B b:Nat)(w:World)(l:List UInt8)(h:Bu B b w l):
 Calls Tryz.prog 32 #[.pointer (some ⟨b,0,none⟩)] w fun e a=>e=.returned (ae l)/\Below B w a:=Tryz.Builder_String_any B b l w h.1 h.2
theorem Blk.c7{w:World}{g t:Nat}{b c d f a i j:Value}(h:Blk w g t #[b,c,d,f,a,i,j]):w.cell? ⟨g,0,none⟩=some b/\w.cell? ⟨g,1,none⟩=some c/\w.cell? ⟨g,2,none⟩=some d/\w.cell? ⟨g,3,none⟩=some f/\w.cell? ⟨g,4,none⟩=some a/\w.cell? ⟨g,5,none⟩=some i/\w.cell? ⟨g,6,none⟩=some j:=⟨h.cell 0,h.cell 1,h.cell 2,h.cell 3,h.cell 4,h.cell 5,h.cell 6⟩
abbrev S7(g:Nat)(a0 a1 a2 a3 a4 a5 a6:Value)(w:World):Prop:=w.cell? ⟨g,0,none⟩=some a0/\w.cell? ⟨g,1,none⟩=some a1/\w.cell? ⟨g,2,none⟩=some a2/\w.cell? ⟨g,3,none⟩=some a3/\w.cell? ⟨g,4,none⟩=some a4/\w.cell? ⟨g,5,none⟩=some a5/\w.cell? ⟨g,6,none⟩=some a6
theorem hH.short{w:World}{g o:Nat}{m:aB}(h:hH 500 w g o m)(f:m.name.length<=1000):jB m:=by
 obtain⟨_,⟨b,A,n,c,D,p,e,_,_,_,i⟩,⟨l,s,j,k,q,d,r,_,_,_,a⟩,_⟩:=h;exact⟨f,i.sz (by decide),a.sz (by decide)⟩
theorem SlS.short{w:World}{A:Option Addr}{n c:Nat}{l:List aB}(h:SlS (hH 500) 7 w A n c l)(d:∀m∈l,m.name.length<=1000):∀m∈l,jB m:=by
 intro m j;obtain⟨i,k,e⟩:=Hb j;obtain⟨g,o,a,_,_,_,b,f⟩:=h.at_ (i:=i) (by rw[<-h.1];exact k);rw[sx k]at b;injection b with b;rw[<-b,e]at f;exact f.short (d m j)
theorem DG(w:World)(A:Option Addr)(n c:Nat)(b:aq)(h:SlS (hH 500) 7 w A n c b.pts)(D:Tab w)(hn:n<=1000)(c0:b.name.length<=1000)(ad:∀m∈b.pts,m.name.length<=1000)(T:List UInt8)(hT:gZ b=T):
 Calls Tryz.prog 60 #[.agg #[ae b.name,.slice A n c]] w (av w (ae T)):=by
 have HM:=Qh (h.short ad);have HF:=Qh (jC (h.short ad));have F:=h.1;have ea:=h.2.1;have c5:=ah b.name;obtain⟨h1,B⟩:∃t,[98,111,100,121,32]++b.name=t:=⟨_,rfl⟩;have co:=aL ([98,111,100,121,32]) (b.name);rw[B]at co;have cr:h1.length=5+b.name.length:=by rw[<-B,kc];try simp
 have eb:(9223372036854775807<5+b.name.length)=False:=oK (by omega);have dO:=ah h1;obtain⟨L,l⟩:∃t,h1++[32,123]=t:=⟨_,rfl⟩;have cm:=aL (h1) ([32,123]);rw[l]at cm;have ba:L.length=h1.length+2:=by rw[<-l,kc];try simp
 have eh:(9223372036854775807<h1.length+2)=False:=oK (by omega);have cu:=ah L;have HE:Hid (b.pts.flatMap bm++[32,125]++[]=b.pts.flatMap bm++[32,125]/\T=L++b.pts.flatMap bm++[32,125]):=Qh ⟨by simp,by rw[<-hT,<-l,<-B];rfl⟩;have ab:=Qh F;have aT:=Qh D;have H:=Qh h;have dr:L.length<=1007:=by omega
 clear h ad hT D F B l cr ba;go_in;go_wp2_with fail
 have B0:Bu (w.heap.size+1) (w.heap.size+1) ((w.alloc (.cells #[ae b.name,.slice A n c] 62)).alloc (.cells #[.pointer none,.slice none 0 0] 70)) []:=by
  have:=Bu.new (w:=w.alloc (.cells #[ae b.name,.slice A n c] 62));simpa using this
 have q0:Below w.heap.size w ((w.alloc (.cells #[ae b.name,.slice A n c] 62)).alloc (.cells #[.pointer none,.slice none 0 0] 70)):=((aa w).alloc Qr _).alloc (by simp) _;have xa:Blk ((w.alloc (.cells #[ae b.name,.slice A n c] 62)).alloc (.cells #[.pointer none,.slice none 0 0] 70)) w.heap.size 62 #[ae b.name,.slice A n c]:=(aj _ _ _ rfl).alloc _;refine(dF _ _ _ _ L B0 (by simp;omega)).mono ?_;rintro e' w1⟨rfl,B1,q1,_⟩;have q1:Below w.heap.size w w1:=q0.trans (q1.mono (by omega));have xa:=xa.below ‹Below (w.heap.size+1) _ w1› (by omega);rw[Gf]at B1;clear B0 q0;obtain⟨a6,b9⟩:=xa.c2;have Q:=Qh B1;clear B1;go_wp2_with fail;clear a6 b9;go_loopw [14] (fun iv wr=>∃i:Nat,iv=.int .i64 (i:Nat)/\i<=n/\Hid (Bu (w.heap.size+1) (w.heap.size+1) wr (L++(b.pts.take i).flatMap bm))/\Below w.heap.size w wr) (fun iv _=>n-(intOf iv).toNat)
 case atStart=>exact⟨0,rfl,Nat.zero_le _,by simpa using Q,q1⟩
 case round =>
  clear Q q1;obtain⟨i,rfl,hi,Q,hb⟩:=hrel;rename World=>wa;have aS:=cP bm b.pts i;rcases Nat.lt_or_ge i n with bl|cn
  ·have bk:((i:Int)<(n:Int))=True:=by simp;omega
   obtain⟨g,o,m,j,hg,_,U,hM⟩:=(H.out.mk_ hb).at_ bl;subst j;have cs:=HM.out m (pk U);obtain⟨cp,aF,a2⟩:=cs;have r:=dy bm U;have aC:=cP bm b.pts (i+1);obtain⟨d0,⟨Z,E,J,c1,G,O,j,d1,d2,d3,a1⟩,⟨C,S,K,c2,M,P,N,d4,d5,d6,al⟩,di⟩:=hM;have d2:wa.cell? ⟨g,o+i*7+2,none⟩=some (.slice E J c1):=d2;have d3:wa.cell? ⟨g,o+i*7+3,none⟩=some (.slice G O j):=d3;have d5:wa.cell? ⟨g,o+i*7+5,none⟩=some (.slice S K c2):=d5;have d6:wa.cell? ⟨g,o+i*7+6,none⟩=some (.slice M P N):=d6;have cy:=ah m.name;obtain⟨X,hX⟩:=Z9 (bH m.x.q);obtain⟨Y,hY⟩:=Z9 (bH m.y.q);have dd:=ah X;have cv:=ah Y;have c6:X.length<=10100:=by rw[<-hX];exact eG aF Qr
   have c8:Y.length<=10100:=by rw[<-hY];exact eG a2 Qr
   obtain⟨s1,k⟩:∃t,[32]++m.name=t:=⟨_,rfl⟩;have bs:=aL ([32]) (m.name);rw[k]at bs;have bF:s1.length=1+m.name.length:=by rw[<-k,kc];try simp
   have dq:(9223372036854775807<1+m.name.length)=False:=oK (by omega);have c3:=ah s1;obtain⟨s2,p⟩:∃t,s1++[32]=t:=⟨_,rfl⟩;have ca:=aL (s1) ([32]);rw[p]at ca;have bn:s2.length=s1.length+1:=by rw[<-p,kc];try simp
   have cL:(9223372036854775807<s1.length+1)=False:=oK (by omega);have ee:=ah s2;obtain⟨s3,u⟩:∃t,s2++X=t:=⟨_,rfl⟩;have cc:=aL (s2) (X);rw[u]at cc;have br:s3.length=s2.length+X.length:=by rw[<-u,kc];try simp
   have cx:(9223372036854775807<s2.length+X.length)=False:=oK (by omega);have ed:=ah s3;obtain⟨s4,v⟩:∃t,s3++[32]=t:=⟨_,rfl⟩;have b5:=aL (s3) ([32]);rw[v]at b5;have bd:s4.length=s3.length+1:=by rw[<-v,kc];try simp
   have cz:(9223372036854775807<s3.length+1)=False:=oK (by omega);have dv:=ah s4;obtain⟨s5,s⟩:∃t,s4++Y=t:=⟨_,rfl⟩;have a7:=aL (s4) (Y);rw[s]at a7;have bg:s5.length=s4.length+Y.length:=by rw[<-s,kc];try simp
   have ds:(9223372036854775807<s4.length+Y.length)=False:=oK (by omega);have c4:=ah s5;obtain⟨s6,z⟩:∃t,s5++[59]=t:=⟨_,rfl⟩;have a9:=aL (s5) ([59]);rw[z]at a9;have be:s6.length=s5.length+1:=by rw[<-z,kc];try simp
   have ec:(9223372036854775807<s5.length+1)=False:=oK (by omega);have eg:=ah s6
   have aZ:bm m=s6:=by
    rw[<-z,<-s,<-v,<-u,<-p,<-k,<-hX,<-hY];unfold bm;simp
   rw[aZ]at r
   have a0:((b.pts.take i).flatMap bm).length+s6.length<=22000*n:=by
    have:=mo List.length r;rw[kc]at this;have h9:=HF.out;have h8:=ab.out;rw[h8]at h9;omega
   have HX:=Qh hX;have HY:=Qh hY;have a3:=Qh r;have an:=Qh a1;have a5:=Qh al;have b6:=Qh a0;have c9:g<wa.heap.size:=hg;clear hX hY r a1 al a0 aZ aS aC U cp aF a2 k p u v s z bF bn br bd bg be;go_wp2_with fail;have xp:Blk (wa.alloc (.cells #[ae m.name,.bool Z,.slice E J c1,.slice G O j,.bool C,.slice S K c2,.slice M P N] 67)) wa.heap.size 67 #[ae m.name,.bool Z,.slice E J c1,.slice G O j,.bool C,.slice S K c2,.slice M P N]:=aj _ _ _ rfl;have qb:Below wa.heap.size wa (wa.alloc (.cells #[ae m.name,.bool Z,.slice E J c1,.slice G O j,.bool C,.slice S K c2,.slice M P N] 67)):=(aa wa).alloc Qr _;have ao:=Qh (Q.out.belw qb);have V:=Qh ((aT.out.belw hb).belw qb);have I:=Qh (an.out.belw qb);have R:=Qh (a5.out.belw qb);have f:=hb.trans (qb.mono hb.size);have bv:wa.heap.size<(wa.alloc (.cells #[ae m.name,.bool Z,.slice E J c1,.slice G O j,.bool C,.slice S K c2,.slice M P N] 67)).heap.size:=xp.lt;have b7:wa.heap.size≠w.heap.size+1:=by have:=Q.out.lt;omega
   clear Q an a5 d0 d1 d2 d3 d4 d5 d6;generalize (wa.alloc (.cells #[ae m.name,.bool Z,.slice E J c1,.slice G O j,.bool C,.slice S K c2,.slice M P N] 67))=wb at xp qb ao V I R f bv⊢;obtain⟨bu,bw,a8,b4,bx,cb,bb⟩:=xp.c7
   go_region_held3 (S7 wa.heap.size (ae m.name) (.bool Z) (.slice E J c1) (.slice G O j) (.bool C) (.slice S K c2) (.slice M P N)) (first|with_reducible exact Blk.c7 (by assumption)|with_reducible exact Blk.c7 (Blk.drew (by assumption))|exact Blk.c7 (Blk.drewN (by assumption) _))
    (first
     |(go_at_call 101;(with_reducible refine(kK _ Z E J c1 G O j m.x 500 ?_ (by decide) (by decide) ?_ X HX.out).mono ?_);(exact I.out.belw (by first|exact d|exact(aa wb).drew|exact af (aa wb) _));(exact V.out.belw (by first|exact d|exact(aa wb).drew|exact af (aa wb) _));rintro e' wx⟨rfl,ac⟩;have a:Below wb.heap.size wb wx:=(by first|exact ag d ac|exact ag (aa wb) ac|exact ag (af (aa wb) _) ac);have cj:=xp.below a xp.lt)
     |(go_at_call 101;(with_reducible refine(kK _ C S K c2 M P N m.y 500 ?_ (by decide) (by decide) ?_ Y HY.out).mono ?_);(exact R.out.belw (by first|exact a|exact(aa wb).drew|exact af (aa wb) _));(exact V.out.belw (by first|exact a|exact(aa wb).drew|exact af (aa wb) _));rintro e' wy⟨rfl,W⟩;have d:Below wb.heap.size wb wy:=(by first|exact ag a W|exact ag (aa wb) W|exact ag (af (aa wb) _) W);have ck:=xp.below d xp.lt)
     |(go_at_call 27;(with_reducible refine(dF _ _ _ _ s6 (ao.out.belw (by first|exact a|exact d)) (by rw[kc];have:=b6.out;omega)).mono ?_);rintro e' wz⟨rfl,Bz,qz,oz⟩;have xz:=oz wa.heap.size 67 _ b7 (by decide) (by first|exact cj|exact ck)))
   all_goals
    have bz:Below w.heap.size w wz:=by
     first
      |exact(f.trans (d.mono f.size)).trans (qz.mono (Nat.le_succ _))
      |exact(f.trans (a.mono f.size)).trans (qz.mono (Nat.le_succ _))
    have bo:Hid (Bu (w.heap.size+1) (w.heap.size+1) wz (L++(b.pts.take (i+1)).flatMap bm)):=Qh (by rw[a3.out,<-ys];exact Bz);clear Bz a3 bu bw a8 b4 bx cb bb;go_wp2_with fail;go_roundw
    case rel=>exact⟨i+1,by go_num,by omega,bo,bz⟩
    case measure=>simp[intOf];omega
  have bk:((i:Int)<(n:Int))=False:=by simp;omega
  have a4:b.pts.take i=b.pts:=ms (by rw[ab.out];exact cn);rw[a4]at Q;have hf:=HF.out;rw[ab.out]at hf;have bY:=Qh hf;clear hf a4 aS;go_wp2_with fail;refine(dF _ _ _ _ [32,125] Q.out (by rw[kc];have:=bY.out;simp only[oP,Gm];omega)).mono ?_;rintro e' w2⟨rfl,B2,q2,_⟩;have C:=hb.trans (q2.mono (Nat.le_succ _));have b0:=Qh B2;clear B2;go_wp2_with fail;refine(tb _ _ _ _ b0.out).mono ?_;rintro e' w3⟨rfl,q3⟩;have b3:=C.trans (q3.mono (Nat.le_succ _));have b8:L++b.pts.flatMap bm++[32,125]=T:=HE.out.2.symm;rw[b8];go_wp2;go_ret;exact⟨rfl,b3⟩
theorem tc(w:World)(A:Option Addr)(n c:Nat)(B:Option Addr)(p d:Nat)(C:Option Addr)(q e:Nat)(nm:List UInt8)(l:List aq)(k:Nat)(h:SlS (fD k) 2 w A n c l)(i j:Nat)(b:aq)(m:aB)(hb:l[i]?=some b)(H:b.pts[j]?=some m)(ad:b.name.length<=1000)(W:m.name.length<=1000)(T:List UInt8)(M:b.name++46::m.name=T):
 Calls Tryz.prog 61 #[.agg #[ae nm,.slice A n c,.slice B p d,.slice C q e],.int .i64 (i:Nat),.int .i64 (j:Nat)] w (av w (ae T)):=by
 have F:i<n:=by rw[<-h.1];exact(ts.1 hb).1
 obtain⟨g,o,b',I,hg,V,s,hB⟩:=h.at_ F;rw[hb]at s;injection s with s;subst s I;obtain⟨A',K,c',c0,c1,y,_⟩:=hB;have z:j<K:=by rw[<-y.1];exact(ts.1 H).1
 obtain⟨g',o',m',I,R,L,a,O⟩:=y.at_ z;rw[H]at a;injection a with a;subst a I;have k0:=O.1;have f1:((i:Int)<(n:Int)):=by omega
 have f2:((j:Int)<(K:Int)):=by omega
 have S:=ah b.name;have X:=ah m.name;obtain⟨u,f⟩:∃t,b.name++[46]=t:=⟨_,rfl⟩;have D:=aL (b.name) ([46]);rw[f]at D;have G:u.length=b.name.length+1:=by rw[<-f,kc];try simp
 have Y:(9223372036854775807<b.name.length+1)=False:=oK (by omega);have U:=ah u;obtain⟨v,r⟩:∃t,u++m.name=t:=⟨_,rfl⟩;have J:=aL (u) (m.name);rw[r]at J;have E:v.length=u.length+m.name.length:=by rw[<-r,kc];try simp
 have ac:(9223372036854775807<u.length+m.name.length)=False:=oK (by omega);have Q:=ah v;have x:v=T:=by rw[<-M,<-r,<-f];simp
 subst x;have ab:¬g=w.heap.size:=by omega
 have P:¬g'=w.heap.size:=by omega
 have N:¬g'=w.heap.size+1:=by omega
 have Z:((i:Int)<=(n:Int)):=by omega
 clear hb H y O h M f r G E;go_in;go_wp2_with fail;go_quiet (fail);go_wp2;go_ret;exact⟨rfl,by first|exact((aa w).alloc Qr _).alloc (by simp) _|exact af (((aa w).alloc Qr _).alloc (by simp) _) _⟩
theorem mM(w:World)(A:Option Addr)(n c:Nat)(B:Option Addr)(p d:Nat)(C:Option Addr)(q e:Nat)(nm:List UInt8)(l:List aq)(k:Nat)(h:SlS (fD k) 2 w A n c l)(i j:Nat)(b:aq)(m:aB)(hb:l[i]?=some b)(H:b.pts[j]?=some m)(ad:b.name.length<=1000)(W:m.name.length<=1000)(T:List UInt8)(M:b.name++46::m.name=T):
 Calls Tryz.prog 67 #[.agg #[ae nm,.slice A n c,.slice B p d,.slice C q e],.int .i64 (i:Nat),.int .i64 (j:Nat)] w (av w (ae T)):=by
 have F:i<n:=by rw[<-h.1];exact(ts.1 hb).1
 obtain⟨g,o,b',I,hg,V,s,hB⟩:=h.at_ F;rw[hb]at s;injection s with s;subst s I;obtain⟨A',K,c',c0,c1,y,_⟩:=hB;have z:j<K:=by rw[<-y.1];exact(ts.1 H).1
 obtain⟨g',o',m',I,R,L,a,O⟩:=y.at_ z;rw[H]at a;injection a with a;subst a I;have k0:=O.1;have f1:((i:Int)<(n:Int)):=by omega
 have f2:((j:Int)<(K:Int)):=by omega
 have S:=ah b.name;have X:=ah m.name;obtain⟨u,f⟩:∃t,b.name++[46]=t:=⟨_,rfl⟩;have D:=aL (b.name) ([46]);rw[f]at D;have G:u.length=b.name.length+1:=by rw[<-f,kc];try simp
 have Y:(9223372036854775807<b.name.length+1)=False:=oK (by omega);have U:=ah u;obtain⟨v,r⟩:∃t,u++m.name=t:=⟨_,rfl⟩;have J:=aL (u) (m.name);rw[r]at J;have E:v.length=u.length+m.name.length:=by rw[<-r,kc];try simp
 have ac:(9223372036854775807<u.length+m.name.length)=False:=oK (by omega);have Q:=ah v;have x:v=T:=by rw[<-M,<-r,<-f];simp
 subst x;have ab:¬g=w.heap.size:=by omega
 have P:¬g'=w.heap.size:=by omega
 have N:¬g'=w.heap.size+1:=by omega
 have Z:((i:Int)<=(n:Int)):=by omega
 clear hb H y O h M f r G E;go_in;go_wp2_with fail;go_quiet (fail);go_wp2;go_ret;exact⟨rfl,by first|exact(aa w).alloc Qr _|exact af ((aa w).alloc Qr _) _⟩
def fq(m:aB):Bool:=decide (60<(bH m.x.q).length)||decide (60<(bH m.y.q).length)
def j6(l:List aq):Bool:=l.any fun b=>b.pts.any fq
theorem mN{α:Type}{f:α->Bool}{l:List α}{i:Nat}{a:α}(c:l[i]?=some a)(h:(l.take i).any f=false)(b:f a=false):(l.take (i+1)).any f=false:=by
 rw[FV,c,Hu,h];simp[b]
theorem uq{α:Type}{f:α->Bool}{l:List α}{i:Nat}{a:α}(c:l[i]?=some a)(b:f a=true):l.any f=true :=
 Ha.2 ⟨a,pk c,b⟩
theorem mO{l:List aq}{i:Nat}{b:aq}(hb:l[i]?=some b)(h:j6 (l.take i)=false)(a:b.pts.any fq=false):j6 (l.take (i+1))=false:=mN hb h a
theorem jD{l:List aq}{i j:Nat}{b:aq}{m:aB}(hb:l[i]?=some b)(a:b.pts[j]?=some m)(h:fq m=true):j6 l=true:=uq hb (uq a h)
theorem DH(w:World)(A:Option Addr)(n c:Nat)(B:Option Addr)(p d:Nat)(C:Option Addr)(q e:Nat)(nm:List UInt8)(l:List aq)(h:SlS (fD 500) 2 w A n c l)(F:Tab w)(hn:n<=1000)(aF:∀b∈l,b.pts.length<=1000)(v:Bool)(hv:j6 l=v):
 Calls Tryz.prog 63 #[.agg #[ae nm,.slice A n c,.slice B p d,.slice C q e]] w (av w (.bool v)):=by
 have HV:=Qh hv;have HL:=Qh h.1;have bb:=Qh aF;have b3:=h.2.1;have H:=Qh h;have aS:=Qh F;clear F;clear h hv aF;go_in;go_wp2_with fail;go_loopw [10] (fun iv wr=>∃i:Nat,iv=.int .i64 (i:Nat)/\i<=n/\Hid (j6 (l.take i)=false)/\Blk wr w.heap.size 36 #[ae nm,.slice A n c,.slice B p d,.slice C q e]/\Below w.heap.size w wr) (fun iv _=>n-(intOf iv).toNat)
 case atStart=>exact⟨0,rfl,Nat.zero_le _,Qh rfl,aj _ _ _ (by simp),(aa w).alloc Qr _⟩
 case round =>
  obtain⟨i,rfl,hi,HI,xL,hb⟩:=hrel;rename World=>wa;have b0:w.heap.size<wa.heap.size:=xL.lt;have cL:=xL.cell 1;rcases Nat.lt_or_ge i n with a5|bl
  ·have a4:((i:Int)<(n:Int))=True:=by simp;omega
   obtain⟨g,o,b,s,hg,_,M,hB⟩:=(H.out.bd hb).at_ a5;subst s;obtain⟨A',z,c',c0,c1,hM,bw⟩:=hB;have bs:=hM.2.1;have bu:z<=1000:=by rw[<-hM.1];exact bb.out b (pk M)
   have HM:=Qh hM;have Q:=Qh M;clear hM M;go_wp2_with fail;have xb:Blk (wa.alloc (.cells #[ae b.name,.slice A' z c'] 62)) wa.heap.size 62 #[ae b.name,.slice A' z c']:=aj _ _ _ rfl;have a:Below wa.heap.size wa (wa.alloc (.cells #[ae b.name,.slice A' z c'] 62)):=(aa wa).alloc Qr _;have P:=xL.below a xL.lt;have ad:=hb.trans (a.mono hb.size);clear cL c0 c1;generalize (wa.alloc (.cells #[ae b.name,.slice A' z c'] 62))=wx at xb a P ad⊢;have cb:=xb.cell 1;go_wp2_with fail;clear cb;go_loopw [17] (fun jv w2=>∃j:Nat,jv=.int .i64 (j:Nat)/\j<=z/\Hid ((b.pts.take j).any fq=false)/\Below wx.heap.size wx w2) (fun jv _=>z-(intOf jv).toNat)
   case atStart=>exact⟨0,rfl,Nat.zero_le _,Qh rfl,aa wx⟩
   case round =>
    obtain⟨j,rfl,hj,HJ,t⟩:=hrel;rename World=>wb;have r:=P.below t P.lt;have br:w.heap.size<wb.heap.size:=r.lt;have ba:=r.cell 1;have D:=ad.trans (t.mono ad.size);rcases Nat.lt_or_ge j z with a2|bo
    ·have a6:((j:Int)<(z:Int))=True:=by simp;omega
     obtain⟨g',o',m,s,bx,_,aC,hM⟩:=((HM.out.mk_ a).mk_ t).at_ a2;subst s;have ab:=Qh aC;obtain⟨d0,⟨b1,K,R,c1,O,W,s,d1,d2,d3,aT⟩,⟨b2,A2,S,c2,U,m2,V,d4,d5,d6,al⟩,bY⟩:=hM;have d2:wb.cell? ⟨g',o'+j*7+2,none⟩=some (.slice K R c1):=d2;have d3:wb.cell? ⟨g',o'+j*7+3,none⟩=some (.slice O W s):=d3;have d5:wb.cell? ⟨g',o'+j*7+5,none⟩=some (.slice A2 S c2):=d5;have d6:wb.cell? ⟨g',o'+j*7+6,none⟩=some (.slice U m2 V):=d6;obtain⟨X,hX⟩:=Z9 (bH m.x.q);obtain⟨Y,hY⟩:=Z9 (bH m.y.q);have bF:=ah X;have bv:=ah Y;have HX:=Qh hX;have HY:=Qh hY;have ao:=Qh aT;have a0:=Qh al;have b4:g<wb.heap.size:=by have:=t.size;have:=a.size;omega
     clear hX hY aT al aC;go_wp2_with fail;have xp:Blk (wb.alloc (.cells #[ae m.name,.bool b1,.slice K R c1,.slice O W s,.bool b2,.slice A2 S c2,.slice U m2 V] 67)) wb.heap.size 67 #[ae m.name,.bool b1,.slice K R c1,.slice O W s,.bool b2,.slice A2 S c2,.slice U m2 V]:=aj _ _ _ rfl;have a:Below wb.heap.size wb (wb.alloc (.cells #[ae m.name,.bool b1,.slice K R c1,.slice O W s,.bool b2,.slice A2 S c2,.slice U m2 V] 67)):=(aa wb).alloc Qr _;have N:=Qh ((aS.out.belw D).belw a);have G:=Qh (ao.out.belw a);have I:=Qh (a0.out.belw a);have ac:=D.trans (a.mono D.size);have u:=r.below a r.lt;have E:=ag t a;have a7:wb.heap.size<(wb.alloc (.cells #[ae m.name,.bool b1,.slice K R c1,.slice O W s,.bool b2,.slice A2 S c2,.slice U m2 V] 67)).heap.size:=xp.lt;clear ao a0 d0 d1 d2 d3 d4 d5 d6 ba;generalize (wb.alloc (.cells #[ae m.name,.bool b1,.slice K R c1,.slice O W s,.bool b2,.slice A2 S c2,.slice U m2 V] 67))=wc at xp a N G I ac a7 u E⊢;refine(kK _ b1 K R c1 O W s m.x 500 G.out (by decide) (by decide) N.out X HX.out).mono ?_;rintro e' w3⟨rfl,k⟩;have T:=xp.below k xp.lt;have u:=u.b k;have L:=ac.trans (k.mono ac.size);have E:=ag E k;by_cases hx6:60<X.length
     ·have f6:((60:Int)<(X.length:Int))=True:=xr (by omega)
      have f:fq m=true:=by unfold fq;rw[HX.out,zO hx6];rfl
      have Z:v=true:=by rw[<-HV.out];exact jD Q.out ab.out f
      subst Z;go_wp2;go_ret;exact⟨rfl,L⟩
     have f6:((60:Int)<(X.length:Int))=False:=oK (by omega);have a8:=T.cell 4;have bk:=T.cell 5;have a3:=T.cell 6;go_wp2_with fail;refine(kK _ b2 A2 S c2 U m2 V m.y 500 (I.out.belw k) (by decide) (by decide) (N.out.belw k) Y HY.out).mono ?_;rintro e' w4⟨rfl,J⟩;have bz:=u.below J u.lt;have bg:=L.trans (J.mono L.size);have bn:=ag E J;clear a8 bk a3;by_cases hy6:60<Y.length
     ·have g6:((60:Int)<(Y.length:Int))=True:=xr (by omega)
      have f:fq m=true:=by unfold fq;rw[HX.out,HY.out,zO hy6,Im]
      have Z:v=true:=by rw[<-HV.out];exact jD Q.out ab.out f
      subst Z;go_wp2;go_ret;exact⟨rfl,bg⟩
     have g6:((60:Int)<(Y.length:Int))=False:=oK (by omega);have f:fq m=false:=by unfold fq;rw[HX.out,HY.out,yB hx6,yB hy6];rfl
     have a9:=Qh (mN ab.out HJ.out f);clear f;go_wp2_with fail;go_roundw
     case rel=>exact⟨j+1,by go_num,by omega,a9,bn⟩
     case measure=>simp[intOf];omega
    have a6:((j:Int)<(z:Int))=False:=by simp;omega
    have an:b.pts.take j=b.pts:=ms (by rw[HM.out.1];exact bo);rw[an]at HJ;have be:=Qh (mO Q.out HI.out HJ.out);clear an;go_wp2_with fail;go_roundw
    case rel=>exact⟨i+1,by go_num,by omega,be,r,D⟩
    case measure=>simp[intOf];omega
  have a4:((i:Int)<(n:Int))=False:=by simp;omega
  have aZ:l.take i=l:=ms (by rw[HL.out];exact bl);rw[aZ]at HI;have a1:v=false:=by rw[<-HV.out];exact HI.out
  subst a1;clear aZ;go_wp2;go_ret;exact⟨rfl,hb⟩
theorem DI(w:World)(A:Option Addr)(n c:Nat)(B:Option Addr)(p d:Nat)(C:Option Addr)(q e:Nat)(nm:List UInt8)(l:List aq)(h:SlS (fD 500) 2 w A n c l)(hn:n<=1000)(an:∀b∈l,b.pts.length<=1000)(v:Bool)(hv:j6 l=v):
 Calls Tryz.prog 68 #[.agg #[ae nm,.slice A n c,.slice B p d,.slice C q e]] w (av w (.bool v)):=by
 have HV:=Qh hv;have HL:=Qh h.1;have a7:=Qh an;have bz:=h.2.1;have H:=Qh h;clear h hv an;go_in;go_wp2_with fail;go_loopw [3] (fun iv wr=>∃i:Nat,iv=.int .i64 (i:Nat)/\i<=n/\Hid (j6 (l.take i)=false)/\Blk wr w.heap.size 36 #[ae nm,.slice A n c,.slice B p d,.slice C q e]/\Below w.heap.size w wr) (fun iv _=>n-(intOf iv).toNat)
 case atStart=>exact⟨0,rfl,Nat.zero_le _,Qh rfl,aj _ _ _ (by simp),(aa w).alloc Qr _⟩
 case round =>
  obtain⟨i,rfl,hi,HI,xL,hb⟩:=hrel;rename World=>wa;have bx:w.heap.size<wa.heap.size:=xL.lt;have cL:=xL.cell 1;rcases Nat.lt_or_ge i n with a1|bb
  ·have a0:((i:Int)<(n:Int))=True:=by simp;omega
   obtain⟨g,o,b,r,hg,_,I,hB⟩:=(H.out.bd hb).at_ a1;subst r;obtain⟨A',Z,c',c0,c1,hM,br⟩:=hB;have bl:=hM.2.1;have bn:Z<=1000:=by rw[<-hM.1];exact a7.out b (pk I)
   have HM:=Qh hM;have L:=Qh I;clear hM I;go_wp2_with fail;clear cL;go_loopw [4] (fun jv w2=>∃j:Nat,jv=.int .i64 (j:Nat)/\j<=Z/\Hid ((b.pts.take j).any fq=false)/\Below wa.heap.size wa w2) (fun jv _=>Z-(intOf jv).toNat)
   case atStart=>exact⟨0,rfl,Nat.zero_le _,Qh rfl,aa wa⟩
   case round =>
    obtain⟨j,rfl,hj,HJ,a⟩:=hrel;rename World=>wb;have k:=xL.below a xL.lt;have bk:w.heap.size<wb.heap.size:=k.lt;have a6:=k.cell 1;have K:=hb.trans (a.mono hb.size);have c0:=aw c0 a;have c1:=aw c1 a;rcases Nat.lt_or_ge j Z with aT|bg
    ·have a2:((j:Int)<(Z:Int))=True:=by simp;omega
     obtain⟨g',o',m,r,bs,_,al,hM⟩:=(HM.out.mk_ a).at_ aT;subst r;have T:=Qh al;obtain⟨d0,⟨b1,F,M,c1,J,R,r,d1,d2,d3,ao⟩,⟨b2,W,N,c2,P,U,Q,d4,d5,d6,ab⟩,bw⟩:=hM;have d2:wb.cell? ⟨g',o'+j*7+2,none⟩=some (.slice F M c1):=d2;have d3:wb.cell? ⟨g',o'+j*7+3,none⟩=some (.slice J R r):=d3;have d5:wb.cell? ⟨g',o'+j*7+5,none⟩=some (.slice W N c2):=d5;have d6:wb.cell? ⟨g',o'+j*7+6,none⟩=some (.slice P U Q):=d6;obtain⟨X,hX⟩:=Z9 (bH m.x.q);obtain⟨Y,hY⟩:=Z9 (bH m.y.q);have bv:=ah X;have bo:=ah Y;have HX:=Qh hX;have HY:=Qh hY;have ad:=Qh ao;have aF:=Qh ab;have bF:g<wb.heap.size:=by have:=a.size;omega
     clear hX hY ao ab al;go_wp2_with fail;have xp:Blk (wb.alloc (.cells #[ae m.name,.bool b1,.slice F M c1,.slice J R r,.bool b2,.slice W N c2,.slice P U Q] 67)) wb.heap.size 67 #[ae m.name,.bool b1,.slice F M c1,.slice J R r,.bool b2,.slice W N c2,.slice P U Q]:=aj _ _ _ rfl;have qb:Below wb.heap.size wb (wb.alloc (.cells #[ae m.name,.bool b1,.slice F M c1,.slice J R r,.bool b2,.slice W N c2,.slice P U Q] 67)):=(aa wb).alloc Qr _;have z:=Qh (ad.out.belw qb);have D:=Qh (aF.out.belw qb);have V:=K.trans (qb.mono K.size);have t:=k.below qb k.lt;have u:=ag a qb;have a3:wb.heap.size<(wb.alloc (.cells #[ae m.name,.bool b1,.slice F M c1,.slice J R r,.bool b2,.slice W N c2,.slice P U Q] 67)).heap.size:=xp.lt;clear ad aF d0 d1 d2 d3 d4 d5 d6 a6;generalize (wb.alloc (.cells #[ae m.name,.bool b1,.slice F M c1,.slice J R r,.bool b2,.slice W N c2,.slice P U Q] 67))=wc at xp qb z D V a3 t u⊢;refine(kL _ b1 F M c1 J R r m.x 500 z.out (by decide) (by decide) X HX.out).mono ?_;rintro e' w3⟨rfl,s⟩;have O:=xp.below s xp.lt;have t:=t.b s;have G:=V.trans (s.mono V.size);have u:=ag u s;by_cases hx6:60<X.length
     ·have f6:((60:Int)<(X.length:Int))=True:=xr (by omega)
      have f:fq m=true:=by unfold fq;rw[HX.out,zO hx6];rfl
      have S:v=true:=by rw[<-HV.out];exact jD L.out T.out f
      subst S;go_wp2;go_ret;exact⟨rfl,G⟩
     have f6:((60:Int)<(X.length:Int))=False:=oK (by omega);have a4:=O.cell 4;have ba:=O.cell 5;have aZ:=O.cell 6;go_wp2_with fail;refine(kL _ b2 W N c2 P U Q m.y 500 (D.out.belw s) (by decide) (by decide) Y HY.out).mono ?_;rintro e' w4⟨rfl,E⟩;have bu:=t.below E t.lt;have a9:=G.trans (E.mono G.size);have be:=ag u E;clear a4 ba aZ;by_cases hy6:60<Y.length
     ·have g6:((60:Int)<(Y.length:Int))=True:=xr (by omega)
      have f:fq m=true:=by unfold fq;rw[HX.out,HY.out,zO hy6,Im]
      have S:v=true:=by rw[<-HV.out];exact jD L.out T.out f
      subst S;go_wp2;go_ret;exact⟨rfl,a9⟩
     have g6:((60:Int)<(Y.length:Int))=False:=oK (by omega);have f:fq m=false:=by unfold fq;rw[HX.out,HY.out,yB hx6,yB hy6];rfl
     have a5:=Qh (mN T.out HJ.out f);clear f;go_wp2_with fail;go_roundw
     case rel=>exact⟨j+1,by go_num,by omega,a5,be⟩
     case measure=>simp[intOf];omega
    have a2:((j:Int)<(Z:Int))=False:=by simp;omega
    have ac:b.pts.take j=b.pts:=ms (by rw[HM.out.1];exact bg);rw[ac]at HJ;have a8:=Qh (mO L.out HI.out HJ.out);clear ac;go_wp2_with fail;go_roundw
    case rel=>exact⟨i+1,by go_num,by omega,a8,k,K⟩
    case measure=>simp[intOf];omega
  have a0:((i:Int)<(n:Int))=False:=by simp;omega
  have aC:l.take i=l:=ms (by rw[HL.out];exact bb);rw[aC]at HI;have aS:v=false:=by rw[<-HV.out];exact HI.out
  subst aS;clear aC;go_wp2;go_ret;exact⟨rfl,hb⟩
theorem d0Z{a:Nat}(w:World)(i:Int)(n:Nat)(v:Bool)(d:inI i n=v)(b:a=114\/a=94):Calls Tryz.prog a #[.int .i64 i,.int .i64 (n:Nat)] w (fun e c=>e=.returned (.bool v)/\c=w):=by
 rcases b with rfl|rfl
 all_goals
  subst d;by_cases h1:0<=i
  ·by_cases h2:i<(n:Int)
   ·have e:inI i n=true:=by unfold inI;simp[h1,h2]
    rw[e];have f1:(0<=i)=True:=xr h1;have f2:(i<(n:Int))=True:=xr h2;go_in;go_wp2;go_ret;exact⟨rfl,rfl⟩
   have e:inI i n=false:=by unfold inI;simp[h2]
   rw[e];have f1:(0<=i)=True:=xr h1;have f2:(i<(n:Int))=False:=oK h2;go_in;go_wp2;go_ret;exact⟨rfl,rfl⟩
  have e:inI i n=false:=by unfold inI;simp[h1]
  rw[e];have f1:(0<=i)=False:=oK h1;go_in;go_wp2;go_ret;exact⟨rfl,rfl⟩
theorem dZ(w:World)(i:Int)(n:Nat)(v:Bool)(d:inI i n=v):Calls Tryz.prog 114 #[.int .i64 i,.int .i64 (n:Nat)] w (fun e c=>e=.returned (.bool v)/\c=w):=d0Z w i n v d (.inl rfl)
theorem vX(w:World)(i:Int)(n:Nat)(v:Bool)(b:inI i n=v):Calls Tryz.prog 114 #[.int .i64 i,.int .i64 (n:Nat)] w (av w (.bool v)):=(dZ w i n v b).mono fun _ _ ⟨a,c⟩=>⟨a,c ▸ aa _⟩
theorem zl(w:World)(A:Option Addr)(n c:Nat)(l:List aq)(k:Nat)(h:SlS (fD k) 2 w A n c l)(hk:k<=300000000)(hn:n<=1000)(x:Int)(hx:bM aY [] l=x):Calls Tryz.prog 76 #[.slice A n c] w (av w (cd x)):=by
 have c9:=h.2.1;have HX:=Qh (dt hx);clear hx;go_in;go_wp2_with fail;go_loopw [13] (fun iv wr=>∃i:Nat,iv=.int .i64 (i:Nat)/\i<=n/\Hid (bM aY (l.take i) (l.drop i)=x)/\Below w.heap.size w wr) (fun iv _=>n-(intOf iv).toNat)
 case atStart=>exact⟨0,rfl,Nat.zero_le _,HX,aa w⟩
 case round =>
  clear HX;obtain⟨i,rfl,hi,HX,hb⟩:=hrel;rename World=>wa;rcases Nat.lt_or_ge i n with bz|ck
  ·have bx:((i:Int)<(n:Int))=True:=by simp;omega
   obtain⟨g,o,b,e,hg,_,S,hB⟩:=(h.bd hb).at_ bz;subst e;have G:=dS HX.out S;obtain⟨A',F,c',c0,c1,hM,aT⟩:=hB;have HR:=Qh (h.bd hb);have HM:=Qh hM;have HS:=Qh G;have HN:=Qh aT;have HB:=Qh S;obtain⟨v,hv⟩:=Z9 (bU b.name);have D:=Qh hv;clear h hM G aT S hv HX;go_wp2_with fail;refine(mK _ b.name HN.out v D.out).mono ?_;rintro e w1⟨rfl,aC⟩;have q1:=aC.q1;have x1:Blk w1 wa.heap.size 62 #[ae b.name,.slice A' F c']:=(aj _ _ _ (by simp)).below aC (by simp);have W:=hb.trans (q1.mono hb.size);clear aC;cases v
   ·have h5:x=5:=by
     have e5:aY (l.take i) b=5:=kZ D.out;rcases HS.out with⟨z,_⟩|⟨_,z⟩
     ·rw[e5]at z;cases z
     rw[<-z,e5]
    go_wp2;go_ret;exact⟨by rw[h5];rfl,W⟩
   obtain⟨C,B⟩:=x1.c2;go_wp2_with fail;clear C B;go_loopw [27] (fun Z I=>∃j:Nat,Z=.int .i64 (j:Nat)/\j<=i/\Hid (twN ((l.take j).map aq.name) b.name=false)/\Below w1.heap.size w1 I) (fun Z _=>i-(intOf Z).toNat)
   case atStart=>exact⟨0,rfl,Nat.zero_le _,Qh rfl,aa w1⟩
   case round =>
    obtain⟨j,rfl,hj,J,t⟩:=hrel;rename World=>I;have x2:=x1.below t x1.lt;have E:=W.trans (t.mono W.size);obtain⟨C,B⟩:=x2.c2;have c6:wa.heap.size<I.heap.size:=x2.lt;rcases Nat.lt_or_ge j i with bo|di
    ·have bF:((j:Int)<(i:Int))=True:=by simp;omega
     have br:j<n:=by omega
     obtain⟨a,N,hA⟩:=((HR.out.bd q1).bd t).rowAt br;obtain⟨A2,n2,c2,d0,d1,cx,cy⟩:=hA;have bn:g<I.heap.size:=by have:=t.size;have:=q1.size;omega
     clear cx cy;have ba:¬wa.heap.size=I.heap.size:=by omega
     have a8:¬g=I.heap.size:=by omega
     have co:=aK b.name;by_cases d:a.name=b.name
     ·have h6:x=6:=by
       have e6:aY (l.take i) b=6:=by
        unfold aY;rw[D.out,kl (by decide),kZ (eS N bo d)]
       rcases HS.out with⟨z,_⟩|⟨_,z⟩
       ·rw[e6]at z;cases z
       rw[<-z,e6]
      rw[d]at d0;have Y:(b.name==b.name)=true:=by simp
      clear d N;go_wp2;go_ret;exact⟨by rw[h6];rfl,E.alloc E.size _⟩
     have b7:=aK a.name;have T:=Qh (fp N J.out d);have Y:(a.name==b.name)=false:=it.2 d;clear d N J;go_wp2_with fail;go_roundw
     case rel=>exact⟨j+1,by go_num,by omega,T,t.alloc t.size _⟩
     case measure=>simp[intOf];omega
    have bF:((j:Int)<(i:Int))=False:=by simp;omega
    obtain rfl:j=i:=by omega
    clear C B c0 c1;have q:b.pts.length=F:=HM.out.1;by_cases h8:8<F
    ·have f8:((8:Int)<(F:Int))=True:=xr (by omega)
     have h4:x=4:=by
      have e4:aY (l.take j) b=4:=by
       unfold aY;rw[D.out,kl (by decide),J.out,kl (by decide),kZ (by rw[q];exact h8)]
      rcases HS.out with⟨z,_⟩|⟨_,z⟩
      ·rw[e4]at z;cases z
      rw[<-z,e4]
     obtain⟨C,B⟩:=x2.c2;clear q;go_wp2;go_ret;exact⟨by rw[h4];rfl,E⟩
    have f8:((8:Int)<(F:Int))=False:=oK (by omega);obtain⟨y,hy⟩:=Z9 (bM bE [] b.pts)
    have HE:Hid (aY (l.take j) b=y):=Qh (by
     unfold aY;rw[D.out,kl (by decide),J.out,kl (by decide),kl (by rw[q];exact h8)]
     exact hy)
    have HP:=Qh (dt hy);have O:=Qh ((HM.out.mk_ q1).mk_ t);obtain⟨C,B⟩:=x2.c2;clear hy q D J HM;go_wp2_with fail;clear C B;go_loopw [46] (fun pv wr=>∃p:Nat,pv=.int .i64 (p:Nat)/\p<=F/\Hid (bM bE (b.pts.take p) (b.pts.drop p)=y)/\Below I.heap.size I wr) (fun pv _=>F-(intOf pv).toNat)
    case atStart=>exact⟨0,rfl,Nat.zero_le _,HP,aa I⟩
    case round =>
     clear HP;obtain⟨p,rfl,hp,HP,s⟩:=hrel;rename World=>w3;have x3:=x2.below s x2.lt;have R:=E.trans (s.mono E.size);have cL:wa.heap.size<w3.heap.size:=x3.lt;rcases Nat.lt_or_ge p F with ca|cp
     ·have cm:((p:Int)<(F:Int))=True:=by simp;omega
      obtain⟨g',P,m,e,c7,_,ad,cb⟩:=(O.out.mk_ s).at_ ca;subst e;have a0:=dS HP.out ad;obtain⟨d0,⟨b1,A1,n1,c1,D1,m1,e1,d1,d2,d3,a6⟩,⟨b2,A2,n2,c2,D2,m2,e2,d4,d5,d6,aF⟩,a2⟩:=cb;have d2:w3.cell? ⟨g',P+p*7+2,none⟩=some (.slice A1 n1 c1):=d2;have d3:w3.cell? ⟨g',P+p*7+3,none⟩=some (.slice D1 m1 e1):=d3;have d5:w3.cell? ⟨g',P+p*7+5,none⟩=some (.slice A2 n2 c2):=d5;have d6:w3.cell? ⟨g',P+p*7+6,none⟩=some (.slice D2 m2 e2):=d6;obtain⟨Q,ac⟩:=x3.c2;have bb:=Qh a0;have bs:=Qh a6;have cv:=Qh aF;have bl:=Qh a2;have c8:=Qh ad;have cu:=Qh (O.out.mk_ s);obtain⟨v,hv⟩:=Z9 (bU m.name);have D:=Qh hv;clear a0 a6 aF a2 ad hv O HP;go_wp2_with fail;refine(mK _ m.name bl.out v D.out).mono ?_;rintro e w4⟨rfl,ao⟩;have K:=ao.q1;have x4:Blk w4 w3.heap.size 67 #[ae m.name,.bool b1,.slice A1 n1 c1,.slice D1 m1 e1,.bool b2,.slice A2 n2 c2,.slice D2 m2 e2]:=(aj _ _ _ (by simp)).below ao (by simp);have cc:=x3.below K x3.lt;have X:=R.trans (K.mono R.size);clear ao d0 d1 d2 d3 d4 d5 d6 Q ac
      have M:∀z:Int,z≠0->bE (b.pts.take p) m=z->x=z:=fun z hz hm=>by
       have hy:y=z:=by
        rcases bb.out with⟨u,_⟩|⟨_,u⟩
        ·exact absurd (hm.symm.trans u) hz
        exact u.symm.trans hm
       rcases HS.out with⟨u,_⟩|⟨_,u⟩
       ·exact absurd (hy.symm.trans (HE.out.symm.trans u)) hz
       rw[<-u,HE.out,hy]
      cases v
      ·have h5:x=5:=M 5 (by decide) (kZ D.out)
       clear M;go_wp2;go_ret;exact⟨by rw[h5];rfl,X⟩
      have al:=Qh M;clear M;obtain⟨Q,ac⟩:=cc.c2;go_wp2_with fail;clear Q ac;go_loopw [61] (fun Z wr=>∃r:Nat,Z=.int .i64 (r:Nat)/\r<=p/\Hid (twN ((b.pts.take r).map aB.name) m.name=false)/\Below w4.heap.size w4 wr) (fun Z _=>p-(intOf Z).toNat)
      case atStart=>exact⟨0,rfl,Nat.zero_le _,Qh rfl,aa w4⟩
      case round =>
       obtain⟨r,rfl,hr,J,f⟩:=hrel;rename World=>w5;have V:=x4.below f x4.lt;have L:=X.trans (f.mono X.size);have b0:=V.cell 0;have cz:w3.heap.size<w5.heap.size:=V.lt;rcases Nat.lt_or_ge r p with b5|dd
       ·have bu:((r:Int)<(p:Int))=True:=by simp;omega
        have be:r<F:=by omega
        obtain⟨a,N,hA⟩:=((cu.out.mk_ K).mk_ f).rowAt be;obtain⟨d0,⟨b3,A3,n3,c3,D3,m3,e3,d1,d2,d3,cj⟩,⟨b4,A4,n4,c4,D4,m4,e4,d4,d5,d6,cs⟩,a7⟩:=hA;have bn:g'<w5.heap.size:=by have:=f.size;have:=K.size;omega
        have d2:w5.cell? ⟨g',P+r*7+2,none⟩=some (.slice A3 n3 c3):=d2;have d3:w5.cell? ⟨g',P+r*7+3,none⟩=some (.slice D3 m3 e3):=d3;have d5:w5.cell? ⟨g',P+r*7+5,none⟩=some (.slice A4 n4 c4):=d5;have d6:w5.cell? ⟨g',P+r*7+6,none⟩=some (.slice D4 m4 e4):=d6;clear cj cs a7;have ba:¬w3.heap.size=w5.heap.size:=by omega
        have a8:¬g'=w5.heap.size:=by omega
        have co:=aK m.name;by_cases d:a.name=m.name
        ·have h6:x=6:=al.out 6 (by decide) (by
          unfold bE
          rw[D.out,kl (by decide),kZ (eS N b5 d)])
         rw[d]at d0;have Y:(m.name==m.name)=true:=by simp
         clear d N;go_wp2;go_ret;exact⟨by rw[h6];rfl,L.alloc L.size _⟩
        have b7:=aK a.name;have T:=Qh (fp N J.out d);have Y:(a.name==m.name)=false:=it.2 d;clear d N J;go_wp2_with fail;go_roundw
        case rel=>exact⟨r+1,by go_num,by omega,T,f.alloc f.size _⟩
        case measure=>simp[intOf];omega
       have bu:((r:Int)<(p:Int))=False:=by simp;omega
       obtain rfl:r=p:=by omega
       have cn:=V.cell 1;have bk:=V.cell 2;have bY:=V.cell 3;obtain⟨v1,aZ⟩:∃v,m.x.ok=v:=⟨_,rfl⟩;obtain⟨v2,a3⟩:∃v,m.y.ok=v:=⟨_,rfl⟩;have an:=Qh aZ;have ab:=Qh a3;clear aZ a3;go_wp2_with fail;refine(ju _ b1 A1 n1 c1 D1 m1 e1 m.x k v1 ((bs.out.belw K).belw f) hk an.out).mono ?_;rintro e w6⟨rfl,H⟩;have x6:=V.below H V.lt;have U:=L.trans (H.mono L.size);clear b0 cn bk bY
       have aS:v1=false\/v2=false->bE (b.pts.take r) m=3:=fun hh=>by
        unfold bE;rw[D.out,kl (by decide),J.out,kl (by decide),an.out,ab.out];rcases hh with e|e
        ·rw[e,kZ rfl]
        rw[e];cases v1
        ·rfl
        rfl
       have a4:=Qh aS;clear aS;cases v1
       ·have h3:x=3:=al.out 3 (by decide) (a4.out (.inl rfl))
        go_wp2;go_ret;exact⟨by rw[h3];rfl,U⟩
       have b9:=x6.cell 4;have b8:=x6.cell 5;have b6:=x6.cell 6;have c5:w3.heap.size<w6.heap.size:=x6.lt;go_wp2_with fail;refine(ju _ b2 A2 n2 c2 D2 m2 e2 m.y k v2 (((cv.out.belw K).belw f).belw H) hk ab.out).mono ?_;rintro e w7⟨rfl,a9⟩;have bg:=U.trans (a9.mono U.size);have a1:Below I.heap.size I w7:=(((s.trans (K.mono s.size)).trans (f.mono (Nat.le_trans s.size K.size))).trans (H.mono (Nat.le_trans (Nat.le_trans s.size K.size) f.size))).trans (a9.mono (Nat.le_trans (Nat.le_trans (Nat.le_trans s.size K.size) f.size) H.size));clear b9 b8 b6;cases v2
       ·have h3:x=3:=al.out 3 (by decide) (a4.out (.inr rfl))
        go_wp2;go_ret;exact⟨by rw[h3];rfl,bg⟩
       ·have h0:bE (b.pts.take r) m=0:=by
         unfold bE;rw[D.out,kl (by decide),J.out,kl (by decide),an.out,ab.out];rfl
        have bv:Hid (bM bE (b.pts.take (r+1)) (b.pts.drop (r+1))=y):=Qh (by
         rcases bb.out with⟨_,u⟩|⟨u,_⟩
         ·exact u
         exact absurd h0 u)
        clear h0;go_wp2_with fail;go_roundw
        case rel=>exact⟨r+1,by go_num,by omega,bv,a1⟩
        case measure=>simp[intOf];omega
     have cm:((p:Int)<(F:Int))=False:=by simp;omega
     have a5:y=0:=fo HP.out (by rw[O.out.1];exact cp)
     have cr:Hid (bM aY (l.take (j+1)) (l.drop (j+1))=x):=Qh (by
      rcases HS.out with⟨_,u⟩|⟨u,_⟩
      ·exact u
      exact absurd (HE.out.trans a5) u)
     clear a5;go_wp2_with fail;go_roundw
     case rel=>exact⟨j+1,by go_num,by omega,cr,R⟩
     case measure=>simp[intOf];omega
  have bx:((i:Int)<(n:Int))=False:=by simp;omega
  have bw:x=0:=fo HX.out (by rw[h.1];exact ck);go_wp2;go_ret;exact⟨by rw[bw];rfl,hb⟩
theorem mP{i:Int}{n:Nat}(h:inI i n=true):∃m:Nat,i=(m:Int)/\m<n:=by
 unfold inI at h;simp only[uv,FZ]at h;exact⟨i.toNat,by omega,by omega⟩
theorem vY(w:World)(A:Option Addr)(n c:Nat)(B:Option Addr)(p d:Nat)(C:Option Addr)(q e:Nat)(nm:List UInt8)(j:bj)(h:j.kind≠0/\j.kind≠1):
 Calls Tryz.prog 113 #[.agg #[ae nm,.slice A n c,.slice B p d,.slice C q e],.agg #[ae j.name,.int .i64 j.kind,.int .i64 j.a,.int .i64 j.point,.int .i64 j.b,.int .i64 j.on,.int .i64 j.to_]] w (av w (cd 7)):=by
 have f:(j.kind==0)=false:=it.2 h.1;have g:(j.kind==1)=false:=it.2 h.2;have k:(j.kind != 0)=true:=F6.2 h.1;have i:(j.kind != 1)=true:=F6.2 h.2;clear h;go_in;go_wp2;go_ret;exact⟨rfl,(((aa w).alloc Qr _).alloc (by simp) _)⟩
theorem vZ(w:World)(A:Option Addr)(n c:Nat)(B:Option Addr)(p d:Nat)(C:Option Addr)(q e:Nat)(nm:List UInt8)(j:bj)(L:am)(k:Nat)(h:SlS (fD k) 2 w A n c L.bodies)(hk:k<=10000000)(br:0<k)(hn:n<=1000)(s:j.kind=0)(x:Int)(Q:bC L j=x):
 Calls Tryz.prog 113 #[.agg #[ae nm,.slice A n c,.slice B p d,.slice C q e],.agg #[ae j.name,.int .i64 j.kind,.int .i64 j.a,.int .i64 j.point,.int .i64 j.b,.int .i64 j.on,.int .i64 j.to_]] w (av w (cd x)):=by
 have e0:(j.kind==0)=true:=xm.2 s;have e2:(j.kind != 0)=false:=by rw[s];rfl
 have Z:=h.1;have T:=Qh Q;have R:=Qh (show ¬(j.kind≠0/\j.kind≠1) by rw[s];decide);have ao:=Qh s;have H:=Qh h;have P:=Qh Z;obtain⟨v1,aF⟩:∃v,inI j.a n=v:=⟨_,rfl⟩;obtain⟨v2,W⟩:∃v,inI j.b n=v:=⟨_,rfl⟩;have i:=Qh aF;have m:=Qh W;clear Q s h Z aF W;go_in;go_wp2_with fail;refine(vX _ j.a n v1 i.out).mono ?_;rintro e' w1⟨rfl,u⟩;have q1:=u.q2;have x1:Blk w1 w.heap.size 36 #[ae nm,.slice A n c,.slice B p d,.slice C q e]:=((aj _ _ _ (by simp)).alloc _).below u (by simp<;>omega);have y1:Blk w1 (w.heap.size+1) 79 #[ae j.name,.int .i64 j.kind,.int .i64 j.a,.int .i64 j.point,.int .i64 j.b,.int .i64 j.on,.int .i64 j.to_]:=(aj _ _ _ (by simp)).below u (by simp);clear u;cases v1
 ·have M:x=9:=by rw[<-T.out];unfold bC;rw[kl R.out,P.out,kZ i.out]
  go_wp2;go_ret;exact⟨by rw[M];rfl,q1⟩
 have ad:=x1.cell 1;have z:=y1.cell 2;have K:=y1.cell 4;go_wp2_with fail;refine(vX _ j.b n v2 m.out).mono ?_;rintro e' w2⟨rfl,t⟩;have q2:=q1.trans (t.mono q1.size);have x2:=x1.below t x1.lt;have S:=y1.below t y1.lt;clear ad z K t x1 y1;cases v2
 ·have M:x=9:=by rw[<-T.out];unfold bC;rw[kl R.out,P.out,kl (by rw[i.out];decide),kZ m.out]
  go_wp2;go_ret;exact⟨by rw[M];rfl,q2⟩
 obtain⟨an,D,a4⟩:=mP i.out;obtain⟨bn,O,a3⟩:=mP m.out;have HA:=Qh D;have F:=Qh O;have ad:=x2.cell 1;have bs:=S.cell 1;have z:=S.cell 2;have be:=S.cell 3;have K:=S.cell 4;have bo:=S.cell 5;have bg:=S.cell 6;rw[D]at z;rw[O]at K;clear D O;by_cases J:an=bn
 ·have a2:x=13:=by
   rw[<-T.out];unfold bC;rw[kl R.out,P.out,kl (by rw[i.out];decide),kl (by rw[m.out];decide),kZ (by rw[HA.out,F.out,J])]
  subst J;go_wp2;go_ret;exact⟨by rw[a2];rfl,q2⟩
 have bl:((an:Int)==(bn:Int))=false:=it.2 (by omega);obtain⟨g,o,bb,a7,hg,bk,ac,a6⟩:=(H.out.bd q2).at_ a3;subst a7;obtain⟨ab,y,a5⟩:=(H.out.bd q2).rowAt a4;obtain⟨Ab,nb,cb,k0,k1,I,_⟩:=a6;obtain⟨Aa,na,ca,l0,l1,V,_⟩:=a5;have a0:cY L j.a=ab.pts:=by unfold cY;rw[HA.out];show (match L.bodies[an]? with|some b=>b.pts|none=>[])=_;rw[y]
 have U:cY L j.b=bb.pts:=by unfold cY;rw[F.out];show (match L.bodies[bn]? with|some b=>b.pts|none=>[])=_;rw[ac]
 have al:=V.1;have a1:=I.1;have a9:((bn:Nat):Int)<((n:Nat):Int):=by omega
 have a8:((an:Nat):Int)<((n:Nat):Int):=by omega
 obtain⟨v3,Y⟩:∃v,inI j.point na=v:=⟨_,rfl⟩;obtain⟨v4,aT⟩:∃v,inI j.on nb=v:=⟨_,rfl⟩;have l:=Qh Y;have r:=Qh aT;have ba:=Qh I;have N:=Qh a0;have X:=Qh U;have G:=Qh al;have aC:=Qh a1;have E:=Qh (show ¬j.a=j.b by rw[HA.out,F.out];omega);clear Y aT I V a0 U al a1 ac y J;go_wp2_with fail;cases v3
 ·have M:x=9:=by
   rw[<-T.out];unfold bC;rw[kl R.out,P.out,kl (by rw[i.out];decide),kl (by rw[m.out];decide),kl E.out,N.out,G.out,kZ l.out]
  go_quiet ((go_at_call 114;exact zZ (dZ _ j.point na false l.out)));go_wp2;go_ret;exact⟨by rw[M];rfl,af q2 _⟩
 cases v4
 ·have M:x=9:=by
   rw[<-T.out];unfold bC;rw[kl R.out,P.out,kl (by rw[i.out];decide),kl (by rw[m.out];decide),kl E.out,N.out,G.out,kl (by rw[l.out];decide),X.out,aC.out,kZ r.out]
  go_quiet ((go_at_call 114;first|with_reducible exact zZ (dZ _ j.point na true l.out)|with_reducible exact zZ (dZ _ j.on nb false r.out)|fail));go_wp2;go_ret;exact⟨by rw[M];rfl,af q2 _⟩
 have aS:x=(if j.kind=0 then (if j.to_=0 then 0 else 2) else if inI j.to_ nb=false then 9 else if fC bb.pts j.on j.to_=true then 8 else 0):=by
  rw[<-T.out];unfold bC;rw[kl R.out,P.out,kl (by rw[i.out];decide),kl (by rw[m.out];decide),kl E.out,N.out,G.out,kl (by rw[l.out];decide),X.out,aC.out,kl (by rw[r.out];decide)]
 have aZ:=Qh aS;clear aS;by_cases f:j.to_=0
 ·have Q:x=0:=by rw[aZ.out,kZ ao.out,kZ f]
  have t0:(j.to_==0)=true:=xm.2 f;have t1:(j.to_ != 0)=false:=by rw[f];rfl
  clear f;go_quiet ((go_at_call 114;first|with_reducible exact zZ (dZ _ j.point na true l.out)|with_reducible exact zZ (dZ _ j.on nb true r.out)|fail));go_wp2;go_ret;exact⟨by rw[Q];rfl,af q2 _⟩
 have Q:x=2:=by rw[aZ.out,kZ ao.out,kl f]
 have t0:(j.to_==0)=false:=it.2 f;have t1:(j.to_ != 0)=true:=F6.2 f;clear f;go_quiet ((go_at_call 114;first|with_reducible exact zZ (dZ _ j.point na true l.out)|with_reducible exact zZ (dZ _ j.on nb true r.out)|fail));go_wp2;go_ret;exact⟨by rw[Q];rfl,af q2 _⟩
theorem v6(w:World)(A:Option Addr)(n c:Nat)(B:Option Addr)(p d:Nat)(C:Option Addr)(q e:Nat)(nm:List UInt8)(j:bj)(L:am)(k:Nat)(h:SlS (fD k) 2 w A n c L.bodies)(hk:k<=10000000)(t:0<k)(hn:n<=1000)(D:j.kind=1)(x:Int)(hx:bC L j=x):
 Calls Tryz.prog 113 #[.agg #[ae nm,.slice A n c,.slice B p d,.slice C q e],.agg #[ae j.name,.int .i64 j.kind,.int .i64 j.a,.int .i64 j.point,.int .i64 j.b,.int .i64 j.on,.int .i64 j.to_]] w (av w (cd x)):=by
 have e0:(j.kind==0)=false:=it.2 (by rw[D];decide);have e2:(j.kind != 0)=true:=by rw[D];rfl
 have e1:(j.kind==1)=true:=xm.2 D;have e3:(j.kind != 1)=false:=by rw[D];rfl
 have bv:=h.1;have HX:=Qh hx;have HK:=Qh (show ¬(j.kind≠0/\j.kind≠1) by rw[D];decide);have cn:=Qh D;have H:=Qh h;have HL:=Qh bv;obtain⟨v1,bY⟩:∃v,inI j.a n=v:=⟨_,rfl⟩;obtain⟨v2,cc⟩:∃v,inI j.b n=v:=⟨_,rfl⟩;have r:=Qh bY;have E:=Qh cc;clear hx D h bv bY cc;go_in;go_wp2_with fail;refine(vX _ j.a n v1 r.out).mono ?_;rintro e' w1⟨rfl,Y⟩;have q1:=Y.q2;have x1:Blk w1 w.heap.size 36 #[ae nm,.slice A n c,.slice B p d,.slice C q e]:=((aj _ _ _ (by simp)).alloc _).below Y (by simp<;>omega);have y1:Blk w1 (w.heap.size+1) 79 #[ae j.name,.int .i64 j.kind,.int .i64 j.a,.int .i64 j.point,.int .i64 j.b,.int .i64 j.on,.int .i64 j.to_]:=(aj _ _ _ (by simp)).below Y (by simp);clear Y;cases v1
 ·have h9:x=9:=by rw[<-HX.out];unfold bC;rw[kl HK.out,HL.out,kZ r.out]
  go_wp2;go_ret;exact⟨by rw[h9];rfl,q1⟩
 have aS:=x1.cell 1;have R:=y1.cell 2;have X:=y1.cell 4;go_wp2_with fail;refine(vX _ j.b n v2 E.out).mono ?_;rintro e' w2⟨rfl,Q⟩;have q2:=q1.trans (Q.mono q1.size);have x2:=x1.below Q x1.lt;have V:=y1.below Q y1.lt;clear aS R X Q x1 y1;cases v2
 ·have h9:x=9:=by rw[<-HX.out];unfold bC;rw[kl HK.out,HL.out,kl (by rw[r.out];decide),kZ E.out]
  go_wp2;go_ret;exact⟨by rw[h9];rfl,q2⟩
 obtain⟨an,ad,c5⟩:=mP r.out;obtain⟨bn,bk,c6⟩:=mP E.out;have HA:=Qh ad;have a5:=Qh bk;have aS:=x2.cell 1;have dd:=V.cell 1;have R:=V.cell 2;have cL:=V.cell 3;have X:=V.cell 4;have a8:=V.cell 5;have a6:=V.cell 6;rw[ad]at R;rw[bk]at X;clear ad bk;by_cases a9:an=bn
 ·have cy:x=13:=by
   rw[<-HX.out];unfold bC;rw[kl HK.out,HL.out,kl (by rw[r.out];decide),kl (by rw[E.out];decide),kZ (by rw[HA.out,a5.out,a9])]
  subst a9;go_wp2;go_ret;exact⟨by rw[cy];rfl,q2⟩
 have ee:((an:Int)==(bn:Int))=false:=it.2 (by omega);obtain⟨g,o,bb,di,hg,ed,bw,c9⟩:=(H.out.bd q2).at_ c6;subst di;obtain⟨ab,ac,c8⟩:=(H.out.bd q2).rowAt c5;obtain⟨Ab,nb,cb,k0,k1,a0,_⟩:=c9;obtain⟨Aa,na,ca,l0,l1,br,_⟩:=c8;have cv:cY L j.a=ab.pts:=by unfold cY;rw[HA.out];show (match L.bodies[an]? with|some b=>b.pts|none=>[])=_;rw[ac]
 have bo:cY L j.b=bb.pts:=by unfold cY;rw[a5.out];show (match L.bodies[bn]? with|some b=>b.pts|none=>[])=_;rw[bw]
 have T:=br.1;have Z:=a0.1;have ds:((bn:Nat):Int)<((n:Nat):Int):=by omega
 have dr:((an:Nat):Int)<((n:Nat):Int):=by omega
 obtain⟨v3,ck⟩:∃v,inI j.point na=v:=⟨_,rfl⟩;obtain⟨v4,b5⟩:∃v,inI j.on nb=v:=⟨_,rfl⟩;have I:=Qh ck;have M:=Qh b5;have bl:=Qh a0;have bg:=Qh cv;have cj:=Qh bo;have a7:=Qh T;have bz:=Qh Z;have aF:=Qh (show ¬j.a=j.b by rw[HA.out,a5.out];omega);clear ck b5 a0 br cv bo T Z bw ac a9;go_wp2_with fail;cases v3
 ·have h9:x=9:=by
   rw[<-HX.out];unfold bC;rw[kl HK.out,HL.out,kl (by rw[r.out];decide),kl (by rw[E.out];decide),kl aF.out,bg.out,a7.out,kZ I.out]
  go_quiet ((go_at_call 114;exact zZ (dZ _ j.point na false I.out)));go_wp2;go_ret;exact⟨by rw[h9];rfl,af q2 _⟩
 cases v4
 ·have h9:x=9:=by
   rw[<-HX.out];unfold bC;rw[kl HK.out,HL.out,kl (by rw[r.out];decide),kl (by rw[E.out];decide),kl aF.out,bg.out,a7.out,kl (by rw[I.out];decide),cj.out,bz.out,kZ M.out]
  go_quiet ((go_at_call 114;first|with_reducible exact zZ (dZ _ j.point na true I.out)|with_reducible exact zZ (dZ _ j.on nb false M.out)|fail));go_wp2;go_ret;exact⟨by rw[h9];rfl,af q2 _⟩
 have b0:x=(if j.kind=0 then (if j.to_=0 then 0 else 2) else if inI j.to_ nb=false then 9 else if fC bb.pts j.on j.to_=true then 8 else 0):=by
  rw[<-HX.out];unfold bC;rw[kl HK.out,HL.out,kl (by rw[r.out];decide),kl (by rw[E.out];decide),kl aF.out,bg.out,a7.out,kl (by rw[I.out];decide),cj.out,bz.out,kl (by rw[M.out];decide)]
 have cp:=Qh b0;clear b0;obtain⟨v5,b7⟩:∃v,inI j.to_ nb=v:=⟨_,rfl⟩;have U:=Qh b7;clear b7;go_quiet ((go_at_call 114;first|with_reducible exact zZ (dZ _ j.point na true I.out)|with_reducible exact zZ (dZ _ j.on nb true M.out)|fail));go_wp2_with fail;(with_reducible refine(vX _ j.to_ nb v5 U.out).mono ?_);rintro e' l⟨rfl,b8⟩;have O:Below w2.heap.size w2 l:=ag (af (aa _) _) b8;have q3:=q2.trans (O.mono q2.size);have x3:=x2.below O x2.lt;have y3:=V.below O V.lt;clear aS dd R cL X a8 a6 k0 k1 l0 l1 b8 x2 V;cases v5
 ·have hx:x=9:=by rw[cp.out,kl (by rw[cn.out];decide),kZ U.out]
  go_wp2;go_ret;exact⟨by rw[hx];rfl,q3⟩
 obtain⟨on,al,b6⟩:=mP M.out;obtain⟨tn,aC,bu⟩:=mP U.out;have a8:=y3.cell 5;have a6:=y3.cell 6;rw[al]at a8;rw[aC]at a6;obtain⟨g',o',m,cz,eb,dv,hm,hM⟩:=(bl.out.mk_ O).at_ b6;subst cz;obtain⟨G,bF,c0⟩:=(bl.out.mk_ O).rowAt bu;obtain⟨d0,⟨b1,A1,n1,c1,D1,m1,e1,d1,d2,d3,cr⟩,⟨b2,A2,n2,c2,D2,m2,f2,d4,d5,d6,bs⟩,_⟩:=hM;obtain⟨z0,⟨b3,A3,n3,c3,D3,m3,f3,z1,z2,z3,cm⟩,⟨b4,A4,n4,c4,D4,m4,f4,z4,z5,z6,cs⟩,_⟩:=c0;have d2:l.cell? ⟨g',o'+on*7+2,none⟩=some (.slice A1 n1 c1):=d2;have d3:l.cell? ⟨g',o'+on*7+3,none⟩=some (.slice D1 m1 e1):=d3;have d5:l.cell? ⟨g',o'+on*7+5,none⟩=some (.slice A2 n2 c2):=d5;have d6:l.cell? ⟨g',o'+on*7+6,none⟩=some (.slice D2 m2 f2):=d6;have z2:l.cell? ⟨g',o'+tn*7+2,none⟩=some (.slice A3 n3 c3):=z2;have z3:l.cell? ⟨g',o'+tn*7+3,none⟩=some (.slice D3 m3 f3):=z3;have z5:l.cell? ⟨g',o'+tn*7+5,none⟩=some (.slice A4 n4 c4):=z5;have z6:l.cell? ⟨g',o'+tn*7+6,none⟩=some (.slice D4 m4 f4):=z6
 have co:fC bb.pts j.on j.to_=(decide (m.x.q=G.x.q)&&decide (m.y.q=G.y.q)):=by
  unfold fC;rw[al,aC];show (match bb.pts[on]?,bb.pts[tn]? with|some p,some q=>decide (p.x.q=q.x.q)&&decide (p.y.q=q.y.q)|_,_=>false)=_;rw[hm,bF]
 have c7:=Qh co;have bx:=Qh cr;have cu:=Qh bs;have b9:=Qh cm;have cx:=Qh cs;have dO:((on:Nat):Int)<((nb:Nat):Int):=by omega
 have dq:((tn:Nat):Int)<((nb:Nat):Int):=by omega
 obtain⟨s1,i⟩:∃s,lL m.x.q G.x.q=s:=⟨_,rfl⟩;obtain⟨s2,f⟩:∃s,lL m.y.q G.y.q=s:=⟨_,rfl⟩;have J:=Qh i;have K:=Qh f;have ea:w.heap.size<l.heap.size:=x3.lt;have ec:w.heap.size+1<l.heap.size:=y3.lt;clear co cr bs cm cs i f hm bF al aC;go_wp2_with fail
 have hz:∀z:Bool,(decide (m.x.q=G.x.q)&&decide (m.y.q=G.y.q))=z->x=if z=true then 8 else 0:=fun z hz=>by
  rw[cp.out,kl (by rw[cn.out];decide),kl (by rw[U.out];decide),c7.out,hz]
 have HZ:=Qh hz;clear hz;go_region
 ·go_wp2_with fail
  refine(lU _ b1 A1 n1 c1 D1 m1 e1 m.x.q k ?_ b3 A3 n3 c3 D3 m3 f3 G.x.q k ?_ s1 J.out t (by omega) t (by omega)).mono ?_;(exact((bx.out.qz).belw (af ((((aa _).alloc Qr _).alloc (by simp) _)) 1)));(exact((b9.out.qz).belw (af ((((aa _).alloc Qr _).alloc (by simp) _)) 1)));rintro e' w4⟨rfl,F⟩;have W:=(((aj _ _ _ (g:=l.heap.size) (by simp)).alloc _).drew).below F (by simp<;>omega);have S:=((aj _ _ _ (g:=l.heap.size+1) (by simp)).drew).below F (by simp<;>omega);have q4:Below l.heap.size l w4:=(af ((((aa l).alloc Qr _).alloc (by simp) _)) 1).trans (F.mono (by simp<;>omega));have u:=q3.trans (q4.mono q3.size);have T:l.heap.size<w4.heap.size:=W.lt;have Z:l.heap.size+1<w4.heap.size:=S.lt;by_cases i:s1=0
  ·have es:(s1==0)=true:=xm.2 i
   have P:m.x.q=G.x.q:=cH.1 (J.out.trans i);have aT:=Qh P;clear i P;have a3:=W.cell 4;have ao:=W.cell 5;have a2:=W.cell 6;have be:=S.cell 4;have a4:=S.cell 5;have a1:=S.cell 6;go_wp2_with fail;refine(lU _ b2 A2 n2 c2 D2 m2 f2 m.y.q k ?_ b4 A4 n4 c4 D4 m4 f4 G.y.q k ?_ s2 K.out t (by omega) t (by omega)).mono ?_;(exact(cu.out.qz).belw q4);(exact(cx.out.qz).belw q4);rintro e' w5⟨rfl,ba⟩;have q5:=u.trans (ba.mono u.size);clear a3 ao a2 be a4 a1;by_cases f:s2=0
   ·have aZ:(s2==0)=true:=xm.2 f
    have N:m.y.q=G.y.q:=cH.1 (K.out.trans f);have h8:x=8:=HZ.out true (by rw[zO aT.out,zO N];rfl);clear f N;go_wp2;go_ret;exact⟨by rw[h8];rfl,q5⟩
   have aZ:(s2==0)=false:=it.2 f;have h0:x=0:=HZ.out false (by rw[yB (fun e=>f (K.out.symm.trans (cH.2 e)))];simp);clear f;go_wp2;go_ret;exact⟨by rw[h0];rfl,q5⟩
  have es:(s1==0)=false:=it.2 i;have h0:x=0:=HZ.out false (by rw[yB (fun e=>i (J.out.symm.trans (cH.2 e)))];rfl);clear i;go_wp2;go_ret;exact⟨by rw[h0];rfl,u⟩
 go_wp2_with fail;refine(lU _ b1 A1 n1 c1 D1 m1 e1 m.x.q k ?_ b3 A3 n3 c3 D3 m3 f3 G.x.q k ?_ s1 J.out t (by omega) t (by omega)).mono ?_;(exact((bx.out.qz).belw (af ((((aa _).alloc Qr _).alloc (by simp) _)) 1)));(exact((b9.out.qz).belw (af ((((aa _).alloc Qr _).alloc (by simp) _)) 1)));rintro e' w4⟨rfl,F⟩;have W:=(((aj _ _ _ (g:=l.heap.size) (by simp)).alloc _).drew).below F (by simp<;>omega);have S:=((aj _ _ _ (g:=l.heap.size+1) (by simp)).drew).below F (by simp<;>omega);have q4:Below l.heap.size l w4:=(af ((((aa l).alloc Qr _).alloc (by simp) _)) 1).trans (F.mono (by simp<;>omega));have u:=q3.trans (q4.mono q3.size);have T:l.heap.size<w4.heap.size:=W.lt;have Z:l.heap.size+1<w4.heap.size:=S.lt;by_cases i:s1=0
 ·have es:(s1==0)=true:=xm.2 i
  have P:m.x.q=G.x.q:=cH.1 (J.out.trans i);have aT:=Qh P;clear i P;have a3:=W.cell 4;have ao:=W.cell 5;have a2:=W.cell 6;have be:=S.cell 4;have a4:=S.cell 5;have a1:=S.cell 6;go_wp2_with fail;refine(lU _ b2 A2 n2 c2 D2 m2 f2 m.y.q k ?_ b4 A4 n4 c4 D4 m4 f4 G.y.q k ?_ s2 K.out t (by omega) t (by omega)).mono ?_;(exact(cu.out.qz).belw q4);(exact(cx.out.qz).belw q4);rintro e' w5⟨rfl,ba⟩;have q5:=u.trans (ba.mono u.size);clear a3 ao a2 be a4 a1;by_cases f:s2=0
  ·have aZ:(s2==0)=true:=xm.2 f
   have N:m.y.q=G.y.q:=cH.1 (K.out.trans f);have h8:x=8:=HZ.out true (by rw[zO aT.out,zO N];rfl);clear f N;go_wp2;go_ret;exact⟨by rw[h8];rfl,q5⟩
  have aZ:(s2==0)=false:=it.2 f;have h0:x=0:=HZ.out false (by rw[yB (fun e=>f (K.out.symm.trans (cH.2 e)))];simp);clear f;go_wp2;go_ret;exact⟨by rw[h0];rfl,q5⟩
 have es:(s1==0)=false:=it.2 i;have h0:x=0:=HZ.out false (by rw[yB (fun e=>i (J.out.symm.trans (cH.2 e)))];rfl);clear i;go_wp2;go_ret;exact⟨by rw[h0];rfl,u⟩
theorem fP{α:Type}{f:List α->α->Int}:∀(l b:List α),bM f b l=0->∀a∈l,∃p,f p a=0
 |[],_,_=>by simp
 |a::r,b,h=>by
  unfold bM at h;split at h
  ·rename_i c
   intro x d;rcases Gh.1 d with rfl|d
   ·exact⟨_,c⟩
   exact fP r _ h x d
  rename_i c;exact absurd h c
theorem ia{s:List UInt8}(h:bU s=true):s.length<=24:=by
 unfold bU at h;simp at h;omega
def zm(m:aB):Prop:=m.name.length<=24/\m.x.ok=true/\m.y.ok=true
theorem td{p:List aB}{m:aB}(h:bE p m=0):zm m:=by
 unfold bE at h
 repeat' split at h
 all_goals first|omega|skip
 rename_i b d c a;exact⟨ia (by simpa using b),by simpa using c,by simpa using a⟩
def d7(b:aq):Prop:=b.name.length<=24/\b.pts.length<=8/\∀m∈b.pts,zm m
theorem tf{p:List aq}{b:aq}(h:aY p b=0):d7 b:=by
 unfold aY at h;split at h
 ·omega
 rename_i d;split at h
 ·omega
 split at h
 ·omega
 rename_i f;refine⟨ia (by simpa using d),by omega,fun m a=>?_⟩;obtain⟨q,c⟩:=fP _ _ h m a;exact td c
def ur(bs:List aq)(j:bj):Prop:=j.name.length<=24/\∃(a b p o:Nat) (x y:aq) (m1 m2:aB),j.a=(a:Nat)/\j.b=(b:Nat)/\j.point=(p:Nat)/\j.on=(o:Nat)/\bs[a]?=some x/\bs[b]?=some y/\x.pts[p]?=some m1/\y.pts[o]?=some m2 /\
  ((j.kind=0/\j.to_=0)\/(j.kind=1/\∃(t:Nat) (m3:aB),j.to_=(t:Nat)/\y.pts[t]?=some m3))
theorem ll{α:Type}{l:List α}{i:Int}(h:inI i l.length=true):∃(n:Nat) (a:α),i=(n:Nat)/\l[n]?=some a:=by
 obtain⟨n,c,b⟩:=mP h;exact⟨n,l[n],c,sx b⟩
theorem pI{L:am}{i:Int}{n:Nat}{b:aq}(h:i=(n:Nat))(hb:L.bodies[n]?=some b):cY L i=b.pts:=by
 subst h;unfold cY;show (match L.bodies[n]? with|some b=>b.pts|none=>[])=_;rw[hb]
theorem rF{L:am}{p:List bj}{j:bj}(h:aW L p j=0):ur L.bodies j:=by
 unfold aW at h;split at h
 ·omega
 rename_i B;split at h
 ·omega
 refine⟨ia (by simpa using B),?_⟩;unfold bC at h;split at h
 ·omega
 rename_i D;split at h
 ·omega
 rename_i A;split at h
 ·omega
 rename_i hb;split at h
 ·omega
 split at h
 ·omega
 rename_i l;split at h
 ·omega
 rename_i m;obtain⟨a,x,q,o⟩:=ll (by simpa using A);obtain⟨b,y,k,d⟩:=ll (by simpa using hb);rw[pI q o]at l;rw[pI k d]at m;obtain⟨r,w,z,g⟩:=ll (by simpa using l);obtain⟨on,s,u,i⟩:=ll (by simpa using m);refine⟨a,b,r,on,x,y,w,s,q,k,z,u,o,d,g,i,?_⟩;split at h
 ·rename_i n
  split at h
  ·rename_i c;exact Iu ⟨n,c⟩
  omega
 rename_i n;split at h
 ·omega
 rename_i c;rw[pI k d]at c;obtain⟨t,v,C,f⟩:=ll (by simpa using c);exact Or.inr ⟨by omega,t,v,C,f⟩
def rG(bs:List aq)(d:bD):Prop:=d.name.length<=24/\∃(i:Nat) (b:aq),d.body=(i:Nat)/\bs[i]?=some b
theorem pJ{bs:List aq}{p:List bD}{d:bD}(h:aG bs.length p d=0):rG bs d:=by
 unfold aG at h;split at h
 ·omega
 rename_i c;split at h
 ·omega
 split at h
 ·omega
 rename_i hb;obtain⟨i,b,e,a⟩:=ll (by simpa using hb);exact⟨ia (by simpa using c),i,b,e,a⟩
structure EV (L:am):Prop where
  name:L.name.length<=24
  nb:L.bodies.length<=8
  nj:L.joints.length<=16
  nd:L.drivers.length<=2
  b0:0<L.bodies.length
  body:∀b∈L.bodies,d7 b
  joint:∀j∈L.joints,ur L.bodies j
  driver:∀d∈L.drivers,rG L.bodies d
theorem mQ{L:am}(h:bN L=0):EV L:=by
 unfold bN at h;split at h
 ·omega
 rename_i i;split at h
 ·omega
 rename_i k;split at h
 ·omega
 rename_i l;split at h
 ·rename_i f;exact absurd h f
 rename_i f;split at h
 ·omega
 rename_i n;split at h
 ·rename_i c;exact absurd h c
 rename_i c;split at h
 ·omega
 rename_i m;refine⟨ia (by simpa using i),by omega,by omega,by omega,by omega,fun b hb=>?_,fun j g=>?_,fun d hd=>?_⟩
 ·obtain⟨q,a⟩:=fP _ _ (by simpa using f) b hb
  exact tf a
 ·obtain⟨q,a⟩:=fP _ _ (by simpa using c) j g
  exact rF a
 obtain⟨q,a⟩:=fP _ _ h d hd;exact pJ a
def ic(bs:List aq)(i j:Int):List UInt8:=match bs[i.toNat]? with
  |some b=>(match b.pts[j.toNat]? with|some m=>b.name++46::m.name|none=>[])
  |none=>[]
theorem jE{bs:List aq}{i j:Nat}{b:aq}{m:aB}(hb:bs[i]?=some b)(a:b.pts[j]?=some m):ic bs (i:Nat) (j:Nat)=b.name++46::m.name:=by
 unfold ic;show (match bs[i]? with|some b=>(match b.pts[j]? with|some m=>b.name++46::m.name|none=>[])|none=>[])=_;rw[hb];show (match b.pts[j]? with|some m=>b.name++46::m.name|none=>[])=_;rw[a]
def rH(bs:List aq)(i:Int):List UInt8:=match bs[i.toNat]? with|some b=>b.name|none=>[]
theorem ut{bs:List aq}{i:Nat}{b:aq}(hb:bs[i]?=some b):rH bs (i:Nat)=b.name:=by
 unfold rH;show (match bs[i]? with|some b=>b.name|none=>[])=_;rw[hb]
def cM(bs:List aq)(j:bj):List (List UInt8) :=
  if j.kind=1 then [[115,108,105,100,101],j.name,ic bs j.a j.point,ic bs j.b j.on,ic bs j.b j.to_]
  else [[112,105,110],j.name,ic bs j.a j.point,ic bs j.b j.on]
def az(bs:List aq)(j:bj):List UInt8:=iG (cM bs j)++[59,10]
def aO(bs:List aq)(d:bD):List UInt8:=[100,114,105,118,101,114,32]++d.name++[32]++rH bs d.body++[59,10]
def mR(nm:List UInt8):List UInt8:=[108,105,110,107,97,103,101,32]++nm++[59,10]
def bt(b:aq):List UInt8:=gZ b++[10]
def bV(L:am):List UInt8:=mR L.name++L.bodies.flatMap bt++L.joints.flatMap (az L.bodies)++L.drivers.flatMap (aO L.bodies)
def aI(L:am):Int:=if bN L≠0 then bN L else if j6 L.bodies=true\/65536<(bV L).length then 4 else 0
def bL(L:am):List UInt8:=if aI L=0 then bV L else []
theorem dJ{α:Type}(f:α->List UInt8)(K:Nat):∀(l:List α),(∀a∈l,(f a).length<=K)->(l.flatMap f).length<=K*l.length
 |[],_=>by simp
 |a::l,h=>by
  have c:=h a (by simp);have d:=dJ f K l fun x b=>h x (by simp[b])
  simp only[G0,kc,oP,Nat.mul_add,Nat.mul_one];omega
theorem pK{b:aq}(hb:b.name.length<=24)(a:b.pts.length<=8)(h:∀m∈b.pts,jB m):(bt b).length<=180000:=by
 have:=jC h;unfold bt gZ;simp only[kc,oP,Gm];omega
theorem lm{bs:List aq}{i j:Int}(h:∀b∈bs,d7 b):(ic bs i j).length<=49:=by
 unfold ic;split
 ·rename_i b hb
  have a:=h b (pk hb);split
  ·rename_i m c
   have d:=a.2.2 m (pk c);have:=a.1;have:=d.1;simp only[kc,oP];omega
  simp
 simp
theorem wi{bs:List aq}{i:Int}(h:∀b∈bs,d7 b):(rH bs i).length<=24:=by
 unfold rH;split
 ·rename_i b hb
  exact(h b (pk hb)).1
 simp
theorem gH{bs:List aq}{j:bj}(h:∀b∈bs,d7 b)(c:j.name.length<=24):(az bs j).length<=200:=by
 have f:=lm h (i:=j.a) (j:=j.point);have d:=lm h (i:=j.b) (j:=j.on);have g:=lm h (i:=j.b) (j:=j.to_);unfold az cM;split
 ·simp only[iG,kc,oP,Gm]
  omega
 simp only[iG,kc,oP,Gm];omega
theorem iY{bs:List aq}{d:bD}(h:∀b∈bs,d7 b)(hd:d.name.length<=24):(aO bs d).length<=60:=by
 have a:=wi h (i:=d.body);unfold aO;simp only[kc,oP,Gm];omega
theorem pL{α:Type}{f:List α->α->Int}:∀(l b:List α),bM f b l=0->∀(i:Nat) (a:α),l[i]?=some a->f (b++l.take i) a=0
 |[],_,_,i,a,ha=>by simp at ha
 |x::r,b,h,i,a,ha=>by
  unfold bM at h;split at h
  ·rename_i c
   cases i with
   |zero=>simp at ha;subst ha;simpa using c
   |succ i =>
    have d:=pL r _ h i a (by simpa using ha);simpa using d
  rename_i c;exact absurd h c
theorem uu{α:Type}{nm:α->List UInt8}{l:List α}(h:∀(i:Nat) (a:α),l[i]?=some a->twN ((l.take i).map nm) (nm a)=false){i j:Nat}{a b:α}(d:l[i]?=some a)(hb:l[j]?=some b)(e:nm a=nm b):i=j:=by
 rcases Nat.lt_trichotomy i j with c|c|c
 ·have:=eS d c e
  rw[h j b hb]at this;cases this
 ·exact c
 have:=eS hb c e.symm;rw[h i a d]at this;cases this
structure MkF (m:aB):Prop where
  name:bU m.name=true
  x:m.x.ok=true
  y:m.y.ok=true
theorem pM{p:List aB}{m:aB}(h:bE p m=0):MkF m/\twN (p.map aB.name) m.name=false:=by
 unfold bE at h
 repeat' split at h
 all_goals first|omega|skip
 rename_i c a d b;exact⟨⟨by simpa using c,by simpa using d,by simpa using b⟩,by simpa using a⟩
structure BdF (b:aq):Prop where
  name:bU b.name=true
  pts:∀m∈b.pts,MkF m
  dist:∀ {i j:Nat}{m m':aB},b.pts[i]?=some m->b.pts[j]?=some m'->m.name=m'.name->i=j
theorem pN{p:List aq}{b:aq}(h:aY p b=0):BdF b/\twN (p.map aq.name) b.name=false:=by
 unfold aY at h;split at h
 ·omega
 rename_i l;split at h
 ·omega
 rename_i g;split at h
 ·omega
 have f:∀(i:Nat) (a:aB),b.pts[i]?=some a->MkF a/\twN ((b.pts.take i).map aB.name) a.name=false:=fun i a d=>pM (by simpa using pL _ _ h i a d)
 refine⟨⟨by simpa using l,fun m c=>?_,fun {i j m n}=>uu fun i a d=>(f i a d).2⟩,by simpa using g⟩;obtain⟨i,k,e⟩:=Hb c;exact(f i m (by rw[sx k,e])).1
structure LkF (L:am):Prop where
  ok:EV L
  name:bU L.name=true
  body:∀b∈L.bodies,BdF b
  dist:∀ {i j:Nat}{a b:aq},L.bodies[i]?=some a->L.bodies[j]?=some b->a.name=b.name->i=j
  joint:∀j∈L.joints,bU j.name=true
  driver:∀d∈L.drivers,bU d.name=true
theorem tg{L:am}(h:bN L=0):LkF L:=by
 have f:=mQ h;unfold bN at h;split at h
 ·omega
 rename_i r;split at h
 ·omega
 split at h
 ·omega
 split at h
 ·rename_i n;exact absurd h n
 rename_i n;split at h
 ·omega
 split at h
 ·rename_i g;exact absurd h g
 rename_i g;split at h
 ·omega
 have hb:∀(i:Nat) (a:aq),L.bodies[i]?=some a->BdF a/\twN ((L.bodies.take i).map aq.name) a.name=false:=fun i a m=>pN (by have:=pL _ _ (Decidable.not_not.1 n) i a m;rwa[Gf]at this)
 refine⟨f,by simpa using r,fun b l=>?_,fun {i j a b}=>uu fun i a m=>(hb i a m).2,fun j p=>?_,fun d hd=>?_⟩
 ·obtain⟨i,o,e⟩:=Hb l
  exact(hb i b (by rw[sx o,e])).1
 ·obtain⟨q,c⟩:=fP _ _ (by simpa using g) j p
  unfold aW at c;split at c
  ·omega
  rename_i k;simpa using k
 obtain⟨q,c⟩:=fP _ _ h d hd;unfold aG at c;split at c
 ·omega
 rename_i k;simpa using k
/-! Lines. -/
def lN(h:Nat)(c:UInt8):Nat:=((h ^^^ c.toNat)*16777619)%4294967296
def gI(t:List UInt8):Nat:=t.foldl lN 2166136261
theorem BQ(h:Nat)(c:UInt8):lN h c<4294967296:=by unfold lN;omega
theorem pO:∀(t:List UInt8) (b:Nat),b<4294967296->t.foldl lN b<4294967296
 |[],_,h=>h
 |c::t,b,_=>by rw[Hd];exact pO t _ (BQ b c)
theorem pQ(t:List UInt8):gI t<4294967296:=by unfold gI;exact pO t _ (by omega)
theorem rI{t:List UInt8}{i:Nat}{c:UInt8}(h:t[i]?=some c)(b:Nat):(t.take (i+1)).foldl lN b=lN ((t.take i).foldl lN b) c:=by
 rw[FV,h,List.foldl_append];generalize (t.take i).foldl lN b=x;rw[Option.toList_some,Hd,List.foldl_nil]
def rJ(k:Nat):UInt8:=UInt8.ofNat (if k<10 then 48+k else 87+k)
def fE:Nat->Nat->List UInt8
  |0,_=>[]
  |k+1,n=>fE k (n/16)++[rJ (n%16)]
theorem kM:∀k n,(fE k n).length=k
 |0,_=>rfl
 |k+1,n=>by rw[fE,kc,kM k];rfl
theorem kh:∀k n,fE (k+1) n=rJ (n/16^k%16)::fE k n
 |0,n=>by simp[fE]
 |k+1,n=>by
  rw[fE,kh k (n/16),fE,Nat.div_div_eq_div_mul,show 16*16^k=16^(k+1) by rw[Nat.pow_succ,Nat.mul_comm]];rfl
theorem oJ(n:Nat):∀d k,n<16^k->fE (d+k) n=List.replicate d 48++fE k n
 |0,k,_=>by simp
 |d+1,k,h=>by
  have a:n/16^(d+k)=0:=Nat.div_eq_of_lt (Nat.lt_of_lt_of_le h (Nat.pow_le_pow_right (by decide) (by omega)));rw[show d+1+k=d+k+1 by omega,kh,a,oJ n d k h,GD];rfl
def jV(n:Nat):List UInt8:=fE 8 n
theorem rK(n:Nat):(jV n).length=8:=kM 8 n
theorem zo{n k:Nat}(h:n<16^k)(a:k<=8):List.replicate (8-k) 48++fE k n=jV n:=by
 rw[<-oJ n (8-k) k h,show 8-k+k=8 by omega];rfl
theorem jF(n:Int):IntKind.u32.wrap n=n%4294967296:=by simp[IntKind.wrap,IntKind.signed,IntKind.bits]
theorem ln(a b:Nat)(f:a<4294967296)(hb:b<4294967296):bits .xor .u32 (a:Int) (b:Int)=((a ^^^ b:Nat):Int):=by
 have g:a ^^^ b<2^32:=Nat.xor_lt_two_pow (by omega) (by omega)
 have d:(BitVec.ofInt 32 (a:Int)).toNat=a:=by
  rw[G9,He];exact Nat.mod_eq_of_lt (by omega)
 have c:(BitVec.ofInt 32 (b:Int)).toNat=b:=by
  rw[G9,He];exact Nat.mod_eq_of_lt (by omega)
 show IntKind.u32.wrap ((BitVec.ofInt 32 (a:Int) ^^^ BitVec.ofInt 32 (b:Int)).toNat:Int)=_;rw[BitVec.toNat_xor,d,c,jF];omega
theorem mT(a:Nat)(d:a<4294967296):bits .and .u32 (a:Int) 15=((a%16:Nat):Int):=by
 have b:(BitVec.ofInt 32 (a:Int)).toNat=a:=by
  rw[G9,He];exact Nat.mod_eq_of_lt (by omega)
 have c:a &&& 15=a%16:=Nat.and_two_pow_sub_one_eq_mod a 4;show IntKind.u32.wrap ((BitVec.ofInt 32 (a:Int) &&& BitVec.ofInt 32 15).toNat:Int)=_;rw[BitVec.toNat_and,b,show (BitVec.ofInt 32 15).toNat=15 by decide,c,jF];omega
theorem nN(a:Nat)(d:a<4294967296):bits .and .u64 (a:Int) 15=((a%16:Nat):Int):=by
 have b:(BitVec.ofInt 64 (a:Int)).toNat=a:=by
  rw[G9,He];exact Nat.mod_eq_of_lt (by omega)
 have c:a &&& 15=a%16:=Nat.and_two_pow_sub_one_eq_mod a 4;show IntKind.u64.wrap ((BitVec.ofInt 64 (a:Int) &&& BitVec.ofInt 64 15).toNat:Int)=_;rw[BitVec.toNat_and,b,show (BitVec.ofInt 64 15).toNat=15 by decide,c];simp[IntKind.wrap,IntKind.signed,IntKind.bits];omega
theorem uw{h:Nat}(a:h<4294967296)(c:UInt8):bits .xor .u32 (h:Int) ((c.toNat:Nat):Int)*16777619%4294967296=((lN h c:Nat):Int):=by
 have b:c.toNat<256:=c.toNat_lt;rw[ln _ _ a (by omega)];unfold lN;omega
theorem zp(w:World)(s:List UInt8)(C:Nat)(t:TypeId)(fr:Nat × Nat){j:Nat}{c:UInt8}(h:s[j]?=some c):(w.drew.alloc (.cells (bytesRow ⟨s.toArray⟩ C) t fr)).cell? ⟨w.heap.size,j,none⟩=some (.int .u8 ((c.toNat:Nat):Int)):=by
 have e:w.drew.heap.size=w.heap.size:=rfl;have a:=(ts.1 h);rw[<-e,World.cell?_alloc_mark,bytesRow_at _ _ _ (by simpa using a.1)];simp[a.2]
theorem rL(w:World)(o:Obj):Below w.heap.size w (w.drew.alloc o):=(af (aa w) 1).alloc Qr _
theorem ux(w:World)(s:List UInt8)(t:s.length<9223372036854775808):Calls Tryz.prog 25 #[ae s] w (av w (.int .u32 (gI s:Nat))):=by
 have o:=ah s;have p:=fun w:World=>run_bytes_of_string (P:=Tryz.prog) w 9 47 5 ⟨s.toArray⟩ Tryz.underlying9 Tryz.underlying47 Tryz.underlying5
 go_in;go_wp2_with fail;go_loopw [3,9] (fun d l wr=>∃i:Nat,d=.int .u32 (((s.take i).foldl lN 2166136261:Nat):Int)/\l=.int .i64 (i:Nat)/\i<=s.length/\Below w.heap.size w wr/\Hid (∀j c,s[j]?=some c->wr.cell? ⟨w.heap.size,j,none⟩=some (.int .u8 ((c.toNat:Nat):Int)))) (fun _ l _=>s.length-(intOf l).toNat)
 case atStart=>exact⟨0,rfl,rfl,Nat.zero_le _,rL _ _,Qh fun j c h=>zp _ _ _ _ _ h⟩
 case round =>
  obtain⟨i,rfl,rfl,u,hb,n⟩:=hrel;rename World=>wa;rcases Nat.lt_or_ge i s.length with k|f
  ·have g:((i:Int)<(s.length:Int))=True:=by simp;omega
   obtain⟨c,m⟩:∃c,s[i]?=some c:=⟨_,sx k⟩;have c0:=n.out i c m;have a:=rI m 2166136261;have d:=uw (pO (s.take i) 2166136261 (by omega)) c;rw[<-a]at d;have r:IntKind.u32.wrap ((c.toNat:Nat):Int)=((c.toNat:Nat):Int):=by rw[jF];have:=c.toNat_lt;omega
   have q:=Qh d;clear a d m;go_wp2_with fail;go_roundw
   case rel=>exact⟨i+1,by rw[q.out],by go_num,by omega,hb,n⟩
   case measure=>simp[intOf];omega
  have g:((i:Int)<(s.length:Int))=False:=by simp;omega
  have b:s.take i=s:=ms f;rw[b];clear b;go_wp2;go_ret;exact⟨rfl,hb⟩
theorem CO(w:World)(s:List UInt8)(r:s.length<9223372036854775808):Calls Tryz.prog 26 #[ae s] w (av w (.int .u32 (gI s:Nat))):=by
 have q:=ah s;go_in;go_wp2_with fail;go_loopw [3,4] (fun d k wr=>∃i:Nat,d=.int .u32 (((s.take i).foldl lN 2166136261:Nat):Int)/\k=.int .i64 (i:Nat)/\i<=s.length/\Below w.heap.size w wr) (fun _ k _=>s.length-(intOf k).toNat)
 case atStart=>exact⟨0,rfl,rfl,Nat.zero_le _,aa w⟩
 case round =>
  obtain⟨i,rfl,rfl,t,hb⟩:=hrel;rename World=>wa;rcases Nat.lt_or_ge i s.length with j|f
  ·have g:((i:Int)<(s.length:Int))=True:=by simp;omega
   have n:(0:Int)<=((i:Nat):Int):=by omega
   obtain⟨c,l⟩:∃c,s[i]?=some c:=⟨_,sx j⟩;have m:∀h,(⟨s.toArray⟩:ByteArray)[i]' h=c:=fun h=>(ts.1 l).2
   have b:=rI l 2166136261;have d:=uw (pO (s.take i) 2166136261 (by omega)) c;rw[<-b]at d;have p:IntKind.u32.wrap ((c.toNat:Nat):Int)=((c.toNat:Nat):Int):=by rw[jF];have:=c.toNat_lt;omega
   have o:=Qh d;clear b d l;go_wp2_with fail;go_roundw
   case rel=>exact⟨i+1,by rw[o.out],by go_num,by omega,hb⟩
   case measure=>simp[intOf];omega
  have g:((i:Int)<(s.length:Int))=False:=by simp;omega
  have a:s.take i=s:=ms f;rw[a];clear a;go_wp2;go_ret;exact⟨rfl,hb⟩
theorem BR:∀d,d<16->(⟨#[48,49,50,51,52,53,54,55,56,57,97,98,99,100,101,102]⟩:ByteArray).extract d (d+1)=⟨[rJ d].toArray⟩:=by
 intro d hd;rw[show (⟨#[48,49,50,51,52,53,54,55,56,57,97,98,99,100,101,102]⟩:ByteArray)=⟨[48,49,50,51,52,53,54,55,56,57,97,98,99,100,101,102].toArray⟩ from rfl,dc];have h:∀d:Fin 16,(([48,49,50,51,52,53,54,55,56,57,97,98,99,100,101,102]:List UInt8).drop d.1).take (d.1+1-d.1)=[rJ d.1]:=by decide
 rw[h ⟨d,hd⟩]
theorem BS(d:Nat)(hd:d<16):∀h,(⟨#[48,49,50,51,52,53,54,55,56,57,97,98,99,100,101,102,103,104,105,106,107,108,109,110,111,112,113,114,115,116,117,118,119,120,121,122]⟩:ByteArray)[d]' h=rJ d:=by
 intro h;have a:∀d:Fin 16,([48,49,50,51,52,53,54,55,56,57,97,98,99,100,101,102,103,104,105,106,107,108,109,110,111,112,113,114,115,116,117,118,119,120,121,122]:List UInt8)[d.1]?=some (rJ d.1):=by decide
 exact(ts.1 (a ⟨d,hd⟩)).2
theorem EW(m:Nat):(16:Nat)^m=2^(4*m):=by rw[Nat.pow_mul]
theorem EX(w:World)(n:Nat)(N:n<4294967296):Calls Tryz.prog 34 #[.int .u32 (n:Nat)] w (av w (ae (jV n))):=by
 go_in;go_wp2_with fail;go_loopw [3,4] (fun G q wr=>∃(j:Nat) (O:List UInt8),G=ae O/\q=.int .i64 (28-4*(j:Int))/\j<=8/\Hid (fE j (n/16^(8-j))=O)/\Below w.heap.size w wr) (fun _ q _=>(intOf q+4).toNat)
 case atStart=>exact⟨0,[],rfl,rfl,Nat.zero_le _,Qh rfl,aa w⟩
 case round =>
  obtain⟨j,O,rfl,rfl,P,g,hb⟩:=hrel;rename World=>wa;rcases Nat.lt_or_ge j 8 with v|u
  ·obtain⟨y,r⟩:∃y:Nat,28-4*j=y:=⟨_,rfl⟩
   have a:(28-4*(j:Int))=(y:Int):=by omega
   rw[a];have s:y<=28:=by omega
   have K:((0:Int)<=(y:Int))=True:=by simp
   obtain⟨m,k⟩:=Z9 (n/2^y);have p:m<=n:=by rw[<-k];exact Nat.div_le_self _ _
   have H:(n:Int)/2^y=(m:Int):=by rw[<-k];simp
   obtain⟨d,hd⟩:=Z9 (m%16);have f:d<16:=by omega
   have l:=mT m (by omega);rw[hd]at l;have J:((d:Int)+1)%4294967296=(d:Int)+1:=by omega
   have B:((d:Int)+1).toNat=d+1:=by omega
   have I:=BR d f;obtain⟨D,i⟩:=Z9 ([rJ d]);rw[i]at I
   have c:fE (j+1) (n/16^(8-(j+1)))=O++D:=by
    have x:8-j=(8-(j+1))+1:=by omega
    rw[fE,<-i,<-hd,<-k,<-r,<-g.out,x,Nat.div_div_eq_div_mul,<-Nat.pow_succ,EW (8-(j+1)),show 4*(8-(j+1))=28-4*j by omega]
   have F:O.length=j:=by rw[<-g.out,kM]
   have z:D.length=1:=by rw[<-i];rfl
   obtain⟨C,h⟩:∃t,O++D=t:=⟨_,rfl⟩;have o:=lG O D;rw[h]at o c;have A:(9223372036854775807<O.length+D.length)=False:=oK (by omega);have M:=ah O;have L:=ah D;have b:=Qh c;have E:=Qh a;clear c i k hd h p g r a;go_wp2_with fail;go_roundw
   case rel=>exact⟨j+1,C,rfl,by have:=E.out;first|go_num|(congr 1;omega),by omega,b,hb⟩
   case measure=>simp[intOf];omega
  obtain rfl:j=8:=by omega
  have c:fE 8 n=O:=by have:=g.out;simpa using this
  have b:=Qh c;clear c g;go_wp2;go_ret;exact⟨by rw[<-b.out];rfl,hb⟩
def T64(w:World):Prop:=w.cell? ⟨7,15,none⟩=some (.int .u8 4)
theorem T64.belw{w a:World}(h:T64 w)(hb:Below w.heap.size w a):T64 a:=(hb.cell (p:=⟨7,15,none⟩) (Ga w _ h)).trans h
theorem FL(w:World)(a:T64 w):Calls Tryz.prog 219 #[.int .u64 16] w (fun e b=>e=.returned (.int .i64 4)/\b=w):=by
 have c:IntKind.u64.wrap (bits .and .u64 16 (IntKind.u64.wrap (-16))*285870213051353865)/288230376151711744=15:=by decide
 have c0:w.cell? ⟨7,15,none⟩=some (.int .u8 4):=a;clear a;go_in;go_wp2;go_ret;exact⟨rfl,rfl⟩
theorem FM(w:World)(a:T64 w):Calls Tryz.prog 180 #[.int .u64 16] w (fun e b=>e=.returned (.int .i64 4)/\b=w):=by
 go_in;go_wp2_with fail;refine(FL w a).mono ?_;rintro d c⟨rfl,rfl⟩;go_wp2;go_ret;exact⟨rfl,rfl⟩
theorem BT(w:World):Calls Tryz.prog 179 #[.int .i64 16] w (fun e a=>e=.returned (.bool true)/\a=w):=by
 have b:bits .and .i64 16 15=0:=by decide
 go_in;go_wp2;go_ret;exact⟨rfl,rfl⟩
def th(D:List UInt8):Array Value:=(D.map fun c=>Value.int .u8 ((c.toNat:Nat):Int)).toArray
theorem rM{D:List UInt8}{i:Nat}{c:UInt8}(h:D[i]?=some c):(th D)[i]?=some (.int .u8 ((c.toNat:Nat):Int)):=by unfold th;simp[h]
theorem zr(D:List UInt8)(i:Nat)(c:UInt8):(th D).setIfInBounds i (.int .u8 ((c.toNat:Nat):Int))=th (D.set i c):=by unfold th;simp[List.map_set]
theorem rN{D:List UInt8}{m:Nat}(h:m<D.length)(c:UInt8):(D.set m c).drop m=c::D.drop (m+1):=by
 rw[Gp (by simpa using h),List.getElem_set_self,List.drop_set_of_lt (Nat.lt_succ_self m)]
theorem ww(n:Nat)(h:n<4294967296):IntKind.u64.wrap (n:Int)=(n:Int):=by simp[IntKind.wrap,IntKind.signed,IntKind.bits];omega
theorem DJ(w:World)(n:Nat)(hn:n<4294967296)(a:T64 w):Calls Tryz.prog 140 #[.slice none 0 0,.int .u64 (n:Nat),.int .i64 16,.bool false,.bool false] w (fun e w'=>∃k,k<=8/\n<16^k/\e=.returned (.tuple #[.slice none 0 0,ae (fE k n)])/\Below w.heap.size w w'):=by
 have r:=Qh a;clear a;go_in;have s:Below w.heap.size w (w.alloc (.cells Tryz.zeroCells215 215)):=(aa w).alloc Qr _;have x0:Blk (w.alloc (.cells Tryz.zeroCells215 215)) w.heap.size 215 (th (List.replicate 65 0)):=aj _ _ _ (by kernel_rfl);go_wp2_with fail;generalize (w.alloc (.cells Tryz.zeroCells215 215))=w0 at s x0⊢;refine(BT w0).mono ?_;rintro e' w1⟨rfl,rfl⟩;go_wp2_with fail;refine(FM w1 (r.out.belw s)).mono ?_;rintro e' w2⟨rfl,rfl⟩;go_wp2_with fail;go_loopw [1,13] (fun G Z wr=>∃(k:Nat) (D:List UInt8),G=.int .u64 ((n/16^k:Nat):Int)/\Z=.int .i64 ((65-k:Nat):Int)/\k<=7/\D.length=65/\Hid (D.drop (65-k)=fE k n)/\Blk wr w.heap.size 215 (th D)/\Below w.heap.size w wr) (fun G _ _=>(intOf G).toNat)
 case atStart=>exact⟨0,List.replicate 65 0,by simp,rfl,by omega,by simp,Qh (by simp[fE]),x0,s⟩
 case round =>
  clear x0 s;obtain⟨k,D,rfl,rfl,hk,K,T,u,hb⟩:=hrel;rename World=>wa;obtain⟨U,p⟩:=Z9 (n/16^k);obtain⟨m,R⟩:=Z9 (64-k);have ad:U<=n:=by rw[<-p];exact Nat.div_le_self _ _
  have B:((65-k:Nat):Int)=(m:Int)+1:=by omega
  have ac:IntKind.i64.wrap ((m:Int)+1-1)=(m:Int):=by rw[GV];omega
  have M:m<65:=by omega
  have ab:w.heap.size<wa.heap.size:=u.lt;obtain⟨c0,b⟩:∃c,D[m]?=some c:=⟨_,sx (by omega)⟩;have cm:wa.cell? ⟨w.heap.size,m,none⟩=some (.int .u8 ((c0.toNat:Nat):Int)):=by rw[u.cell m];exact rM b
  rw[B,p];obtain⟨d,hd⟩:=Z9 (U%16);have l:d<16:=by omega
  have v:=BS d l;obtain⟨x,A⟩:=Z9 (rJ d);rw[A]at v;have f:=u.set_at m (.int .u8 ((x.toNat:Nat):Int)) _ (zr D m x)
  have q:(D.set m x).drop m=fE (k+1) n:=by
   rw[rN (by omega),show m+1=65-k by omega,T.out,kh,p,hd,A]
  have fm:wa.frozen? ⟨w.heap.size,m,none⟩=false:=u.frozen m;have V:=Qh f;have N:=Qh q;have H:=Qh p;have J:=Qh R;clear q f b T A p R;by_cases h16:16<=U
  ·have z:((16:Int)<=(U:Int))=True:=xr (by omega)
   have C:=nN U (by omega);rw[hd]at C;have S:(d:Int)<36:=by omega
   have F:k+1<=7:=by
    rcases Nat.lt_or_ge 6 k with h|h
    ·have:k=7:=by omega
     subst this;have:=H.out;omega
    omega
   go_wp2_with fail;go_roundw
   case rel=>exact⟨k+1,D.set m x,by rw[<-H.out,Nat.pow_succ,<-Nat.div_div_eq_div_mul];simp,by congr 1;have:=J.out;omega,F,by simpa using K,by rw[show 65-(k+1)=m by have:=J.out;omega];exact N,V.out,hb.setCell Qr _⟩
   case measure=>simp[intOf];omega
  have z:((16:Int)<=(U:Int))=False:=oK (by omega);obtain rfl:U=d:=by omega
  have L:(m:Int)<=65:=by omega
  have W:(65=m)=False:=oK (by omega);obtain⟨E,t⟩:=Z9 ((D.set m x).drop m);have o:E.length=65-m:=by rw[<-t,vu,xv,K]
  have O:=V.out;have i:fE (k+1) n=E:=N.out.symm.trans t
  have I:=run_convert_bytes_back (P:=Tryz.prog) (wa.setCell ⟨w.heap.size,m,none⟩ (.int .u8 ((x.toNat:Nat):Int))) 47 9 5 ⟨w.heap.size,m,none⟩ (65-m) E Tryz.underlying47 Tryz.underlying5 Tryz.underlying9 (fun j Y=>by
   rw[show (⟨w.heap.size,m,none⟩:Addr).add j=⟨w.heap.size,m+j,none⟩ by simp[Addr.add],O.cell (m+j)];refine rM ?_;rw[<-List.getElem?_drop,t]
   exact sx Y)
  rw[o]at I
  have g:n<16^(k+1):=by
   have h1:=H.out;have X:=(Nat.div_lt_iff_lt_mul (x:=n) (y:=16) (Nat.pow_pos (n:=k) (by decide:0<16))).1 (by omega);rw[Nat.pow_succ,Nat.mul_comm];exact X
  have Q:=Qh (And.intro i g);clear t o i g O;go_wp2_with fail;go_ret2;exact⟨k+1,by omega,Q.out.2,by rw[Q.out.1];rfl,hb.setCell Qr _⟩
theorem DK(w:World)(n:Nat)(f:n<4294967296)(a:T64 w):Calls Tryz.prog 103 #[.int .u64 (n:Nat),.int .i64 16] w (fun e d=>∃k,k<=8/\n<16^k/\e=.returned (ae (fE k n))/\Below w.heap.size w d):=by
 go_in;go_wp2_with fail;refine(DJ w n f a).mono ?_;rintro h g⟨k,c,b,rfl,hb⟩;go_wp2;go_ret;exact⟨k,c,b,rfl,hb⟩
theorem EY(w:World)(n:Nat)(f:n<4294967296)(a:T64 w):Calls Tryz.prog 64 #[.int .u64 (n:Nat),.int .i64 16] w (fun e d=>∃k,k<=8/\n<16^k/\e=.returned (ae (fE k n))/\Below w.heap.size w d):=by
 go_in;go_wp2_with fail;refine(DK w n f a).mono ?_;rintro h g⟨k,c,b,rfl,hb⟩;go_wp2;go_ret;exact⟨k,c,b,rfl,hb⟩
theorem EZ(w:World)(z:Int)(j:Nat)(c:z=j)(a:j<1000000)(d:List UInt8)(hd:List.replicate j 48=d):Calls Tryz.prog 65 #[.string ⟨#[48]⟩,.int .i64 z] w (av w (ae d)):=by
 have b:∀k,Lib.repeatL [48] k=List.replicate k 48:=fun k=>by
  induction k with
  |zero=>rfl
  |succ k ih=>rw[Lib.repeatL,ih,GD];rfl
 exact mA w z j d c a ((b j).trans hd)
theorem CP(w:World)(n:Nat)(h:n<4294967296)(b:T64 w):Calls Tryz.prog 30 #[.int .u32 (n:Nat)] w (av w (ae (jV n))):=by
 have i:=ww n h;go_in;go_wp2_with fail;refine(EY w n h b).mono ?_;rintro o j⟨k,l,c,rfl,hb⟩;have a:=zo c l;obtain⟨X,d⟩:=Z9 (fE k n);obtain⟨Z,hZ⟩:=Z9 (List.replicate (8-k) (48:UInt8));have m:X.length=k:=by rw[<-d,kM]
 have s:Z.length=8-k:=by rw[<-hZ,List.length_replicate]
 rw[d,hZ]at a;rw[d];have t:=ah X;have v:=ah Z;have q:=lG Z X;rw[a]at q;have u:(9223372036854775807<Z.length+X.length)=False:=oK (by omega);have p:IntKind.i64.wrap (8-(X.length:Int))=((8-k:Nat):Int):=by rw[GV];omega
 have r:=Qh hZ;clear d a c hZ;go_wp2_with fail;refine(EZ j _ (8-k) ?_ (by omega) Z r.out).mono ?_;(first|rfl|omega);rintro o x⟨rfl,f⟩;have g:=ag hb f;go_wp2;go_ret;exact⟨rfl,g⟩
end Go.Proofs.YtfilnhompchciaaGreatDoor
