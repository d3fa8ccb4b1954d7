import Derived.Test.YtfilnhompchciaaGreatDoorUZ7
set_option linter.unusedVariables false
set_option linter.unusedSimpArgs false
set_option maxHeartbeats 8000000
set_option maxRecDepth 100000
/- Walks: the reference of packages: one. -/
namespace Go.Proofs.YtfilnhompchciaaGreatDoor
open Go Go.RowKit Bn
attribute [local go_sem ↓] Go.wp_at_zero Go.wp_at_succ
def uR(m:Nat)(X N:List UInt8)(x:Int)(L:am)(R:List UInt8):Prop :=
  (N.length<m/\x=18/\L=L0/\R=[]) \/
    (m<=N.length/\jV (gI (N.take m))≠X/\x=14/\L=L0/\R=[]) \/
    (m<=N.length/\jV (gI (N.take m))=X/\∃y M,cE (N.take m) y M /\
      ((y≠0/\x=y/\L=L0/\R=[])\/(y=0/\(aI M≠0\/bV M≠N.take m)/\x=2/\L=L0/\R=[])\/(y=0/\aI M=0/\bV M=N.take m/\x=0/\L=M/\R=N.drop m)))
theorem Ea{T:List UInt8}(h:10<=T.length):∃a X b N,X.length=8/\T=a::(X++b::N):=by
 match T,h with
 |a::T,h =>
  rw[oP]at h;refine⟨a,T.take 8,T[8],T.drop 9,by rw[vq];omega,?_⟩;rw[<-Gp (by omega),GX]
theorem Eb{S:List UInt8}{x:Int}{L:am}{R:List UInt8}(d:∀(m:Nat) c Q,m<=99999->aU c=false->S=Lib.itoa (m:Int)++c::Q->False)(h:lA S x L R):x=2:=by
 rcases h with⟨_,h,_⟩|⟨m,X,N,⟨a,_,_,b⟩,_⟩
 ·exact h
 exact(d m 32 _ a (by decide) b).elim
theorem Ec{S T:List UInt8}{x:Int}{L:am}{R:List UInt8}{n:Nat}(l:n<=99999)(e:S=Lib.itoa (n:Int)++T)(r:∀(m:Nat) c Q,m<=99999->aU c=false->S=Lib.itoa (m:Int)++c::Q->n=m/\T=c::Q)(h:lA S x L R):
 (T.length<10/\x=2)\/∃a X b N,X.length=8/\T=a::(X++b::N)/\((¬(a=32/\(∀c∈X,gK.contains c=true)/\b=10)/\x=2)\/(a=32/\(∀c∈X,gK.contains c=true)/\b=10/\uR n X N x L R)):=by
 rcases h with⟨f,i,_⟩|⟨m,X,N,⟨o,d,g,q⟩,k⟩
 ·by_cases h10:10<=T.length
  ·obtain⟨a,X,b,N,d,j⟩:=Ea h10
   exact .inr ⟨a,X,b,N,d,j,.inl ⟨fun⟨p,g,hb⟩=>f n X N ⟨l,d,g,by rw[e,j,p,hb]⟩,i⟩⟩
  exact .inl ⟨by omega,i⟩
 obtain⟨rfl,rfl⟩:=r m 32 (X++10::N) o (by decide) q;exact .inr ⟨32,X,10,N,d,rfl,.inr ⟨rfl,g,rfl,k⟩⟩
def eM(w:World)(x:Int)(L:am)(R:List UInt8)(e:Ending)(w':World):Prop :=
  ∃nm T A n c B p d C q f,e=.returned (.tuple #[.agg #[ae nm,.slice A n c,.slice B p d,.slice C q f],ae T,.int .i64 x])/\(x=0->nm=L.name/\T=R/\LkY 500 w' A n c B p d C q f L)/\Below w.heap.size w w'
theorem eM.err{w a:World}{x:Int}{L:am}{R:List UInt8}(b:x≠0)(hb:Below w.heap.size w a):eM w x L R (.returned (.tuple #[.agg #[.string ⟨#[]⟩,.slice none 0 0,.slice none 0 0,.slice none 0 0],ae [],.int .i64 x])) a:=⟨[],[],none,0,0,none,0,0,none,0,0,rfl,fun h=>absurd h b,hb⟩
theorem Fi(w:World)(S:List UInt8)(hS:S.length<=65536)(x:Int)(L:am)(R:List UInt8)(h:lA S x L R):Calls Tryz.prog 57 #[ae S] w (eM w x L R):=by
 have H:=Qh h;clear h;go_in;go_wp2_with fail;have x0:=Blk.new w 36 #[.string ⟨#[]⟩,.slice none 0 0,.slice none 0 0,.slice none 0 0];have q0:=(aa w).alloc Qr (.cells #[.string ⟨#[]⟩,.slice none 0 0,.slice none 0 0,.slice none 0 0] 36);generalize w.alloc (.cells #[.string ⟨#[]⟩,.slice none 0 0,.slice none 0 0,.slice none 0 0] 36)=w0 at x0 q0⊢;refine(pY w0 S (by omega)).mono ?_;rintro e' w1⟨z,T,b,rfl,hs,hc,K⟩;have q1:=ag q0 K;have x1:=x0.below K x0.lt;have HS:=Qh hs;have p:=Qh hc;clear hs hc K q0 x0;have X1:=Qh x1;obtain⟨c0,c1,c2,c3⟩:=x1.c4;obtain⟨r,f1,f2,f3⟩:=x1.f4;clear x1;cases b
 ·obtain rfl:x=2:=Eb (fun m c Q hm hd e=>by have:=(p.out m c Q hm hd e).1;cases this) H.out
  go_wp2_with fail;refine zr1 (.tuple #[.agg #[.string ⟨#[]⟩,.slice none 0 0,.slice none 0 0,.slice none 0 0],ae [],.int .i64 2]) ?_;exact eM.err (by decide) (gM q1 Qr _ _ _ _)
 obtain⟨n,hn,rfl,t⟩:=HS.out rfl;have hT:=Ec hn t (fun m c Q hm hd e=>by obtain⟨_,h2,h3⟩:=p.out m c Q hm hd e;exact⟨by omega,h3⟩) H.out;have ao:T.length<=65536:=by rw[t,kc]at hS;omega
 have zT:=ah T;clear H HS p t hS;rcases hT with⟨hl,rfl⟩|⟨a,X,b,N,h8,j,hc⟩
 ·have fl:((T.length:Int)<10)=True:=xr (by omega)
  go_wp2_with fail;refine zr1 (.tuple #[.agg #[.string ⟨#[]⟩,.slice none 0 0,.slice none 0 0,.slice none 0 0],ae [],.int .i64 2]) ?_;exact eM.err (by decide) (gM q1 Qr _ _ _ _)
 have aF:T.length=N.length+10:=by rw[j,oP,kc,oP];omega
 have fl:((T.length:Int)<10)=False:=oK (by omega);have a1:10<=T.length:=by omega
 have a3:N.length<=65536:=by omega
 clear aF ao;have a0:∀h,(⟨T.toArray⟩:ByteArray)[0]' h=a:=fun h=>(ts.1 (show T[0]?=some a by rw[j];rfl)).2
 have a4:∀h,(⟨T.toArray⟩:ByteArray)[9]' h=b:=fun h=>(ts.1 (show T[9]?=some b by rw[j,List.getElem?_cons_succ,xE (by omega),h8];rfl)).2
 have e1:(⟨T.toArray⟩:ByteArray).extract 1 9=⟨X.toArray⟩:=by rw[dc,j];simp[h8]
 have e2:(⟨T.toArray⟩:ByteArray).extract 10 T.length=⟨N.toArray⟩:=by
  rw[dc,ms (by rw[vu];exact Qr),j,List.drop_succ_cons,List.drop_append,FY (by omega),h8];rfl
 obtain⟨v,hv⟩:∃v:Bool,v=true ↔ ∀c∈X,gK.contains c=true:=⟨decide (∀c∈X,gK.contains c=true),by simp⟩;have HV:=Qh hv;have p:=Qh hc;clear j hc hv;by_cases ha:a=32;rotate_left
 ·have t1:(((a.toNat:Nat):Int)==32)=false:=it.2 fun e=>ha (GC (by rw[show (32:UInt8).toNat=32 from rfl];omega))
  have t2:(((a.toNat:Nat):Int)=32)=False:=oK fun e=>ha (GC (by rw[show (32:UInt8).toNat=32 from rfl];omega))
  obtain rfl:x=2:=by
   rcases p.out with⟨_,h⟩|⟨h,_⟩
   ·exact h
   exact absurd h ha
  go_wp2_with fail;refine zr1 (.tuple #[.agg #[.string ⟨#[]⟩,.slice none 0 0,.slice none 0 0,.slice none 0 0],ae [],.int .i64 2]) ?_;exact eM.err (by decide) (gM q1 Qr _ _ _ _)
 subst ha;go_wp2_with fail;refine(Cm w1 X (by omega) v HV.out).mono ?_;rintro e' w2⟨rfl,B⟩;have q2:=ag q1 B;have X2:=Qh (X1.out.below B X1.out.lt);clear B q1 c0 c1 c2 c3 r f1 f2 f3 X1;obtain⟨c0,c1,c2,c3⟩:=X2.out.c4;obtain⟨r,f1,f2,f3⟩:=X2.out.f4;cases v
 ·obtain rfl:x=2:=by
   rcases p.out with⟨_,h⟩|⟨_,h,_⟩
   ·exact h
   have:=HV.out.2 h;cases this
  go_wp2_with fail;refine zr1 (.tuple #[.agg #[.string ⟨#[]⟩,.slice none 0 0,.slice none 0 0,.slice none 0 0],ae [],.int .i64 2]) ?_;exact eM.err (by decide) (gM q2 Qr _ _ _ _)
 by_cases hb:b=10;rotate_left
 ·have t1:(((b.toNat:Nat):Int)==10)=false:=it.2 fun e=>hb (GC (by rw[show (10:UInt8).toNat=10 from rfl];omega))
  have t2:(((b.toNat:Nat):Int)=10)=False:=oK fun e=>hb (GC (by rw[show (10:UInt8).toNat=10 from rfl];omega))
  have t3:(((b.toNat:Nat):Int) != 10)=true:=by unfold bne;rw[t1];rfl
  obtain rfl:x=2:=by
   rcases p.out with⟨_,h⟩|⟨_,_,h,_⟩
   ·exact h
   exact absurd h hb
  go_wp2_with fail;refine zr1 (.tuple #[.agg #[.string ⟨#[]⟩,.slice none 0 0,.slice none 0 0,.slice none 0 0],ae [],.int .i64 2]) ?_;exact eM.err (by decide) (gM q2 Qr _ _ _ _)
 subst hb
 have hr:uR n X N x L R:=by
  rcases p.out with⟨h,_⟩|⟨_,_,_,h⟩
  ·exact absurd ⟨by simp,HV.out.1 (by simp),by simp⟩ h
  exact h
 have F:=Qh hr;have zN:=ah N;clear hr p HV;by_cases hNm:N.length<n
 ·have fN:((N.length:Int)<(n:Int))=True:=xr (by omega)
  obtain rfl:x=18:=by
   rcases F.out with⟨_,h,_⟩|⟨h,_⟩|⟨h,_⟩
   ·exact h
   ·omega
   omega
  go_wp2_with fail;refine zr1 (.tuple #[.agg #[.string ⟨#[]⟩,.slice none 0 0,.slice none 0 0,.slice none 0 0],ae [],.int .i64 18]) ?_;exact eM.err (by decide) (gM q2 Qr _ _ _ _)
 have fN:((N.length:Int)<(n:Int))=False:=oK (by omega);obtain⟨U,q⟩:=Z9 (N.take n);obtain⟨D,hD⟩:=Z9 (N.drop n);have e3:(⟨N.toArray⟩:ByteArray).extract 0 n=⟨U.toArray⟩:=by rw[dc,Gl,Nat.sub_zero,q]
 have e4:(⟨N.toArray⟩:ByteArray).extract n N.length=⟨D.toArray⟩:=by rw[dc,hD,ms (by rw[<-hD,vu];exact Qr)]
 have a2:U.length<=65536:=by rw[<-q,vq];omega
 have hr:(jV (gI U)≠X/\x=14)\/(jV (gI U)=X/\∃y M,cE U y M/\((y≠0/\x=y)\/(y=0/\(aI M≠0\/bV M≠U)/\x=2)\/(y=0/\aI M=0/\bV M=U/\x=0/\L=M/\R=D))):=by
  rcases F.out with⟨h,_⟩|⟨_,h,h2,_⟩|⟨_,h,y,M,o,h3⟩
  ·omega
  ·exact .inl ⟨by rw[<-q];exact h,h2⟩
  refine .inr ⟨by rw[<-q];exact h,y,M,by rw[<-q];exact o,?_⟩;rcases h3 with⟨a,b,_⟩|⟨a,b,c,_⟩|⟨a,b,c,d,e,f⟩
  ·exact .inl ⟨a,b⟩
  ·exact .inr (.inl ⟨a,by rw[<-q];exact b,c⟩)
  exact .inr (.inr ⟨a,b,by rw[<-q];exact c,d,e,by rw[<-hD];exact f⟩)
 have F:=Qh hr;have zU:=ah U;clear hr q hD;go_wp2_with fail;refine(CO w2 U (by omega)).mono ?_;rintro e' w3⟨rfl,C⟩;have q3:=ag q2 C;have X3:=X2.out.below C X2.out.lt;go_wp2_with fail;refine(EX w3 (gI U) (pQ U)).mono ?_;rintro e' w4⟨rfl,J⟩;have q4:=ag q3 J;have X4:=Qh (X3.below J X3.lt);obtain⟨Z,hZ⟩:=Z9 (jV (gI U));rw[hZ]at F⊢;clear C J q2 q3 X3 X2 hZ c0 c1 c2 c3 r f1 f2 f3;obtain⟨c0,c1,c2,c3⟩:=X4.out.c4;obtain⟨r,f1,f2,f3⟩:=X4.out.f4;by_cases hZX:Z=X;rotate_left
 ·have fZ:(Z==X)=false:=it.2 hZX
  obtain rfl:x=14:=by
   rcases F.out with⟨_,h⟩|⟨h,_⟩
   ·exact h
   exact absurd h hZX
  go_wp2_with fail;refine zr1 (.tuple #[.agg #[.string ⟨#[]⟩,.slice none 0 0,.slice none 0 0,.slice none 0 0],ae [],.int .i64 14]) ?_;exact eM.err (by decide) (gM q4 Qr _ _ _ _)
 subst hZX
 obtain⟨u,M,o,ad⟩:∃y M,cE U y M/\((y≠0/\x=y)\/(y=0/\(aI M≠0\/bV M≠U)/\x=2)\/(y=0/\aI M=0/\bV M=U/\x=0/\L=M/\R=D)):=by
  rcases F.out with⟨h,_⟩|⟨_,h⟩
  ·exact absurd rfl h
  exact h
 obtain⟨y,l,I⟩:=rA U;have HF:=Qh (wV I o);have ab:=Qh I;have P:=Qh ad;clear o ad F I;go_wp2_with fail;refine(tF w4 U y l ab.out (u,M) HF.out).mono ?_;rintro e' O⟨V,n1,k1,W,p1,Y,C1,r1,g1,rfl,ac,E⟩;have q5:=ag q4 E;have x5:=X4.out.below E X4.out.lt;have HY:=Qh ac;clear E q4 X4 ac HF ab c0 c1 c2 c3 r f1 f2 f3;go_upto_region 11 with fail;refine fv ?_;intro w6 s;have z6:Blk w6 O.heap.size 36 #[ae M.name,.slice V n1 k1,.slice W p1 Y,.slice C1 r1 g1]:=by rw[s];exact Blk.new O _ _
 have p6:Below O.heap.size O w6:=by rw[s];exact(aa O).alloc Qr _
 clear s;have q6:=ag q5 p6;have x6:=x5.below p6 x5.lt;have aC:w.heap.size<O.heap.size:=x5.lt;have A:Hid (LkY 500 w6 V n1 k1 W p1 Y C1 r1 g1 M):=Qh (HY.out.tch (Tch.below (T:=fun _=>false) p6) rfl rfl rfl rfl);clear p6 x5 HY;obtain⟨gz,aS⟩:∃g,O.heap.size=g:=⟨_,rfl⟩;rw[aS]at z6 aC⊢;obtain⟨c0,c1,c2,c3⟩:=x6.c4;obtain⟨r,f1,f2,f3⟩:=x6.f4;by_cases hu0:u=0;rotate_left
 ·have t1:(u==0)=false:=it.2 hu0
  have t2:(u=0)=False:=oK hu0;have t3:(u != 0)=true:=by unfold bne;rw[t1];rfl
  obtain rfl:x=u:=by
   rcases P.out with⟨_,h⟩|⟨h,_⟩|⟨h,_⟩
   ·exact h
   ·exact absurd h hu0
   exact absurd h hu0
  go_wp2_with fail;refine zr1 (.tuple #[.agg #[.string ⟨#[]⟩,.slice none 0 0,.slice none 0 0,.slice none 0 0],ae [],.int .i64 x]) ?_;exact eM.err hu0 (gM q6 Qr _ _ _ _)
 subst hu0;obtain⟨d0,al,d2,d3⟩:=z6.c4;have Z6:=Qh z6;have X6:=Qh x6;clear z6 x6;go_wp2_with fail;refine(Fa w6 V n1 k1 W p1 Y C1 r1 g1 M A.out.out).mono ?_;rintro e' w7⟨rfl,k⟩;have q7:=ag q6 k;have z7:=Z6.out.below k Z6.out.lt;have x7:=X6.out.below k X6.out.lt;have an:Hid (LkY 500 w7 V n1 k1 W p1 Y C1 r1 g1 M):=Qh (A.out.tch (Tch.below (T:=fun _=>false) k) rfl rfl rfl rfl);clear k q6 Z6 X6 A c0 c1 c2 c3 r f1 f2 f3 d0 al d2 d3;have X7:=Qh x7;obtain⟨c0,c1,c2,c3⟩:=x7.c4;obtain⟨r,f1,f2,f3⟩:=x7.f4;obtain⟨d0,al,d2,d3⟩:=z7.c4;have aT:gz<w7.heap.size:=z7.lt;clear x7 z7;by_cases i:aI M=0;rotate_left
 ·have t1:(aI M==0)=false:=it.2 i
  have t2:(aI M=0)=False:=oK i;have t3:(aI M != 0)=true:=by unfold bne;rw[t1];rfl
  obtain rfl:x=2:=by
   rcases P.out with⟨h,_⟩|⟨_,_,h⟩|⟨_,h,_⟩
   ·exact absurd rfl h
   ·exact h
   exact absurd h i
  go_wp2_with fail;refine zr1 (.tuple #[.agg #[.string ⟨#[]⟩,.slice none 0 0,.slice none 0 0,.slice none 0 0],ae [],.int .i64 2]) ?_;exact eM.err (by decide) (gM q7 Qr _ _ _ _)
 rw[show bL M=bV M from kZ i,i];obtain⟨G,hG⟩:=Z9 (bV M);rw[hG]at P⊢;by_cases hGU:G=U;rotate_left
 ·have fG:(G==U)=false:=it.2 hGU
  obtain rfl:x=2:=by
   rcases P.out with⟨h,_⟩|⟨_,_,h⟩|⟨_,_,h,_⟩
   ·exact absurd rfl h
   ·exact h
   exact absurd h hGU
  go_wp2_with fail;refine zr1 (.tuple #[.agg #[.string ⟨#[]⟩,.slice none 0 0,.slice none 0 0,.slice none 0 0],ae [],.int .i64 2]) ?_;exact eM.err (by decide) (gM q7 Qr _ _ _ _)
 subst hGU
 obtain⟨rfl,rfl,rfl⟩:x=0/\L=M/\R=D:=by
  rcases P.out with⟨h,_⟩|⟨_,h|h,_⟩|⟨_,_,_,h⟩
  ·exact absurd rfl h
  ·exact absurd i h
  ·exact absurd rfl h
  exact h
 clear P i hG;have aZ:¬gz=w.heap.size:=by omega
 go_wp2_with fail;go_region
 all_goals
  go_wp2_with fail;refine zr1 (.tuple #[.agg #[ae L.name,.slice V n1 k1,.slice W p1 Y,.slice C1 r1 g1],ae R,.int .i64 0]) ?_;refine⟨L.name,R,V,n1,k1,W,p1,Y,C1,r1,g1,rfl,fun _=>⟨rfl,rfl,?_⟩,by first|exact gM q7 Qr _ _ _ _|exact(gM q7 Qr _ _ _ _).drew|exact gM q7.drew Qr _ _ _ _⟩
  first
  |exact an.out.tch (zJ X7.out ⟨rfl,rfl,rfl,rfl⟩ _ _ _ _) (by decide) (by decide) (by decide) (by decide)
  |exact(an.out.tch (Tch.below (T:=fun _=>false) (aa w7).drew) rfl rfl rfl rfl).tch (zJ (X7.out.below (aa w7).drew X7.out.lt) ⟨rfl,rfl,rfl,rfl⟩ _ _ _ _) (by decide) (by decide) (by decide) (by decide)
end Go.Proofs.YtfilnhompchciaaGreatDoor
namespace Go.Proofs
open Go.Shelf
def Tryz.laysC172_ren:Go.Shelf.Ren:=⟨fun|172=>90|244=>125|245=>126|247=>161|279=>162|280=>163|281=>164|282=>165|287=>205|316=>206|171=>28|205=>207|321=>239|322=>240|243=>59|246=>100|283=>137|284=>138|285=>139|286=>140|129=>177|317=>176|318=>178|319=>179|320=>180|337=>218|338=>219|n=>n,fun|9=>9|3=>3|75=>26|76=>51|4=>4|5=>5|167=>201|37=>47|0=>0|85=>202|2=>2|168=>204|53=>117|175=>239|46=>157|210=>242|127=>119|145=>258|143=>256|21=>21|171=>182|173=>185|212=>214|51=>58|20=>20|213=>215|232=>264|233=>265|80=>75|n=>n,fun|15=>2|16=>3|17=>1|18=>6|19=>7|n=>n⟩
theorem Tryz.laysC172:Go.Proofs.LaysC.n172 Tryz.prog Tryz.laysC172_ren:={
 mixed:=by kernel_rfl
 f129:=Tryz.func177.trans (congrArg some (by kernel_rfl))
 f171:=Tryz.func28.trans (congrArg some (by kernel_rfl))
 f172:=Tryz.func90.trans (congrArg some (by kernel_rfl))
 f205:=Tryz.func207.trans (congrArg some (by kernel_rfl))
 f243:=Tryz.func59.trans (congrArg some (by kernel_rfl))
 f244:=Tryz.func125.trans (congrArg some (by kernel_rfl))
 f245:=Tryz.func126.trans (congrArg some (by kernel_rfl))
 f246:=Tryz.func100.trans (congrArg some (by kernel_rfl))
 f247:=Tryz.func161.trans (congrArg some (by kernel_rfl))
 f279:=Tryz.func162.trans (congrArg some (by kernel_rfl))
 f280:=Tryz.func163.trans (congrArg some (by kernel_rfl))
 f281:=Tryz.func164.trans (congrArg some (by kernel_rfl))
 f282:=Tryz.func165.trans (congrArg some (by kernel_rfl))
 f283:=Tryz.func137.trans (congrArg some (by kernel_rfl))
 f284:=Tryz.func138.trans (congrArg some (by kernel_rfl))
 f285:=Tryz.func139.trans (congrArg some (by kernel_rfl))
 f286:=Tryz.func140.trans (congrArg some (by kernel_rfl))
 f287:=Tryz.func205.trans (congrArg some (by kernel_rfl))
 f316:=Tryz.func206.trans (congrArg some (by kernel_rfl))
 f317:=Tryz.func176.trans (congrArg some (by kernel_rfl))
 f318:=Tryz.func178.trans (congrArg some (by kernel_rfl))
 f319:=Tryz.func179.trans (congrArg some (by kernel_rfl))
 f320:=Tryz.func180.trans (congrArg some (by kernel_rfl))
 f321:=Tryz.func239.trans (congrArg some (by kernel_rfl))
 f322:=Tryz.func240.trans (congrArg some (by kernel_rfl))
 f337:=Tryz.func218.trans (congrArg some (by kernel_rfl))
 f338:=Tryz.func219.trans (congrArg some (by kernel_rfl))
 t0:=Tryz.underlying0
 a0:=Tryz.isAgg0
 z0:=Tryz.sizeOf0
 v0:=Tryz.zeroValue0
 t2:=Tryz.underlying2
 a2:=Tryz.isAgg2
 z2:=Tryz.sizeOf2
 v2:=Tryz.zeroValue2
 t3:=Tryz.underlying3
 a3:=Tryz.isAgg3
 z3:=Tryz.sizeOf3
 v3:=Tryz.zeroValue3
 t4:=Tryz.underlying4
 a4:=Tryz.isAgg4
 z4:=Tryz.sizeOf4
 v4:=Tryz.zeroValue4
 t5:=Tryz.underlying5
 a5:=Tryz.isAgg5
 z5:=Tryz.sizeOf5
 v5:=Tryz.zeroValue5
 t9:=Tryz.underlying9
 a9:=Tryz.isAgg9
 z9:=Tryz.sizeOf9
 v9:=Tryz.zeroValue9
 t20:=Tryz.underlying20
 a20:=Tryz.isAgg20
 z20:=Tryz.sizeOf20
 v20:=Tryz.zeroValue20
 t21:=Tryz.underlying21
 a21:=Tryz.isAgg21
 z21:=Tryz.sizeOf21
 v21:=Tryz.zeroValue21
 t37:=Tryz.underlying47
 a37:=Tryz.isAgg47
 z37:=Tryz.sizeOf47
 v37:=Tryz.zeroValue47
 t46:=Tryz.underlying157
 a46:=Tryz.isAgg157
 z46:=Tryz.sizeOf157
 v46:=Tryz.zeroValue157
 t51:=Tryz.underlying58
 a51:=Tryz.isAgg58
 z51:=Tryz.sizeOf58
 v51:=Tryz.zeroValue58
 t53:=Tryz.underlying117
 a53:=Tryz.isAgg117
 z53:=Tryz.sizeOf117
 v53:=Tryz.zeroValue117
 t75:=Tryz.underlying26
 a75:=Tryz.isAgg26
 z75:=Tryz.sizeOf26
 v75:=Tryz.zeroValue26
 t76:=Tryz.underlying51
 a76:=Tryz.isAgg51
 z76:=Tryz.sizeOf51
 v76:=Tryz.zeroValue51
 t85:=Tryz.underlying202
 a85:=Tryz.isAgg202
 z85:=Tryz.sizeOf202
 v85:=Tryz.zeroValue202
 t127:=Tryz.underlying119
 a127:=Tryz.isAgg119
 z127:=Tryz.sizeOf119
 v127:=Tryz.zeroValue119
 t143:=Tryz.underlying256
 a143:=Tryz.isAgg256
 z143:=Tryz.sizeOf256
 v143:=Tryz.zeroValue256
 t145:=Tryz.underlying258
 a145:=Tryz.isAgg258
 z145:=Tryz.sizeOf258
 v145:=Tryz.zeroValue258
 t167:=Tryz.underlying201
 a167:=Tryz.isAgg201
 z167:=Tryz.sizeOf201
 v167:=Tryz.zeroValue201
 t168:=Tryz.underlying204
 a168:=Tryz.isAgg204
 z168:=Tryz.sizeOf204
 v168:=Tryz.zeroValue204
 t171:=Tryz.underlying182
 a171:=Tryz.isAgg182
 z171:=Tryz.sizeOf182
 v171:=Tryz.zeroValue182
 t173:=Tryz.underlying185
 a173:=Tryz.isAgg185
 z173:=Tryz.sizeOf185
 v173:=Tryz.zeroValue185
 t175:=Tryz.underlying239
 a175:=Tryz.isAgg239
 z175:=Tryz.sizeOf239
 v175:=Tryz.zeroValue239
 t210:=Tryz.underlying242
 a210:=Tryz.isAgg242
 z210:=Tryz.sizeOf242
 v210:=Tryz.zeroValue242
 t212:=Tryz.underlying214
 a212:=Tryz.isAgg214
 z212:=Tryz.sizeOf214
 v212:=Tryz.zeroValue214
 t213:=Tryz.underlying215
 a213:=Tryz.isAgg215
 z213:=Tryz.sizeOf215
 t232:=Tryz.underlying264
 a232:=Tryz.isAgg264
 z232:=Tryz.sizeOf264
 v232:=Tryz.zeroValue264
 t233:=Tryz.underlying265
 a233:=Tryz.isAgg265
 z233:=Tryz.sizeOf265
 v233:=Tryz.zeroValue265
 g15:=by kernel_rfl
 g16:=by kernel_rfl
 g17:=by kernel_rfl
 g18:=by kernel_rfl
 g19:=by kernel_rfl
 t80:=Tryz.underlying75
 a80:=Tryz.isAgg75
 z80:=Tryz.sizeOf75
 v80:=Tryz.zeroValue75
 i0:=by kernel_rfl
 i2:=by kernel_rfl
 i3:=by kernel_rfl
 i4:=by kernel_rfl
 i5:=by kernel_rfl
 i9:=by kernel_rfl
 i20:=by kernel_rfl
 i21:=by kernel_rfl
 i37:=by kernel_rfl
 i46:=by kernel_rfl
 i51:=by kernel_rfl
 i53:=by kernel_rfl
 i75:=by kernel_rfl
 i76:=by kernel_rfl
 i80:=by kernel_rfl
 i85:=by kernel_rfl
 i127:=by kernel_rfl
 i143:=by kernel_rfl
 i145:=by kernel_rfl
 i167:=by kernel_rfl
 i168:=by kernel_rfl
 i171:=by kernel_rfl
 i173:=by kernel_rfl
 i175:=by kernel_rfl
 i210:=by kernel_rfl
 i212:=by kernel_rfl
 i232:=by kernel_rfl
 i233:=by kernel_rfl
 m15:=by kernel_rfl
 m16:=by kernel_rfl
 m17:=by kernel_rfl
 m18:=by kernel_rfl
 m19:=by kernel_rfl
 c0:=by kernel_rfl
 c2:=by kernel_rfl
 c3:=by kernel_rfl
 c4:=by kernel_rfl
 c5:=by kernel_rfl
 c9:=by kernel_rfl
 c20:=by kernel_rfl
 c21:=by kernel_rfl
 c37:=by kernel_rfl
 c46:=by kernel_rfl
 c51:=by kernel_rfl
 c53:=by kernel_rfl
 c75:=by kernel_rfl
 c76:=by kernel_rfl
 c80:=by kernel_rfl
 c85:=by kernel_rfl
 c127:=by kernel_rfl
 c143:=by kernel_rfl
 c145:=by kernel_rfl
 c167:=by kernel_rfl
 c168:=by kernel_rfl
 c171:=by kernel_rfl
 c173:=by kernel_rfl
 c175:=by kernel_rfl
 c210:=by kernel_rfl
 c212:=by kernel_rfl
 c213:=by kernel_rfl
 c232:=by kernel_rfl
 c233:=by kernel_rfl }
open Go.RowKit in
theorem Tryz.strconv_Atoi_ok(s:ByteArray)(a:s.size<=9223372036854775806)(v:Int)(h:Lib.atoiAll s.data.toList=.ok v)(w:World):
 Calls Tryz.prog 90 #[.string s] w fun e b=>e=.returned (.tuple #[.int .i64 v,.nilIface])/\(b=w\/∃t,b=Lib.bytesWorld w 5 t):=Any.strconv_Atoi_ok Tryz.laysC172 s a v h w
open Go.RowKit in
theorem Tryz.strconv_Atoi_bad(s:ByteArray)(a:s.size<=281474976710656)(h:Lib.atoiAll s.data.toList≠.range/\∀ v,Lib.atoiAll s.data.toList≠.ok v)(ev:Value)(w:World)(d:w.cell? ⟨2,0,none⟩=some ev)(b:ev=.nilIface\/∃te pe,ev=.iface te pe):
 Calls Tryz.prog 90 #[.string s] w fun e c=>∃N,e=.returned (.tuple #[.int .i64 (0),.iface 204 (.pointer (some ⟨N,0,none⟩))])/\w.heap.size<=N/\c.heap[N]?=some (.cells #[.string ⟨#[65,116,111,105]⟩,.string s,ev] 242 (0,0))/\Below w.heap.size w c:=by
  cases hx:Lib.atoiAll s.data.toList with
  | ok v=>exact absurd hx (h.2 v)
  | range=>exact absurd hx h.1
  | _=>exact Any.strconv_Atoi_syntax Tryz.laysC172 s a hx ev w d b
open Go.RowKit in
theorem Tryz.strconv_Atoi_range(s:ByteArray)(a:s.size<=281474976710656)(h:Lib.atoiAll s.data.toList=.range)(ev:Value)(w:World)(d:w.cell? ⟨3,0,none⟩=some ev)(b:ev=.nilIface\/∃te pe,ev=.iface te pe):
 Calls Tryz.prog 90 #[.string s] w fun e c=>∃N,e=.returned (.tuple #[.int .i64 (Lib.atoiSat s.data.toList),.iface 204 (.pointer (some ⟨N,0,none⟩))])/\w.heap.size<=N/\c.heap[N]?=some (.cells #[.string ⟨#[65,116,111,105]⟩,.string s,ev] 242 (0,0))/\Below w.heap.size w c:=Any.strconv_Atoi_range Tryz.laysC172 s a h ev w d b
end Go.Proofs

/- Walks: strconv.Atoi at any text; number at any text. -/
namespace Go.Proofs.YtfilnhompchciaaGreatDoor
open Go Go.RowKit Bn
attribute [local go_sem ↓] Go.wp_at_zero Go.wp_at_succ
def Ev(w:World):Prop:=(∃ev,w.cell? ⟨2,0,none⟩=some ev/\(ev=.nilIface\/∃te pe,ev=.iface te pe))/\∃ev,w.cell? ⟨3,0,none⟩=some ev/\(ev=.nilIface\/∃te pe,ev=.iface te pe)
theorem Ev.belw{w a:World}(h:Ev w)(hb:Below w.heap.size w a):Ev a:=by
 obtain⟨⟨d,f,b⟩,g,c,k2⟩:=h;exact⟨⟨d,aw f hb,b⟩,g,aw c hb,k2⟩
def Ed(w:World)(e:Ending)(w':World):Prop:=∃(z:Int) (ev:Value),e=.returned (.tuple #[.int .i64 z,ev])/\-9223372036854775808<=z/\z<=9223372036854775807/\(ev=.nilIface\/∃t p,ev=.iface t p)/\Below w.heap.size w w'
theorem Aq(w:World)(s:List UInt8)(i:s.length<=65536)(m:Ev w):Calls Tryz.prog 90 #[ae s] w (Ed w):=by
 have p:(⟨s.toArray⟩:ByteArray).size<=65536:=i;obtain⟨⟨k,n,f⟩,o,g,k2⟩:=m
 cases h:Lib.atoiAll (⟨s.toArray⟩:ByteArray).data.toList with
 |ok v =>
  obtain⟨b,c⟩:=Lib.atoiAll_bounds h;refine(Tryz.strconv_Atoi_ok ⟨s.toArray⟩ (by omega) v h w).mono fun e d ⟨a,hw⟩=>⟨v,.nilIface,a,b,c,.inl rfl,?_⟩
  rcases hw with rfl|⟨t,rfl⟩
  ·exact aa _
  exact⟨rfl,rfl,rfl,by rw[Lib.bytesWorld_size];omega,fun j l=>Lib.bytesWorld_at_old _ _ _ j l⟩
 |range =>
  obtain⟨b,c⟩:=Lib.atoiSat_bounds (⟨s.toArray⟩:ByteArray).data.toList;exact(Tryz.strconv_Atoi_range ⟨s.toArray⟩ (by omega) h o w g k2).mono fun e d ⟨N,a,_,_,hb⟩=>⟨_,_,a,b,c,.inr ⟨_,_,rfl⟩,hb⟩
 | _=>exact (Tryz.strconv_Atoi_bad ⟨s.toArray⟩ (by omega) ⟨by rw [h];exact (fun x=>nomatch x),fun v=>by rw [h];exact (fun x=>nomatch x)⟩ k w n f).mono fun e d ⟨N,a,_,_,hb⟩=>⟨0,_,a,by omega,by omega,.inr ⟨_,_,rfl⟩,hb⟩
def Ee(w:World)(s:List UInt8)(e:Ending)(w':World):Prop:=∃(z:Int) (b:Bool),e=.returned (.tuple #[.int .i64 z,.bool b])/\(b=true->∃n:Nat,n<=99999/\z=n/\s=Lib.itoa (n:Int))/\Below w.heap.size w w'
theorem kX(w:World)(s:List UInt8)(k:s.length<=65536)(m:Ev w)(a:Tab w):Calls Tryz.prog 50 #[ae s] w (Ee w s):=by
 have b:=Qh a;clear a;go_in;go_wp2_with fail;refine(Aq w s k m).mono ?_;rintro n g⟨z,ev,rfl,i,j,d,q1⟩;rcases d with rfl|⟨t,p,rfl⟩
 ·by_cases h0:0<=z
  ·have l:((0:Int)<=z)=True:=xr h0
   by_cases h9:z<=99999
   ·have f1:(z<=(99999:Int))=True:=xr h9
    go_wp2_with fail;refine(mz g z i j (b.out.belw q1)).mono ?_;rintro n q⟨rfl,c⟩;have q2:=ag q1 c;obtain⟨I,f⟩:=Z9 (Lib.itoa z);rw[f];by_cases hIs:I=s
    ·subst hIs
     go_wp2_with fail;go_ret2;exact⟨z,true,rfl,fun _=>⟨z.toNat,by omega,by omega,by rw[<-f,Int.toNat_of_nonneg h0]⟩,q2⟩
    have o:(I==s)=false:=it.2 hIs;go_wp2_with fail;go_ret2;exact⟨z,false,rfl,(fun h=>by cases h),q2⟩
   have f1:(z<=(99999:Int))=False:=oK h9;go_wp2_with fail;go_ret2;exact⟨z,false,rfl,(fun h=>by cases h),q1⟩
  have l:((0:Int)<=z)=False:=oK h0;go_wp2_with fail;go_ret2;exact⟨z,false,rfl,(fun h=>by cases h),q1⟩
 go_wp2_with fail;go_ret2;exact⟨z,false,rfl,(fun h=>by cases h),q1⟩
theorem cut_cases(c:UInt8):∀(S:List UInt8),(∃a b,c ∉ a/\S=a++c::b)\/c ∉ S
 |[]=>.inr (by simp)
 |x::S=>by
  by_cases hx:x=c
  ·subst hx;exact .inl ⟨[],S,by simp,rfl⟩
  rcases cut_cases c S with⟨a,b,h,e⟩|h
  ·exact .inl ⟨x::a,b,by simp[h];exact fun h=>hx h.symm,by rw[e];rfl⟩
  exact .inr (by simp[h];exact fun h=>hx h.symm)
theorem sw(w:World)(P S:List UInt8):Calls Tryz.prog 88 #[ae S,ae P] w (fun d a=>∃I b,d=.returned (.tuple #[ae I,.bool b])/\(b=true->S=P++I)/\I.length<=S.length/\Below w.heap.size w a):=by
 refine(Tryz.strings_CutPrefix ⟨S.toArray⟩ ⟨P.toArray⟩ w).mono fun e a ⟨c,hw⟩=>⟨Lib.trimPrefix S P,Lib.hasPrefix S P,?_,fun h=>?_,?_,hw ▸ aa _⟩
 ·rw[c]
 ·unfold Lib.trimPrefix
  rw[kZ h];unfold Lib.hasPrefix at h;obtain⟨t,rfl⟩:=Ic.1 h;simp
 unfold Lib.trimPrefix;split
 ·rw[vu];omega
 exact Qr
theorem Ef{l:List UInt8}(h:Lib.trimS l gK=[]):∀c∈l,gK.contains c=true:=by
 unfold Lib.trimS Lib.trimLeftS Lib.trimRightS at h;rw[cK,GH]at h
 cases hd:l.reverse.dropWhile (gK.contains ·) with
 |nil=>have a:=cK.1 hd;rw[GH]at a;exact zX.1 a
 |cons x r =>
  rw[hd,Gd,uv]at h;rw[iT hd]at h;exact absurd h.1 (by simp)
theorem uS(w:World)(X:List UInt8)(m:X.length<=65536)(v:Bool)(g:v=true ↔ X.length=8/\∀c∈X,gK.contains c=true):Calls Tryz.prog 51 #[ae X] w (av w (.bool v)):=by
 have k:=ah X;have b:=Qh g;clear g;by_cases h8:X.length=8
 ·have d:((X.length:Int)==8)=true:=by rw[h8];rfl
  obtain⟨T,h⟩:=Z9 (Lib.trimS X gK);have f:=Qh h;clear h;go_in;go_wp2_with fail;refine(BV w X T (by omega) f.out).mono ?_;rintro l j⟨rfl,q1⟩;by_cases hT0:T=[]
  ·subst hT0
   obtain rfl:v=true:=b.out.2 ⟨h8,Ef f.out⟩;go_wp2;go_ret;exact⟨rfl,q1⟩
  have i:(T==[])=false:=it.2 hT0
  have a:v=false:=by
   cases v
   ·rfl
   exact absurd (f.out.symm.trans (BU (b.out.1 rfl).2)) hT0
  subst a;go_wp2;go_ret;exact⟨by first|rfl|simp[i,hT0],q1⟩
 have d:((X.length:Int)==8)=false:=by rw[it];omega
 have a:v=false:=by
  cases v
  ·rfl
  exact absurd (b.out.1 rfl).1 h8
 subst a;go_in;go_wp2;go_ret;exact⟨rfl,aa w⟩
structure Env (w:World):Prop where
  tab:Tab w
  t64:T64 w
  mx:Mx w
  ev:Ev w
theorem Env.belw{w a:World}(h:Env w)(hb:Below w.heap.size w a):Env a:=⟨h.tab.belw hb,h.t64.belw hb,h.mx.belw hb,h.ev.belw hb⟩
def pkP:List UInt8:=[108,105,110,107,119,111,114,107,32,49,32]
theorem qi(w:World)(S:List UInt8)(V:S.length<9223372036854775808)(L:Env w)(x:Int)(n:Nat)(R:List UInt8)(h:lz S x n R):Calls Tryz.prog 48 #[ae S] w (av w (.tuple #[.int .i64 (n:Nat),ae R,cd x])):=by
 have U:=ah S;have d:=Qh L;clear L;rcases h with⟨g,rfl,rfl,rfl⟩|⟨g,H,rfl,rfl,rfl⟩|⟨g,⟨m,Q,E,M,p⟩,rfl,rfl,rfl⟩|⟨g,O,B,rfl⟩
 ·have f1:((65536:Int)<(S.length:Int))=True:=xr (by omega)
  go_in;go_wp2_with fail;refine zr1 (.tuple #[.int .i64 0,.string ⟨#[]⟩,.iface 49 (.int .i64 4)]) ?_;exact⟨rfl,aa w⟩
 ·have f1:((65536:Int)<(S.length:Int))=False:=oK (by omega)
  have P:=Qh H;clear H;rcases cut_cases 10 S with⟨F,Q,s,f⟩|l
  ·have k:Lib.cut S [10]=(F,Q,true):=by rw[f];exact fO s
   have N:F.length<=65536:=by rw[f,kc]at g;omega
   have r:=Qh k;have A:=Qh f;clear k f;go_in;go_wp2_with fail;refine(gi w S 10 F Q true d.out.mx g r.out).mono ?_;rintro i o⟨rfl,q1⟩;go_wp2_with fail;refine(sw o pkP F).mono ?_;rintro i t⟨I,b,rfl,j,D,a⟩;have q2:=ag q1 a;have G:=Qh j;clear j a;go_wp2_with fail;refine(kX t I (by omega) (d.out.ev.belw q2) (d.out.tab.belw q2)).mono ?_;rintro i J⟨z,K,rfl,u,c⟩;have q3:=ag q2 c;have T:=Qh u;clear u c;cases b
   ·go_wp2_with fail
    refine zr1 (.tuple #[.int .i64 0,.string ⟨#[]⟩,.iface 49 (.int .i64 2)]) ?_;exact⟨rfl,q3⟩
   cases K
   ·go_wp2_with fail
    refine zr1 (.tuple #[.int .i64 0,.string ⟨#[]⟩,.iface 49 (.int .i64 2)]) ?_;exact⟨rfl,q3⟩
   obtain⟨m,E,_,y⟩:=T.out rfl;refine absurd ?_ (P.out m Q E);rw[lp,A.out,G.out rfl,y];rfl
  have k:Lib.cut S [10]=(S,[],false):=ir l;have r:=Qh k;clear k l;go_in;go_wp2_with fail;refine(gi w S 10 S [] false d.out.mx g r.out).mono ?_;rintro i o⟨rfl,q1⟩;go_wp2_with fail;refine(sw o pkP S).mono ?_;rintro i t⟨I,b,rfl,j,D,a⟩;have q2:=ag q1 a;clear j a;go_wp2_with fail;refine(kX t I (by omega) (d.out.ev.belw q2) (d.out.tab.belw q2)).mono ?_;rintro i J⟨z,K,rfl,u,c⟩;have q3:=ag q2 c;clear u c;go_wp2_with fail;refine zr1 (.tuple #[.int .i64 0,.string ⟨#[]⟩,.iface 49 (.int .i64 2)]) ?_;exact⟨rfl,q3⟩
 ·obtain⟨F,s⟩:=Z9 (jG m)
  have k:Lib.cut S [10]=(F,Q,true):=by rw[p,lp,<-s];exact fO (mW m)
  obtain⟨I,j⟩:=Z9 (Lib.itoa (m:Int));have q:F=[108,105,110,107,119,111,114,107,32,49,32]++I:=by rw[<-s,<-j];rfl
  have f1:((65536:Int)<(S.length:Int))=False:=oK (by omega);have f2:((16:Int)<(m:Int))=True:=xr (by omega);have r:=Qh k;have C:=Qh q;have G:=Qh j;clear k q s j p;go_in;go_wp2_with fail;refine(gi w S 10 F Q true d.out.mx g r.out).mono ?_;rintro i o⟨rfl,q1⟩;go_wp2_with fail;refine(zw o [108,105,110,107,119,111,114,107,32,49,32] F I C.out).mono ?_;rintro i t⟨rfl,a⟩;have q2:=ag q1 a;go_wp2_with fail;refine(pS t m E I G.out (d.out.tab.belw q2)).mono ?_;rintro i J⟨rfl,c⟩;have q3:=ag q2 c;go_wp2_with fail;refine zr1 (.tuple #[.int .i64 0,.string ⟨#[]⟩,.iface 49 (.int .i64 4)]) ?_;exact⟨rfl,q3⟩
 rw[dn];exact wC w n O R S B.symm g d.out.tab d.out.mx
theorem Cu(w:World)(S:List UInt8)(c:S.length<9223372036854775808)(b:Env w)(x:Int)(n:Nat)(R:List UInt8)(h:lz S x n R):Calls Tryz.prog 21 #[ae S] w (av w (.tuple #[.int .i64 (n:Nat),cd x])):=by
 obtain⟨E,a⟩:=Z9 (cd x);have d:=Qh a;rw[a];clear a;go_in;go_wp2_with fail;refine(qi w S c b x n R h).mono ?_;rintro g f⟨rfl,q1⟩;rw[d.out];go_wp2_with fail;go_ret2;exact⟨rfl,q1⟩
theorem qj{k:Nat}(w:World):SlS (iJ k) 4 w none 0 0 []:=⟨rfl,Qr,fun h=>absurd h (by omega)⟩
def gw(k:Nat)(w:World)(v:Value)(Ls:List am)(e:Ending)(w':World):Prop:=∃A m c,e=.returned (.tuple #[.slice A m c,v])/\SlS (iJ k) 4 w' A m c Ls/\Below w.heap.size w w'
theorem gw.err{k:Nat}{w a:World}{v u:Value}{Ls:List am}(b:u=v)(c:Ls=[])(hb:Below w.heap.size w a):gw k w v Ls (.returned (.tuple #[.slice none 0 0,u])) a:=⟨none,0,0,by rw[b],by rw[c];exact qj _,hb⟩
theorem wZ{R:List UInt8}{m:Nat}{X N:List UInt8}(h:pW R m X N):Lib.cut R [10]=(Lib.itoa (m:Int)++32::X,N,true)/\Lib.cut (Lib.itoa (m:Int)++32::X) [32]=(Lib.itoa (m:Int),X,true):=by
 obtain⟨_,_,b,c⟩:=h;refine⟨?_,fO (tl (by decide))⟩;rw[c,show Lib.itoa (m:Int)++32::(X++10::N)=(Lib.itoa (m:Int)++32::X)++10::N by simp];refine fO fun a=>?_
 rcases Gu.1 a with a|a
 ·exact tl (by decide) a
 rcases Gh.1 a with a|a
 ·revert a;decide
 have:=b 10 a;revert this;decide
theorem Ar(w:World)(S:List UInt8)(hS:S.length<9223372036854775808)(he:Env w)(x:Int)(Ls:List am)(h:si S x Ls):Calls Tryz.prog 18 #[ae S] w (gw 130 w (cd x) Ls):=by
 have r:=Qh he;clear he;obtain⟨i0,bs,a8,bu,bn⟩:=Gb uJ;have aF:=Qh (And.intro bs (And.intro a8 (And.intro bu bn)));clear bs a8 bu bn;obtain⟨y,n,R0,hb,⟨hy,rfl,rfl⟩|⟨rfl,Ms,hu,ba⟩⟩:=h
 ·have HB:=Qh hb
  have HY:=Qh hy;clear hb hy;go_in;go_wp2_with fail;refine(qi w S hS r.out x n R0 HB.out).mono ?_;rintro A w1⟨rfl,q1⟩;rw[eVp HY.out];go_wp2_with fail;go_ret2;exact gw.err (eVp HY.out).symm rfl q1
 have P:n<=16/\R0.length<=65536:=by
  rcases hb with⟨_,e,_⟩|⟨_,_,e,_⟩|⟨_,_,e,_⟩|⟨hl,hn,cn,_⟩
  ·cases e
  ·cases e
  ·cases e
  refine⟨hn,?_⟩;rw[cn,kc]at hl;omega
 have hn:=P.1;have HB:=Qh hb;have HU:=Qh hu;have B:=Qh ba;have bx:=Qh P.2;clear hb hu ba P;go_in;go_wp2_with fail;refine(qi w S hS r.out 0 n R0 HB.out).mono ?_;rintro A w1⟨rfl,q1⟩;rw[dn];go_wp2_with fail;go_loopw [5,7,31] (fun rv ov iv wr=>∃(i:Nat) (R:List UInt8) (As Bs:List am),rv=ae R/\iv=.int .i64 (i:Nat)/\i<=n/\sh 130 wr w.heap.size ov i As/\Hid (UnF (n-i) R x Bs/\As++Bs=Ms/\R.length<=65536)/\Below w.heap.size w wr) (fun _ _ iv _=>n-(intOf iv).toNat)
 case atStart=>exact⟨0,R0,[],Ms,rfl,rfl,Nat.zero_le _,bc.nil,Qh ⟨HU.out,rfl,bx.out⟩,q1⟩
 case round =>
  clear q1;obtain⟨i,R,As,Bs,rfl,rfl,hi,V,HX,q1⟩:=hrel;rename World=>wa;obtain⟨A0,c0,rfl,cu⟩:=V.form;have Q:=Qh V;clear V;rcases Nat.lt_or_ge i n with cs|cz
  ·have b3:((i:Int)<(n:Int))=True:=by simp;omega
   obtain⟨ad,C,s⟩:=HX.out;rw[show n-i=(n-(i+1))+1 by omega]at ad;obtain⟨y,L,R',a5,hy⟩:=ad;rcases a5 with⟨a7,rfl,rfl,rfl⟩|⟨m,X,N,a,d⟩
   ·obtain⟨_,rfl,rfl⟩|⟨e,_⟩:=hy
    rotate_left
    ·cases e
    have a2:Ls=[]:=by rw[B.out,kl (by decide)]
    have HN:=Qh a7;have b:=Qh a2;clear a7 a2 HX C;rcases cut_cases 10 R with⟨t,N,O,ao⟩|J
    ·have hc:Lib.cut R [10]=(t,N,true):=by rw[ao];exact fO O
     have ab:t.length<=65536:=by rw[ao,kc]at s;omega
     have E:=Qh (And.intro hc s);have bF:=Qh ao;clear hc O ao s;rcases cut_cases 32 t with⟨I,X,hI,H⟩|J
     ·have g:Lib.cut t [32]=(I,X,true):=by rw[H];exact fO hI
      have ac:I.length<=65536/\X.length<=65536:=by rw[H,kc,oP]at ab;omega
      have j:=Qh (And.intro g (And.intro ab ac));have cb:=Qh H;obtain⟨v,hv⟩:∃v:Bool,v=true ↔ X.length=8/\∀c∈X,gK.contains c=true:=⟨decide (X.length=8/\∀c∈X,gK.contains c=true),by simp⟩;have HV:=Qh hv;clear g ab ac H hI hv;go_wp2_with fail;refine(gi wa R 10 t N true (r.out.mx.belw q1) E.out.2 E.out.1).mono ?_;rintro A w2⟨rfl,k⟩;have q2:=ag q1 k;go_wp2_with fail;refine(gi w2 t 32 I X true (r.out.mx.belw q2) j.out.2.1 j.out.1).mono ?_;rintro A w3⟨rfl,l⟩;have q3:=ag q2 l;go_wp2_with fail;refine(kX w3 I j.out.2.2.1 (r.out.ev.belw q3) (r.out.tab.belw q3)).mono ?_;rintro A w4⟨z,b4,rfl,hz,o⟩;have q4:=ag q3 o;have HZ:=Qh hz;clear hz k l o;cases b4
      ·go_wp2_with fail
       go_ret2;exact gw.err (eVp (by decide)).symm b.out q4
      go_wp2_with fail;refine(uS w4 X j.out.2.2.2 v HV.out).mono ?_;rintro A w5⟨rfl,aC⟩;have q5:=ag q4 aC;cases v
      ·go_wp2_with fail
       go_ret2;exact gw.err (eVp (by decide)).symm b.out q5
      obtain⟨m,hm,_,cc⟩:=HZ.out (by first|exact rfl|exact GI)
      obtain⟨h8,p⟩:=HV.out.1 (by first|exact rfl|exact GI)
      refine absurd ⟨hm,h8,p,?_⟩ (HN.out m X N);rw[bF.out,cb.out,cc];simp
     have g:Lib.cut t [32]=(t,[],false):=ir J;have j:=Qh (And.intro g ab);clear g ab J;go_wp2_with fail;refine(gi wa R 10 t N true (r.out.mx.belw q1) E.out.2 E.out.1).mono ?_;rintro A w2⟨rfl,k⟩;have q2:=ag q1 k;go_wp2_with fail;refine(gi w2 t 32 t [] false (r.out.mx.belw q2) j.out.2 j.out.1).mono ?_;rintro A w3⟨rfl,l⟩;have q3:=ag q2 l;go_wp2_with fail;refine(kX w3 t j.out.2 (r.out.ev.belw q3) (r.out.tab.belw q3)).mono ?_;rintro A w4⟨z,b4,rfl,_,o⟩;have q4:=ag q3 o;clear k l o;go_wp2_with fail;go_ret2;exact gw.err (eVp (by decide)).symm b.out q4
    have hc:Lib.cut R [10]=(R,[],false):=ir J;have E:=Qh (And.intro hc s);clear hc s J
    obtain⟨I,X,f,g,ac⟩:∃I X f,Lib.cut R [32]=(I,X,f)/\I.length<=65536:=by
     rcases cut_cases 32 R with⟨I,X,hI,H⟩|J
     ·exact⟨I,X,true,by rw[H];exact fO hI,by have:=E.out.2;rw[H,kc]at this;omega⟩
     exact⟨R,[],false,ir J,E.out.2⟩
    have j:=Qh (And.intro g ac);clear g ac;go_wp2_with fail;refine(gi wa R 10 R [] false (r.out.mx.belw q1) E.out.2 E.out.1).mono ?_;rintro A w2⟨rfl,k⟩;have q2:=ag q1 k;go_wp2_with fail;refine(gi w2 R 32 I X f (r.out.mx.belw q2) E.out.2 j.out.1).mono ?_;rintro A w3⟨rfl,l⟩;have q3:=ag q2 l;go_wp2_with fail;refine(kX w3 I j.out.2 (r.out.ev.belw q3) (r.out.tab.belw q3)).mono ?_;rintro A w4⟨z,b4,rfl,_,o⟩;have q4:=ag q3 o;clear k l o;go_wp2_with fail;go_ret2;exact gw.err (eVp (by decide)).symm b.out q4
   obtain⟨a0,g⟩:=wZ a;have b1:=a.1;obtain⟨t,O⟩:=Z9 (Lib.itoa (m:Int)++32::X);obtain⟨I,hI⟩:=Z9 (Lib.itoa (m:Int));rw[O]at a0 g;rw[hI]at g
   have ca:R.length=t.length+(N.length+1):=by
    rw[a.2.2.2,<-O];simp only[kc,oP];omega
   have E:=Qh (And.intro a0 (And.intro g (show R.length<=65536/\t.length<=65536/\N.length<=65536 by omega)));have cr:=Qh a;have HI:=Qh hI;have b9:=Qh (And.intro a.2.1 a.2.2.1);have b5:X.length<=65536:=by rw[a.2.1];decide
   have zN:=ah N;have F:=Qh d;have HY:=Qh hy;have b0:=Qh C;clear a0 g O hI ca a d hy C HX s;have e1:m<=N.length->(⟨N.toArray⟩:ByteArray).extract 0 m=⟨(N.take m).toArray⟩:=fun _=>by rw[dc,Gl,Nat.sub_zero]
   have br:=Qh e1;clear e1;go_wp2_with fail;refine(gi wa R 10 t N true (r.out.mx.belw q1) E.out.2.2.1 E.out.1).mono ?_;rintro A w2⟨rfl,k⟩;have p2:=k;go_wp2_with fail;refine(gi w2 t 32 I X true (r.out.mx.belw (ag q1 p2)) E.out.2.2.2.1 E.out.2.1).mono ?_;rintro A w3⟨rfl,l⟩;have p3:=ag p2 l;clear p2 k l;go_wp2_with fail;refine(pS w3 m b1 I HI.out (r.out.tab.belw (ag q1 p3))).mono ?_;rintro A w4⟨rfl,o⟩;have p4:=ag p3 o;clear p3 o;go_wp2_with fail;refine(uS w4 X b5 true ⟨fun _=>b9.out,fun _=>rfl⟩).mono ?_;rintro A w5⟨rfl,aC⟩;have p5:=ag p4 aC;clear p4 aC;by_cases hNm:N.length<m
   ·have fN:((N.length:Int)<(m:Int))=True:=xr (by omega)
    have p:y=18:=by
     rcases F.out with⟨_,h,_⟩|⟨h,_⟩|⟨h,_⟩
     ·exact h
     ·omega
     omega
    obtain⟨_,rfl,rfl⟩|⟨e,_⟩:=HY.out
    rotate_left
    ·rw[p]at e;cases e
    subst p;have b:Hid (Ls=[]):=Qh (by rw[B.out,kl (by decide)]);go_wp2_with fail;go_ret2;exact gw.err (eVp (by decide)).symm b.out (ag q1 p5)
   have fN:((N.length:Int)<(m:Int))=False:=oK (by omega);have co:m<=N.length:=Nat.le_of_not_lt hNm;have e1:=br.out co;have bz:(N.take m).length<=65536:=by have:=E.out.2.2.2.2;rw[vq];omega
   have e2:(⟨N.toArray⟩:ByteArray).extract m N.length=⟨(N.drop m).toArray⟩:=by rw[dc];rw[ms (by rw[vu];exact Qr)]
   obtain⟨T,hT⟩:=Z9 (N.take m);obtain⟨D,hD⟩:=Z9 (N.drop m);have bd:D.length<=65536:=by have:=E.out.2.2.2.2;rw[<-hD,vu];omega
   rw[hT]at e1 bz;rw[hD]at e2;have d:=F.out;rw[hT,hD]at d;have aZ:=Qh d;have bw:=Qh bd;have zT:=ah T;clear F d hT hD bd br;go_wp2_with fail;refine(ux w5 T (by omega)).mono ?_;rintro A w6⟨rfl,bl⟩;have p6:=ag p5 bl;clear p5 bl;go_wp2_with fail;refine(CP w6 (gI T) (pQ T) (r.out.t64.belw (ag q1 p6))).mono ?_;rintro A w7⟨rfl,bv⟩;have p7:=ag p6 bv;clear p6 bv;obtain⟨Z,hZ⟩:=Z9 (jV (gI T));rw[hZ];by_cases hZX:Z=X;rotate_left
   ·have fZ:(Z==X)=false:=it.2 hZX
    have p:y=14:=by
     rcases aZ.out with⟨h,_⟩|⟨_,_,h,_⟩|⟨_,h,_⟩
     ·omega
     ·exact h
     exact absurd (hZ.symm.trans h) hZX
    obtain⟨_,rfl,rfl⟩|⟨e,_⟩:=HY.out
    rotate_left
    ·rw[p]at e;cases e
    subst p;have b:Hid (Ls=[]):=Qh (by rw[B.out,kl (by decide)]);go_wp2_with fail;go_ret2;exact gw.err (eVp (by decide)).symm b.out (ag q1 p7)
   subst hZX
   obtain⟨u,M,bk,bg⟩:∃u M,cE T u M/\((u≠0/\y=u/\L=L0/\R'=[])\/(u=0/\(aI M≠0\/bV M≠T)/\y=2/\L=L0/\R'=[])\/(u=0/\aI M=0/\bV M=T/\y=0/\L=M/\R'=D)):=by
    rcases aZ.out with⟨h,_⟩|⟨_,h,_⟩|⟨_,_,h⟩
    ·omega
    ·exact absurd hZ h
    exact h
   have ck:=Qh bk;have W:=Qh bg;clear bk bg aZ hZ;go_wp2_with fail;refine(se w7 T u M (r.out.mx.belw (ag q1 p7)) ck.out).mono ?_;rintro A w8⟨A1,n1,c1,B1,m1,d1,C1,k1,q,rfl,a9,a6⟩;have p8:=ag p7 a6;have bb:=Qh a9;clear p7 a6 a9;by_cases hu0:u=0;rotate_left
   ·rw[eVp hu0]
    have p:y=u:=by
     rcases W.out with⟨_,h,_⟩|⟨h,_⟩|⟨h,_⟩
     ·exact h
     ·exact absurd h hu0
     exact absurd h hu0
    obtain⟨_,rfl,rfl⟩|⟨e,_⟩:=HY.out
    rotate_left
    ·rw[p]at e;exact absurd e hu0
    subst p;have b:Hid (Ls=[]):=Qh (by rw[B.out,kl hu0]);go_wp2_with fail;go_ret2;exact gw.err (eVp hu0).symm b.out ((ag q1 p8).alloc (ag q1 p8).size _)
   subst hu0;rw[dn];go_wp2_with fail;have xl:Blk (w8.alloc (.cells #[ae M.name,.slice A1 n1 c1,.slice B1 m1 d1,.slice C1 k1 q] 36)) w8.heap.size 36 #[ae M.name,.slice A1 n1 c1,.slice B1 m1 d1,.slice C1 k1 q]:=aj _ _ _ rfl;have pl:Below w8.heap.size w8 (w8.alloc (.cells #[ae M.name,.slice A1 n1 c1,.slice B1 m1 d1,.slice C1 k1 q] 36)):=(aa w8).alloc Qr _;have al:Hid (LkY 130 (w8.alloc (.cells #[ae M.name,.slice A1 n1 c1,.slice B1 m1 d1,.slice C1 k1 q] 36)) A1 n1 c1 B1 m1 d1 C1 k1 q M):=Qh (bb.out.tch (Tch.below (T:=fun _=>false) pl) rfl rfl rfl rfl);have p9:=ag p8 pl;generalize (w8.alloc (.cells #[ae M.name,.slice A1 n1 c1,.slice B1 m1 d1,.slice C1 k1 q] 36))=w9 at xl al p9⊢;clear p8 pl bb;refine(CR w9 A1 n1 c1 B1 m1 d1 C1 k1 q M (al.out.out.upto (by decide)) (r.out.tab.belw (ag q1 p9))).mono ?_;rintro A wb⟨rfl,an⟩;have pb:=ag p9 an;have qb:=ag q1 pb;by_cases K:aI M=0;rotate_left
   ·rw[eVp K]
    have p:y=2:=by
     rcases W.out with⟨h,_⟩|⟨_,_,h,_⟩|⟨_,h,_⟩
     ·exact absurd rfl h
     ·exact h
     exact absurd h K
    obtain⟨_,rfl,rfl⟩|⟨e,_⟩:=HY.out
    rotate_left
    ·rw[p]at e;cases e
    subst p;have b:Hid (Ls=[]):=Qh (by rw[B.out,kl (by decide)]);go_wp2_with fail;go_ret2;exact gw.err (eVp (by decide)).symm b.out qb
   rw[show bL M=bV M from kZ K,K,dn];obtain⟨G,hG⟩:=Z9 (bV M);rw[hG];by_cases hGT:G=T;rotate_left
   ·have fG:(G==T)=false:=it.2 hGT
    have p:y=2:=by
     rcases W.out with⟨h,_⟩|⟨_,_,h,_⟩|⟨_,_,h,_⟩
     ·exact absurd rfl h
     ·exact h
     exact absurd (hG.symm.trans h) hGT
    obtain⟨_,rfl,rfl⟩|⟨e,_⟩:=HY.out
    rotate_left
    ·rw[p]at e;cases e
    subst p;have b:Hid (Ls=[]):=Qh (by rw[B.out,kl (by decide)]);go_wp2_with fail;go_ret2;exact gw.err (eVp (by decide)).symm b.out qb
   have b2:y=0/\L=M/\R'=D:=by
    rcases W.out with⟨h,_⟩|⟨_,h,_⟩|⟨_,_,_,h⟩
    ·exact absurd rfl h
    ·rcases h with h|h
     ·exact absurd K h
     exact absurd (hG.trans hGT) h
    exact h
   obtain⟨bo,cp,b7⟩:=b2;obtain⟨h,_⟩|⟨_,b8,aS,be⟩:=HY.out
   ·exact absurd bo h
   subst hGT cp b7;have a3:=Qh (And.intro aS be);clear hG K bo aS be W;have xb:=xl.below an xl.lt;have b6:Hid (LkY 130 wb A1 n1 c1 B1 m1 d1 C1 k1 q L):=Qh (al.out.tch (Tch.below (T:=fun _=>false) an) rfl rfl rfl rfl);have cv:=xb.c4;have c2:w8.heap.size<wb.heap.size:=xb.lt;have cm:=Qh (Q.out.lkb pb);obtain⟨a4,xs,Y,cj⟩:=cm.out;have cy:=qb.size;clear p9 an xl al Q pb;go_wp2_with (at_builtin;refine bK _ rfl noW _ _ _ rfl w.heap.size 36 i0 (.agg #[.string ⟨#[]⟩,.slice none 0 0,.slice none 0 0,.slice none 0 0]) 4 88 Tryz.underlying22 aF.out.1 aF.out.2.1 aF.out.2.2.1 aF.out.2.2.2 rfl (by omega) rfl _ i xs rfl (Y.belw ((kz _ _).alloc Qr _)) ⟨wb.heap.size,0,none⟩ 1 1 [_,_,_,_] rfl rfl (x9 (Ao wb _)) (by simp[Value.oneCell']) rfl (by omega) (by unfold maxLen;omega) (by omega) (by simp;omega) ?_;intro gx cap wz a1 U cx);have pa:Below wb.heap.size wb (wb.alloc (.cells #[ae L.name,.slice A1 n1 c1,.slice B1 m1 d1,.slice C1 k1 q] 36)):=(aa wb).alloc Qr _;have ta:=Tch.below (T:=fun _=>false) pa
   have aT:sh 130 wz w.heap.size (.slice (some ⟨gx,0,none⟩) (i+1) cap) (i+1) (As++[L]) :=
    bc.more a4 (Y.belw pa) (cj.map_ fun _ _ x=>x.tch ta rfl rfl rfl rfl) ⟨A1,n1,c1,B1,m1,d1,C1,k1,q,rfl,b6.out.tch ta rfl rfl rfl rfl⟩ a1 U rfl
   have bY:Below w.heap.size w wz:=(qb.alloc qb.size _).grown U (by simp;omega) (da Y.own);go_roundw
   case rel=>exact⟨i+1,R',As++[L],b8,rfl,by go_num,by omega,aT,Qh ⟨a3.out.1,by rw[<-b0.out,a3.out.2];simp,bw.out⟩,bY⟩
   case measure=>simp[intOf];omega
  obtain⟨ad,C,s⟩:=HX.out;obtain rfl:i=n:=by omega
  rw[Nat.sub_self]at ad;obtain⟨rfl,p⟩:=ad;have b3:((i:Int)<(i:Int))=False:=by simp
  by_cases hR:R=[]
  ·subst hR
   rw[kZ rfl]at p;subst p;rw[Gw]at C;have HQ:Hid (Ls=As):=Qh (by rw[B.out,kZ rfl,C]);clear C HX s;go_wp2_with fail;go_ret2;exact⟨A0,i,c0,rfl,by rw[HQ.out];exact Q.out.lks,q1⟩
  have cL:(R==[])=false:=it.2 hR;rw[kl hR]at p;subst p;have HQ:Hid (Ls=[]):=Qh (by rw[B.out,kl (by decide)]);clear C HX s;go_wp2_with fail;go_ret2;exact gw.err (eVp (by decide)).symm HQ.out q1
theorem st4{w:World}{g:Nat}{t:TypeId}{f i j k:Value}(h:Blk w g t #[f,i,j,k])(c d a b:Value):Blk ((((w.setCell ⟨g,0,none⟩ c).setCell ⟨g,1,none⟩ d).setCell ⟨g,2,none⟩ a).setCell ⟨g,3,none⟩ b) g t #[c,d,a,b]:=(((h.set_ 0 c).set_ 1 d).set_ 2 a).set_ 3 b
def Eg(w:World)(x:Int)(Ls:List am)(e:Ending)(w':World):Prop:=∃A m c,e=.returned (.tuple #[.slice A m c,.int .i64 x])/\SlS (iJ 500) 4 w' A m c Ls/\Below w.heap.size w w'
theorem Au(w:World)(S:List UInt8)(hS:S.length<9223372036854775808)(x:Int)(Ls:List am)(h:si S x Ls):Calls Tryz.prog 22 #[ae S] w (Eg w x Ls):=by
 obtain⟨i0,O,F,P,N⟩:=Gb uJ;have p:=Qh (And.intro O (And.intro F (And.intro P N)));clear O F P N;obtain⟨y,n,Y,hb,J⟩:=h;have HB:=Qh hb;have HC:=Qh J;clear hb J;go_in;go_wp2_with fail;refine(Ad w S hS y n Y HB.out).mono ?_;rintro e' w1⟨rfl,q1⟩;by_cases z:y=0;rotate_left
 ·have t1:(y==0)=false:=it.2 z
  have t2:(y=0)=False:=oK z;have t3:(y != 0)=true:=by unfold bne;rw[t1];rfl
  obtain⟨rfl,rfl⟩:x=y/\Ls=[]:=by
   rcases HC.out with⟨_,h⟩|⟨h,_⟩
   ·exact h
   exact absurd h z
  go_wp2_with fail;go_ret2;exact⟨none,0,0,rfl,qj _,q1⟩
 subst z
 obtain⟨G,hu,H⟩:∃G,UnF n Y x G/\Ls=if x=0 then G else []:=by
  rcases HC.out with⟨h,_⟩|⟨_,h⟩
  ·exact absurd rfl h
  exact h
 have c:n<=16/\Y.length<=65536:=by
  rcases HB.out with⟨_,e,_⟩|⟨_,_,e,_⟩|⟨_,_,e,_⟩|⟨hl,hn,aF,_⟩
  ·cases e
  ·cases e
  ·cases e
  refine⟨hn,?_⟩;rw[aF,kc]at hl;omega
 have hn:=c.1;have HU:=Qh hu;have B:=Qh H;have ab:=Qh c.2;clear hu H c HB HC;go_wp2_with fail;go_loopw [0,6,7] (fun rv ov iv wr=>∃(i:Nat) (R:List UInt8) (C M:List am),rv=ae R/\iv=.int .i64 (i:Nat)/\i<=n/\sh 500 wr w.heap.size ov i C/\Hid (UnF (n-i) R x M/\C++M=G/\R.length<=65536)/\Below w.heap.size w wr) (fun _ _ iv _=>n-(intOf iv).toNat)
 case atStart=>exact⟨0,Y,[],G,rfl,rfl,Nat.zero_le _,bc.nil,Qh ⟨HU.out,rfl,ab.out⟩,q1⟩
 case round =>
  clear q1;obtain⟨i,R,C,M,rfl,rfl,hi,j,U,q1⟩:=hrel;rename World=>wa;obtain⟨A0,c0,rfl,aT⟩:=j.form;have d:=Qh j;clear j;rcases Nat.lt_or_ge i n with aS|a3
  ·have an:((i:Int)<(n:Int))=True:=by simp;omega
   obtain⟨l,a,b⟩:=U.out;rw[show n-i=(n-(i+1))+1 by omega]at l;obtain⟨y,L,R',r,z⟩:=l;have HO:=Qh r;have HY:=Qh z;have ad:=Qh a;clear r z U a;go_wp2_with fail;have xl:Blk (wa.alloc (.cells #[.string ⟨#[]⟩,.slice none 0 0,.slice none 0 0,.slice none 0 0] 36)) wa.heap.size 36 #[.string ⟨#[]⟩,.slice none 0 0,.slice none 0 0,.slice none 0 0]:=aj _ _ _ rfl;have pl:Below wa.heap.size wa (wa.alloc (.cells #[.string ⟨#[]⟩,.slice none 0 0,.slice none 0 0,.slice none 0 0] 36)):=(aa wa).alloc Qr _;generalize (wa.alloc (.cells #[.string ⟨#[]⟩,.slice none 0 0,.slice none 0 0,.slice none 0 0] 36))=w2 at xl pl⊢;refine(Fi w2 R b y L R' HO.out).mono ?_;rintro e' w3⟨nm,T,W,n1,k1,X,p1,V,C1,r1,g1,rfl,E,A⟩;have p3:=ag pl A;have K:=xl.below A xl.lt;have HK:=Qh E;have qs:=q1.size;clear pl A xl E;obtain⟨d0,d1,d2,d3⟩:=K.c4;obtain⟨f0,f1,f2,f3⟩:=K.f4;go_upto_region 10 with fail;refine fv ?_;intro g m;have p4:Below wa.heap.size wa g:=by rw[m];exact gM p3 Qr _ _ _ _
   have x4:Blk g wa.heap.size 36 #[ae nm,.slice W n1 k1,.slice X p1 V,.slice C1 r1 g1]:=by rw[m];exact st4 K _ _ _ _
   have t4:Tch (bI 36) w3 g:=by rw[m];exact zJ K ⟨rfl,rfl,rfl,rfl⟩ _ _ _ _
   clear m d0 d1 d2 d3 f0 f1 f2 f3;have q4:=ag q1 p4;by_cases hy0:y=0;rotate_left
   ·have t1:(y==0)=false:=it.2 hy0
    have t2:(y=0)=False:=oK hy0;have t3:(y != 0)=true:=by unfold bne;rw[t1];rfl
    obtain⟨rfl,rfl⟩:x=y/\M=[]:=by
     rcases HY.out with⟨_,h⟩|⟨h,_⟩
     ·exact h
     exact absurd h hy0
    have al:Hid (Ls=[]):=Qh (by rw[B.out,kl hy0]);go_wp2_with fail;go_ret2;exact⟨none,0,0,rfl,by rw[al.out];exact qj _,q4⟩
   subst hy0;obtain⟨rfl,rfl,Q⟩:=HK.out rfl
   obtain⟨o,q,I⟩:∃o,UnF (n-(i+1)) T x o/\M=L::o:=by
    rcases HY.out with⟨h,_⟩|⟨_,h⟩
    ·exact absurd rfl h
    exact h
   have s:T.length<=65536:=by
    have:=(zW HO.out).2;rw[this,kc]at b;omega
   have t:=Qh (And.intro q (And.intro I s));have ao:Hid (LkY 500 g W n1 k1 X p1 V C1 r1 g1 L):=Qh (Q.tch t4 (by decide) (by decide) (by decide) (by decide));clear q I s Q t4 HK HY HO p3 K b;have a1:wa.heap.size<g.heap.size:=x4.lt;have aZ:=x4.c4;obtain⟨D,xs,k,aC⟩:=d.out.lkb p4;have a2:=q4.size;clear x4 d p4;go_wp2_with (at_builtin;refine bK _ rfl noW _ _ _ rfl w.heap.size 36 i0 (.agg #[.string ⟨#[]⟩,.slice none 0 0,.slice none 0 0,.slice none 0 0]) 4 88 Tryz.underlying22 p.out.1 p.out.2.1 p.out.2.2.1 p.out.2.2.2 rfl (by omega) rfl _ i xs rfl (k.belw ((kz _ _).alloc Qr _)) ⟨g.heap.size,0,none⟩ 1 1 [_,_,_,_] rfl rfl (x9 (Ao g _)) (by simp[Value.oneCell']) rfl (by omega) (by unfold maxLen;omega) (by omega) (by simp;omega) ?_;intro gx cap wz v f a0);have pa:Below g.heap.size g (g.alloc (.cells #[ae L.name,.slice W n1 k1,.slice X p1 V,.slice C1 r1 g1] 36)):=(aa g).alloc Qr _;have ta:=Tch.below (T:=fun _=>false) pa
   have u:sh 500 wz w.heap.size (.slice (some ⟨gx,0,none⟩) (i+1) cap) (i+1) (C++[L]) :=
    bc.more D (k.belw pa) (aC.map_ fun _ _ x=>x.tch ta rfl rfl rfl rfl) ⟨W,n1,k1,X,p1,V,C1,r1,g1,rfl,ao.out.tch ta rfl rfl rfl rfl⟩ v f rfl
   have ac:Below w.heap.size w wz:=(q4.alloc q4.size _).grown f (by simp;omega) (da k.own);go_roundw
   case rel=>exact⟨i+1,T,C++[L],o,rfl,by go_num,by omega,u,Qh ⟨t.out.1,by rw[<-ad.out,t.out.2.1];simp,t.out.2.2⟩,ac⟩
   case measure=>simp[intOf];omega
  obtain⟨l,a,b⟩:=U.out;obtain rfl:i=n:=by omega
  rw[Nat.sub_self]at l;obtain⟨rfl,Z⟩:=l;have an:((i:Int)<(i:Int))=False:=by simp
  by_cases hR:R=[]
  ·subst hR
   rw[kZ rfl]at Z;subst Z;rw[Gw]at a;have HQ:Hid (Ls=C):=Qh (by rw[B.out,kZ rfl,a]);clear a U b;go_wp2_with fail;go_ret2;exact⟨A0,i,c0,rfl,by rw[HQ.out];exact d.out.lks,q1⟩
  have a4:(R==[])=false:=it.2 hR;rw[kl hR]at Z;subst Z;have HQ:Hid (Ls=[]):=Qh (by rw[B.out,kl (by decide)]);clear a U b;go_wp2_with fail;go_ret2;exact⟨none,0,0,rfl,by rw[HQ.out];exact qj _,q1⟩
structure Eh where
  a:Nat
  s:Nat
  T:TypeId
  Z:Array Value
  PS:Array Value->World->Prop
structure Cv where
  g:Nat
  s:Nat
  o:Nat
  T:TypeId
  Z:Array Value
  PS:Array Value->World->Prop
def FR(ops:Array Oper)(fr:(Nat->Value)->Act)(R:Nat->Value->World->Prop)(es:List Eh)(ow:List Cv)(B:Nat)(W:World)(L:Array Bool)(a:Act)(w:World):Prop :=
  ∃x,a=fr x/\(Below B W w/\Below B W w)/\(∀i,L.getD i false=true->R i (x i) w) /\
  (∀i o,ops[i]?=some o->L.getD i false=true->∀e∈o.after,Region.binds .any e=true->L.getD e.on false=true) /\
  (∀f∈es,L.getD f.a false=true->∃g c,x f.a=.pointer (some ⟨g,0,none⟩)/\W.heap.size<=g/\Blk w g f.T c/\(L.getD f.s false=false->c=f.Z)/\(L.getD f.s false=true->f.PS c w)) /\
  (∀f∈es,∀f'∈es,f.a≠f'.a->L.getD f.a false=true->L.getD f'.a false=true->x f.a≠x f'.a) /\
  (∀f∈ow,∃c,Blk w f.g f.T c/\(L.getD f.s false=false->c=f.Z)/\(L.getD f.s false=true->f.PS c w))

section
variable (P:Program) (ops:Array Oper) (Q:Exit->Act->World->Prop) (fr:(Nat->Value)->Act) (R:Nat->Value->World->Prop) (es:List Eh) (ow:List Cv) (B:Nat) (W:World)
def Av(i:Nat)(o:Oper):Prop:=(∀f∈es,i≠f.a/\i≠f.s)/\(∀f∈ow,i≠f.s) /\
  ∀ x w,Below B W w->(∀f∈ow,(∀o',ops[f.s]?=some o'->∃e∈o'.after,Region.binds .any e=true/\e.on=i)->Blk w f.g f.T f.Z)->(∀e∈o.after,Region.binds .any e=true->R e.on (x e.on) w)->∀K':Act->World->Prop,Shut (∀v w',R i v w'->Below w.heap.size w w'->K' ((fr x).put o.dst v) w') ->
    if Region.wanted o (yielded ops (fr x).tmps)=true then Oper.wp P o (fr x) w K' Q else K' ((fr x).put o.dst undef) w
def tG(i:Nat)(o:Oper):Prop:=∃f∈es,i=f.a/\(∀f'∈es,i≠f'.s)/\(∀f'∈ow,i≠f'.s)/\(∀f'∈es,f'.a=i->f'=f)/\(∀v w,R i v w) /\
  ∀ x w,∀K':Act->World->Prop,Shut (K' ((fr x).put o.dst (.pointer (some ⟨w.heap.size,0,none⟩))) (w.alloc (.cells f.Z f.T))) ->
    if Region.wanted o (yielded ops (fr x).tmps)=true then Oper.wp P o (fr x) w K' Q else K' ((fr x).put o.dst undef) w
def tH(i:Nat)(o:Oper):Prop:=∃f∈es,i=f.s/\(∀f'∈es,i≠f'.a)/\(∀f'∈ow,i≠f'.s)/\(∀f'∈es,f'.s=i->f'=f)/\(∀f'∈es,f'.a=f.a->f'=f)/\True/\(∀v w,R i v w)/\(∃e∈o.after,Region.binds .any e=true/\e.on=f.a) /\
  ∀ x w g,x f.a=.pointer (some ⟨g,0,none⟩)->Blk w g f.T f.Z->(∀e∈o.after,Region.binds .any e=true->R e.on (x e.on) w) ->
    ∃ us,(∀w',Below B w w'->f.PS (vy f.Z 0 us) w')/\∀K':Act->World->Prop,Shut (∀v,K' ((fr x).put o.dst v) (cN w g 0 us)) ->
      if Region.wanted o (yielded ops (fr x).tmps)=true then Oper.wp P o (fr x) w K' Q else K' ((fr x).put o.dst undef) w
def Aw(i:Nat)(o:Oper):Prop:=∃f∈ow,i=f.s/\(∀f'∈es,i≠f'.a/\i≠f'.s)/\(∀f'∈ow,f'.s=i->f'=f)/\True/\(∀v w,R i v w) /\
  ∀ x w,Blk w f.g f.T f.Z->(∀e∈o.after,Region.binds .any e=true->R e.on (x e.on) w) ->
    ∃ us,(∀w',Below B w w'->f.PS (vy f.Z f.o us) w')/\∀K':Act->World->Prop,Shut (∀v,K' ((fr x).put o.dst v) (cN w f.g f.o us)) ->
      if Region.wanted o (yielded ops (fr x).tmps)=true then Oper.wp P o (fr x) w K' Q else K' ((fr x).put o.dst undef) w
end
section
variable {P:Program}{ops:Array Oper}{Q:Exit->Act->World->Prop}{fr:(Nat->Value)->Act}{R:Nat->Value->World->Prop}{es:List Eh}{ow:List Cv}{B:Nat}
theorem nT{id:Nat}{w:World}{x0:Nat->Value}(hm:P.follows .mixedOrders=true)
 (U:∀i o,ops[i]?=some o->∀x v,(fr x).put o.dst v=fr (upd x i v))
 (bv:∀i o,ops[i]?=some o->∀e∈o.after,Region.binds .any e=true->e.on<i)
 (hR:∀i v w q,R i v w->Below B w q->R i v q)
 (aT:∀f∈es,∀c w q,f.PS c w->Below B w q->f.PS c q)
 (bd:∀f∈ow,∀c w q,f.PS c w->Below B w q->f.PS c q)
 (ac:∀f∈es,f.a<ops.size/\f.s<ops.size)
 (hB:B<=w.heap.size)
 (hO:∀f∈ow,Blk w f.g f.T f.Z/\B<=f.g)
 (br:∀f∈ow,∀l∈ow,f.g=l.g->f=l)
 (ad:∀i o,ops[i]?=some o->Av P ops Q fr R es ow B w i o\/tG P ops Q fr R es ow i o\/tH P ops Q fr R es ow B i o\/Aw P ops Q fr R es ow B i o)
 (bb:∀x q,Below B w q->Below B w q->w.heap.size<=q.heap.size->(∀f∈ow,∃c,Blk q f.g f.T c/\(ops.size<=f.s->c=f.Z)/\(f.s<ops.size->f.PS c q))->(∀i,i<ops.size->R i (x i) q)->(∀f∈es,∃g c,x f.a=.pointer (some ⟨g,0,none⟩)/\w.heap.size<=g/\Blk q g f.T c/\f.PS c q)->(∀f∈es,∀l∈es,f.a≠l.a->x f.a≠x l.a)->Q .normal (fr x) q) :
 (Code.region id ops true).wp P Q (fr x0) w:=by
 refine Hc hm (fJ (fun L a q=>w.heap.size<=q.heap.size/\FR ops fr R es ow B w L a q) ?_ ?_ _ _ _ _ (by simp) ?_ ?_)
 ·rintro L a p i hs hi⟨D,x,rfl,⟨N,hb⟩,hr,a0,hf,hd,Y⟩
  obtain⟨aZ,o,ho,al⟩:=GL.1 hi
  have d:i<L.size:=by
   rcases Nat.lt_or_ge i L.size with h|h
   ·exact h
   rw[pn,zP h]at aZ;cases aZ
  have G:L.getD i false=false:=by
   rw[pn,sr d]at aZ⊢;exact aZ
  have an:∀e∈o.after,Region.binds .any e=true->R e.on (x e.on) p:=fun e he C=>hr _ (al e he C)
  have O:∀i' o',ops[i']?=some o'->(L.setIfInBounds i true).getD i' false=true->∀e∈o'.after,Region.binds .any e=true->(L.setIfInBounds i true).getD e.on false=true:=by
   intro i' o' H hl e he C;rw[ak d]at hl⊢;by_cases h:i'=i
   ·subst h;rw[ho]at H;injection H with H;subst H
    rw[al e he C];simp
   have:L.getD i' false=true:=by simpa[h]using hl
   rw[a0 i' o' H this e he C];simp
  refine Ik ho fun K' hK=>?_
  have a7:∀f∈ow,(∀o',ops[f.s]?=some o'->∃e∈o'.after,Region.binds .any e=true/\e.on=i)->Blk p f.g f.T f.Z:=by
   intro f n bn;obtain⟨c,c1,c2,_⟩:=Y f n
   have:L.getD f.s false=false:=by
    cases h:L.getD f.s false
    ·rfl
    exfalso
    have a2:f.s<ops.size:=by
     rcases Nat.lt_or_ge f.s L.size with y|y
     ·omega
     rw[pn,zP y]at h;cases h
    obtain⟨e,he,C,ao⟩:=bn _ (sr a2);have:=a0 f.s _ (sr a2) h e he C;rw[ao,G]at this;cases this
   rw[<-c2 this];exact c1
  have aF:∀q,Below B p q->(∀g t c,Blk p g t c->(∃f∈ow,f.g=g)->Blk q g t c)->(∀f∈ow,i≠f.s)->∀f∈ow,∃c,Blk q f.g f.T c/\((L.setIfInBounds i true).getD f.s false=false->c=f.Z)/\((L.setIfInBounds i true).getD f.s false=true->f.PS c q):=by
   intro q m bo A f n;obtain⟨c,c1,c2,c3⟩:=Y f n;have I:=A f n;refine⟨c,bo _ _ _ c1 ⟨f,n,rfl⟩,fun h=>c2 ?_,fun h=>bd f n _ _ _ (c3 ?_) m⟩
   ·rw[ak d]at h;simpa[Gn I]using h
   rw[ak d]at h;simpa[Gn I]using h
  rcases ad i o ho with⟨W,F,hv⟩|⟨f,r,rfl,a1,F,E,ab,hv⟩|⟨f,r,rfl,a9,F,E,aS,hT,ab,⟨e,he,C,ao⟩,hv⟩|⟨f,r,rfl,a3,E,hT,ab,hv⟩
  ·refine hv x p N a7 an K' (fun v q bu aC=>hK _ _ ?_)
   have m:Below B p q:=(aC.mono (Nat.le_trans hB D));refine⟨Nat.le_trans D aC.size,upd x i v,U i o ho x v,⟨N.trans m,hb.trans (aC.mono (Nat.le_trans hB D))⟩,fun j hj=>?_,O,fun f b z=>?_,fun f b l k A S y=>?_,aF q m (fun g t c h _=>h.below aC h.lt) F⟩
   ·by_cases h:j=i
    ·subst h;rw[db];exact bu
    rw[aN _ _ h];rw[ak d]at hj;exact hR _ _ _ _ (hr j (by simpa[h]using hj)) m
   ·rw[ak d]at z
    have n1:=(W f b).1;have I:=(W f b).2;rw[aN _ _ (Gn n1)];obtain⟨g,c,e1,X,e3,e4,e5⟩:=hf f b (by simpa[Gn n1]using z);refine⟨g,c,e1,X,e3.below aC e3.lt,fun h=>e4 ?_,fun h=>aT f b _ _ _ (e5 ?_) m⟩
    ·rw[ak d]at h;simpa[Gn I]using h
    rw[ak d]at h;simpa[Gn I]using h
   rw[ak d]at S y;have n1:=(W f b).1;have I:=(W l k).1;rw[aN _ _ (Gn n1),aN _ _ (Gn I)];exact hd f b l k A (by simpa[Gn n1]using S) (by simpa[Gn I]using y)
  ·refine hv x p K' (hK _ _ ?_)
   have m:Below B p (p.alloc (.cells f.Z f.T)):=((kz B p).alloc (Nat.le_trans hB D) _)
   have bk:L.getD f.s false=false:=by
    cases h:L.getD f.s false
    ·rfl
    exfalso;obtain⟨o',H⟩:∃o',ops[f.s]?=some o':=⟨_,sr (ac f r).2⟩;rcases ad f.s o' H with⟨W,_⟩|⟨f2,ba,X,a5,_⟩|⟨f2,ba,X,_,_,bg,_,_,_,⟨e,he,C,ao⟩,_⟩|⟨f2,ba,X,be,_⟩
    ·exact(W f r).2 rfl
    ·exact a5 f r rfl
    ·have:=bg f r rfl
     subst this;have:=a0 f.s o' H h e he C;rw[ao]at this;rw[this]at G;cases G
    exact(be f r).2 rfl
   refine⟨by simp;omega,upd x f.a _,U f.a o ho x _,⟨N.alloc (Nat.le_trans hB D) _,hb.alloc (Nat.le_trans hB D) _⟩,fun j hj=>?_,O,fun l b z=>?_,fun f1 b f2 k A S y=>?_,aF _ m (fun g t c h _=>h.alloc _) F⟩
   ·by_cases h:j=f.a
    ·subst h;exact ab _ _
    rw[aN _ _ h];rw[ak d]at hj;exact hR _ _ _ _ (hr j (by simpa[h]using hj)) m
   ·by_cases h:l.a=f.a
    ·have:=E l b h
     subst this;rw[db];refine⟨_,_,rfl,D,Blk.new _ _ _,fun _=>rfl,fun h'=>?_⟩;rw[ak d,bk]at h';have:l.s=l.a:=by simpa using h'
     exact absurd this.symm (a1 l b)
    rw[aN _ _ h];rw[ak d]at z;have I:=a1 l b;obtain⟨g,c,e1,X,e3,e4,e5⟩:=hf l b (by simpa[h]using z);refine⟨g,c,e1,X,e3.alloc _,fun h=>e4 ?_,fun h=>aT l b _ _ _ (e5 ?_) m⟩
    ·rw[ak d]at h;simpa[Gn I]using h
    rw[ak d]at h;simpa[Gn I]using h
   rw[ak d]at S y
   have fresh:∀f3∈es,f3.a≠f.a->L.getD f3.a false=true->x f3.a≠.pointer (some ⟨p.heap.size,0,none⟩):=by
    intro f3 h3 bx bl M;obtain⟨g,c,e1,X,e3,_⟩:=hf f3 h3 bl;rw[e1]at M;have hg:=e3.lt;injection M with M;injection M with M;injection M with M;omega
   by_cases c1:f1.a=f.a
   ·have c2:f2.a≠f.a:=fun h=>A (c1.trans h.symm)
    rw[c1,db,aN _ _ c2];exact(fresh f2 k c2 (by simpa[c2]using y)).symm
   rw[aN _ _ c1];by_cases c2:f2.a=f.a
   ·rw[c2,db];exact fresh f1 b c1 (by simpa[c1]using S)
   rw[aN _ _ c2];exact hd f1 b f2 k A (by simpa[c1]using S) (by simpa[c2]using y)
  ·have a8:L.getD f.a false=true:=by rw[<-ao];exact al e he C
   obtain⟨g,c,e1,X,e3,e4,e5⟩:=hf f r a8;have hc:=e4 G;subst hc;obtain⟨J,a6,hv⟩:=hv x p g e1 e3 an;refine hv K' (fun v=>hK _ _ ?_);have m:Below B p (cN p g 0 J):=dh (Nat.le_trans hB X) J 0 p (kz _ _);have K:∀f3∈es,f3.a≠f.s:=fun f3 h3 h=>a9 f3 h3 h.symm
   refine⟨Nat.le_trans D (Nat.le_of_eq (fB J 0 p).symm),upd x f.s v,U f.s o ho x v,⟨N.trans m,dh (Nat.le_trans hB X) J 0 p hb⟩,fun j hj=>?_,O,fun l b z=>?_,fun f1 b f2 k A S y=>?_,aF _ m (fun g2 t c h hex=>cW (by obtain⟨f2,y,rfl⟩:=hex;have:=(hO f2 y).1.lt;omega) J 0 p h) F⟩
   ·by_cases h:j=f.s
    ·subst h;exact ab _ _
    rw[aN _ _ h];rw[ak d]at hj;exact hR _ _ _ _ (hr j (by simpa[h]using hj)) m
   ·rw[aN _ _ (K l b)]
    rw[ak d]at z;by_cases h:l.a=f.a
    ·have:=aS l b h
     subst this;refine⟨g,_,e1,X,gc J 0 p _ e3,fun h'=>?_,fun _=>a6 _ m⟩;rw[ak d]at h';simp at h'
    have I:l.s≠f.s:=fun y=>h (by rw[E l b y])
    obtain⟨g',c',d1,d2,d3,d4,d5⟩:=hf l b (by simpa[K l b]using z)
    have a4:g'≠g:=by
     rintro rfl;exact hd l b f r h (by simpa[K l b]using z) a8 (d1.trans e1.symm)
    refine⟨g',c',d1,d2,cW a4 J 0 p d3,fun h=>d4 ?_,fun h=>aT l b _ _ _ (d5 ?_) m⟩
    ·rw[ak d]at h;simpa[I]using h
    rw[ak d]at h;simpa[I]using h
   rw[ak d]at S y;rw[aN _ _ (K f1 b),aN _ _ (K f2 k)];exact hd f1 b f2 k A (by simpa[K f1 b]using S) (by simpa[K f2 k]using y)
  obtain⟨c,c1,c2,_⟩:=Y f r;have hc:=c2 G;subst hc;obtain⟨J,a6,hv⟩:=hv x p c1 an;refine hv K' (fun v=>hK _ _ ?_);have m:Below B p (cN p f.g f.o J):=dh (hO f r).2 J f.o p (kz _ _);have V:∀f3∈es,f3.a≠f.s:=fun f3 h3 h=>(a3 f3 h3).1 h.symm
  have bw:∀f3∈es,f3.s≠f.s:=fun f3 h3 h=>(a3 f3 h3).2 h.symm
  have bz:=(hO f r).1.lt;refine⟨Nat.le_trans D (Nat.le_of_eq (fB J f.o p).symm),upd x f.s v,U f.s o ho x v,⟨N.trans m,dh (hO f r).2 J f.o p hb⟩,fun j hj=>?_,O,fun l b z=>?_,fun f1 b f2 k A S y=>?_,fun l n=>?_⟩
  ·by_cases h:j=f.s
   ·subst h;exact ab _ _
   rw[aN _ _ h];rw[ak d]at hj;exact hR _ _ _ _ (hr j (by simpa[h]using hj)) m
  ·rw[aN _ _ (V l b)]
   rw[ak d]at z;have I:=bw l b;obtain⟨g',c',d1,d2,d3,d4,d5⟩:=hf l b (by simpa[V l b]using z);refine⟨g',c',d1,d2,cW (by omega) J f.o p d3,fun h=>d4 ?_,fun h=>aT l b _ _ _ (d5 ?_) m⟩
   ·rw[ak d]at h;simpa[I]using h
   rw[ak d]at h;simpa[I]using h
  ·rw[ak d]at S y
   rw[aN _ _ (V f1 b),aN _ _ (V f2 k)];exact hd f1 b f2 k A (by simpa[V f1 b]using S) (by simpa[V f2 k]using y)
  by_cases h:l.s=f.s
  ·have:=E l n h
   subst this;refine⟨_,gc J l.o p _ c1,fun h'=>?_,fun _=>a6 _ m⟩;rw[ak d]at h';simp at h'
  obtain⟨c',d3,d4,d5⟩:=Y l n;have a4:l.g≠f.g:=fun y=>h (by rw[br l n f r y])
  refine⟨c',cW a4 J f.o p d3,fun y=>d4 ?_,fun y=>bd l n _ _ _ (d5 ?_) m⟩
  ·rw[ak d]at y;simpa[h]using y
  rw[ak d]at y;simpa[h]using y
 ·rintro L a p hs bs⟨D,x,rfl,⟨N,hb⟩,hr,a0,hf,hd,Y⟩
  have u:∀i,i<ops.size->L.getD i false=true:=by
   intro i
   induction i using Nat.strongRecOn with
   |ind i ih =>
    intro hi;cases h:L.getD i false
    ·exfalso
     have:i∈Region.ready .any ops L:=by
      refine GL.2 ⟨?_,ops[i],sr hi,fun e he C=>?_⟩
      ·rw[pn,sr (by omega)]at h⊢;exact h
      have S:=bv i _ (sr hi) e he C;exact ih e.on S (by omega)
     rw[bs]at this;cases this
    rfl
  refine bb x p N hb D (fun f n=>?_) (fun i hi=>hr i (u i hi)) (fun f b=>?_) (fun f b l k A=>hd f b l k A (u _ (ac f b).1) (u _ (ac l k).1))
  ·obtain⟨c,c1,c2,c3⟩:=Y f n
   refine⟨c,c1,fun h=>c2 ?_,fun h=>c3 (u _ h)⟩;rw[pn,zP (by omega)];rfl
  obtain⟨g,c,e1,X,e3,_,e5⟩:=hf f b (u _ (ac f b).1);exact⟨g,c,e1,X,e3,e5 (u _ (ac f b).2)⟩
 ·simp
 ·have hz:∀j,(Array.replicate ops.size false).getD j false=false:=by
   intro j;rw[pn,Gs];split<;>rfl
  refine⟨Qr,x0,rfl,⟨(kz B w).drew,(kz B w).drew⟩,fun i h=>?_,fun i o _ h=>?_,fun f _ h=>?_,fun f _ l _ _ h=>?_,fun f n=>⟨_,(hO f n).1.drew,fun _=>rfl,fun h=>?_⟩⟩<;>rw[hz]at h<;>cases h
end

theorem AA{ow:List Cv}(h:ow.Pairwise (fun f c=>f.g≠c.g)):∀f∈ow,∀c∈ow,f.g=c.g->f=c:=by
 induction ow with
 |nil=>intro f j;cases j
 |cons a l ih =>
  obtain⟨m,n⟩:=List.pairwise_cons.1 h;intro f j c d k;rcases Gh.1 j with i|i
  ·rcases Gh.1 d with b|b
   ·rw[i,b]
   exact absurd (i ▸ k) (m _ b)
  rcases Gh.1 d with b|b
  ·exact absurd (b ▸ k).symm (m _ i)
  exact ih n f i c b k
def uT(B:Nat):List (Value->World->Prop)->Prop
  |[]=>True
  |p::l=>(∀v w w',p v w->Below B w w'->p v w')/\uT B l
theorem uT.get{B:Nat}:∀(l:List (Value->World->Prop)),uT B l->∀i v w a,l.getD i (fun _ _=>True) v w->Below B w a->l.getD i (fun _ _=>True) v a:=by
 intro l
 induction l with
 |nil=>intro _ i v w a _ _;simp
 |cons p l ih =>
  intro h i v w a b c
  cases i with
  |zero=>exact h.1 v w a b c
  |succ i=>exact ih h.2 i v w a b c
theorem bEq{B:Nat}(u:Value):∀v w w',PEq u v w->Below B w w'->PEq u v w':=fun _ _ _ h _=>h
theorem Cw{B:Nat}:∀v w w',qR v w->Below B w w'->qR v w':=fun _ _ _ h _=>h
end Go.Proofs.YtfilnhompchciaaGreatDoor
namespace Bn
theorem Ei{l a:List Nat}(c:l.length=a.length)(h:∀i,i<l.length->wd l i=wd a i):l=a:=by
 refine List.ext_getElem c fun i b d=>?_
 have:=h i b;rw[mc b,mc d]at this;exact this
theorem Fj{l a:List Nat}(d:l.length=a.length)(h:l≠a):∃i,i<l.length/\wd l i≠wd a i:=by
 apply Classical.byContradiction;intro b;apply h;refine Ei d fun i c=>?_
 apply Classical.byContradiction;intro e;exact b ⟨i,c,e⟩
end Bn

/- Walks: fields that differ. -/
namespace Go.Proofs.YtfilnhompchciaaGreatDoor
open Go Go.RowKit Bn
attribute [local go_sem ↓] Go.wp_at_zero Go.wp_at_succ
theorem nq(w:World)(A n c l)(p:Wd w A n c l)(A' a c' l')(s:Wd w A' a c' l')(f:l≠l')(M:n<=1000000000)(G:a<=1000000000):
 Calls Tryz.prog 122 #[.slice A n c,.slice A' a c'] w (av w (.bool false)):=by
 by_cases hnn:a=n
 ·subst hnn
  obtain⟨j,H,k⟩:=Fj (by rw[<-p.2.1,<-s.2.1]) f;rw[<-p.2.1]at H;have F:=Qh p;have D:=Qh s;have z:=Qh k;clear p s f k;go_in;go_wp2_with fail;go_loopw [5] (fun t wr=>∃(i q:Nat),i<=j/\t=.int .i64 (i:Nat)/\wr=w.drewN q) (fun t _=>a-(intOf t).toNat)
  case atStart=>exact⟨0,0,Nat.zero_le _,rfl,rfl⟩
  case round =>
   obtain⟨i,q,L,rfl,rfl⟩:=hrel;have d:i<a:=by omega
   obtain⟨g,o,rfl,r⟩:=F.out.at_ (by omega);obtain⟨g',K,rfl,m⟩:=D.out.at_ (by omega);have E:=r i d;have B:=m i d;have I:(0:Int)<=(i:Int):=by omega
   have v:(i:Int)<(a:Int):=by omega
   have b:=Qh (show i=j->wd l i≠wd l' i by rintro rfl;exact z.out);generalize wd l i=x at E b;generalize wd l' i=y at B b;clear r m;by_cases hxy:x=y
   ·subst hxy
    have C:i<j:=by
     rcases Nat.lt_or_ge i j with h|h
     ·exact h
     exact absurd rfl (b.out (by omega))
    go_wp2_with fail;go_quiet (fail);go_wp2;go_roundw
    case rel=>exact⟨i+1,_,by omega,by go_num,rfl⟩
    case measure=>simp[intOf];omega
   have u:¬(x:Int)=(y:Int):=by omega
   go_wp2_with fail;go_quiet (fail);go_wp2;go_ret;exact cg rfl (by repeat (first|exact kz _ _|refine af ?_ _))
 have N:((n:Int)==(a:Int))=false:=by simp;omega
 have J:¬(n:Int)=(a:Int):=by omega
 clear p s;go_in;go_wp2;go_ret;exact cg rfl (aa w)
theorem xc(w:World)(b:Bool)(A:Option Addr)(n c:Nat)(D:Option Addr)(m e:Nat)(r:RD)(k:Nat)(h:QD w b A n c D m e r k)(d:Bool)(s:Option Addr)(j o:Nat)(t:Option Addr)(u p:Nat)(y:RD)(q:Nat)(C:QD w d s j o t u p y q)(a:b≠d)(H:k<=1000000)(B:q<=1000000):
 Calls Tryz.prog 87 #[.agg #[.bool b,.slice A n c,.slice D m e],.agg #[.bool d,.slice s j o,.slice t u p]] w (av w (.bool false)):=by
 obtain⟨F,G,hd,z,x⟩:=h;obtain⟨i,g,f,l,v⟩:=C;have I:(b==d)=false:=by simpa using a
 have E:¬b=d:=a;clear G hd g f F i;go_in;go_wp2;go_ret;exact cg rfl (((aa w).alloc Qr _).alloc (by simp) _)
theorem xd(w:World)(b:Bool)(A:Option Addr)(n c:Nat)(D:Option Addr)(m e:Nat)(r:RD)(k:Nat)(h:QD w b A n c D m e r k)(t:Bool)(o:Option Addr)(i j:Nat)(p:Option Addr)(q l:Nat)(s:RD)(z:Nat)(J:QD w t o i j p q l s z)(u:b=t)(d:r.num≠s.num)(N:k<=1000000)(I:z<=1000000):
 Calls Tryz.prog 87 #[.agg #[.bool b,.slice A n c,.slice D m e],.agg #[.bool t,.slice o i j,.slice p q l]] w (av w (.bool false)):=by
 obtain⟨L,C,hd,G,F⟩:=h;obtain⟨v,g,f,x,B⟩:=J;subst u;have P:(b==b)=true:=by simp
 have y:=Qh (And.intro C g);have O:=Qh (And.intro hd f);have K:=Qh d;clear C g hd f d L v;go_in;go_wp2_with fail;refine(nq _ A n c r.num ?_ o i j s.num ?_ ?_ ?_ ?_).mono ?_;(exact y.out.1.keep (((Kp.refl _).alloc _).alloc _));(exact y.out.2.keep (((Kp.refl _).alloc _).alloc _));(exact K.out);(omega);(omega);rintro e a⟨rfl,hb⟩;have q1:Below w.heap.size w a:=(((kz _ _).alloc Qr _).alloc (by simp) _).trans (hb.mono (by simp<;>omega));have x0:Blk a w.heap.size 65 #[.bool b,.slice A n c,.slice D m e]:=((aj w _ _ rfl).alloc _).below hb (by simp<;>omega);have M:Blk a (w.heap.size+1) 65 #[.bool b,.slice o i j,.slice p q l]:=(aj _ _ _ (by simp)).below hb (by simp);have H:a.cell? ⟨w.heap.size,2,none⟩=some (.slice D m e):=x0.cell 2;have E:a.cell? ⟨w.heap.size+1,2,none⟩=some (.slice p q l):=M.cell 2;clear hb;go_wp2;go_ret;exact⟨rfl,q1⟩
theorem xe(w:World)(b:Bool)(A:Option Addr)(n c:Nat)(D:Option Addr)(m e:Nat)(r:RD)(k:Nat)(h:QD w b A n c D m e r k)(t:Bool)(s:Option Addr)(o q:Nat)(i:Option Addr)(j g:Nat)(p:RD)(C:Nat)(M:QD w t s o q i j g p C)(u:b=t)(x:r.num=p.num)(f:r.den≠p.den)(Q:k<=1000000)(L:C<=1000000):
 Calls Tryz.prog 87 #[.agg #[.bool b,.slice A n c,.slice D m e],.agg #[.bool t,.slice s o q,.slice i j g]] w (av w (.bool false)):=by
 obtain⟨O,G,hd,J,I⟩:=h;obtain⟨y,a,l,z,F⟩:=M;rw[<-x]at a;subst u;have R:(b==b)=true:=by simp
 have B:=Qh (And.intro G a);have E:=Qh (And.intro hd l);have N:=Qh f;clear G a hd l f O y;go_in;go_wp2_with fail;refine(px _ A n c r.num ?_ s o q ?_ ?_).mono ?_;(exact B.out.1.keep (((Kp.refl _).alloc _).alloc _));(exact B.out.2.keep (((Kp.refl _).alloc _).alloc _));(omega);rintro e d⟨rfl,hb⟩;have q1:Below w.heap.size w d:=(((kz _ _).alloc Qr _).alloc (by simp) _).trans (hb.mono (by simp<;>omega));have x0:Blk d w.heap.size 65 #[.bool b,.slice A n c,.slice D m e]:=((aj w _ _ rfl).alloc _).below hb (by simp<;>omega);have P:Blk d (w.heap.size+1) 65 #[.bool b,.slice s o q,.slice i j g]:=(aj _ _ _ (by simp)).below hb (by simp);have K:d.cell? ⟨w.heap.size,2,none⟩=some (.slice D m e):=x0.cell 2;have H:d.cell? ⟨w.heap.size+1,2,none⟩=some (.slice i j g):=P.cell 2;clear hb;go_wp2_with fail;refine(nq _ D m e r.den ?_ i j g p.den ?_ ?_ ?_ ?_).mono ?_;(exact E.out.1.belw q1);(exact E.out.2.belw q1);(exact N.out);(omega);(omega);rintro e S⟨rfl,v⟩;go_wp2;go_ret;exact⟨rfl,q1.trans (v.mono q1.size)⟩
theorem AB(w:World)(b:Bool)(A:Option Addr)(n c:Nat)(D:Option Addr)(m e:Nat)(t:Bool)(p:Option Addr)(l o:Nat)(f:Option Addr)(g d:Nat)(r:RD)(k F:Nat)(h:QD w b A n c D m e r k)(E:QD w t p l o f g d r F)(I:k<=1000000):
 Calls Tryz.prog 87 #[.agg #[.bool b,.slice A n c,.slice D m e],.agg #[.bool t,.slice p l o,.slice f g d]] w (av w (.bool true)):=by
 obtain⟨G,x,hd,B,z⟩:=h;obtain⟨s,j,i,_,_⟩:=E;subst G s;have J:(r.neg==r.neg)=true:=by simp
 have u:=Qh (And.intro x j);have v:=Qh (And.intro hd i);clear x j hd i;go_in;go_wp2_with fail;refine(px _ A n c r.num ?_ p l o ?_ ?_).mono ?_;(exact u.out.1.keep (((Kp.refl _).alloc _).alloc _));(exact u.out.2.keep (((Kp.refl _).alloc _).alloc _));(omega);rintro e a⟨rfl,hb⟩;have q1:Below w.heap.size w a:=(((kz _ _).alloc Qr _).alloc (by simp) _).trans (hb.mono (by simp<;>omega));have x0:Blk a w.heap.size 65 #[.bool r.neg,.slice A n c,.slice D m e]:=((aj w _ _ rfl).alloc _).below hb (by simp<;>omega);have H:Blk a (w.heap.size+1) 65 #[.bool r.neg,.slice p l o,.slice f g d]:=(aj _ _ _ (by simp)).below hb (by simp);have C:a.cell? ⟨w.heap.size,2,none⟩=some (.slice D m e):=x0.cell 2;have y:a.cell? ⟨w.heap.size+1,2,none⟩=some (.slice f g d):=H.cell 2;clear hb;go_wp2_with fail;refine(px _ D m e r.den ?_ f g d ?_ ?_).mono ?_;(exact v.out.1.belw q1);(exact v.out.2.belw q1);(omega);rintro e K⟨rfl,q⟩;go_wp2;go_ret;exact⟨rfl,q1.trans (q.mono q1.size)⟩
theorem uU(w:World)(b:Bool)(A:Option Addr)(n c:Nat)(D:Option Addr)(m e:Nat)(d:Bool)(o:Option Addr)(g i:Nat)(p:Option Addr)(q j:Nat)(r a:RD)(k l:Nat)(h:QD w b A n c D m e r k)(s:QD w d o g i p q j a l)(t:k<=1000000)(f:l<=1000000)(v:Bool)(z:v=true ↔ r=a):
 Calls Tryz.prog 87 #[.agg #[.bool b,.slice A n c,.slice D m e],.agg #[.bool d,.slice o g i,.slice p q j]] w (av w (.bool v)):=by
 by_cases e1:r=a
 ·subst e1
  rw[z.2 rfl];exact AB w b A n c D m e d o g i p q j r k l h s t
 have u:v=false:=by cases v;rfl;exact absurd (z.1 rfl) e1
 subst u;by_cases eb:b=d
 ·by_cases en:r.num=a.num
  ·refine xe w b A n c D m e r k h d o g i p q j a l s eb en (fun y=>e1 ?_) t f
   have x:r.neg=a.neg:=by rw[h.1,s.1,eb]
   obtain⟨G,H,E⟩:=r;obtain⟨B,F,C⟩:=a;simp only at x en y;rw[x,en,y]
  exact xd w b A n c D m e r k h d o g i p q j a l s eb en t f
 exact xc w b A n c D m e r k h d o g i p q j a l s eb t f
def AD(w:World)(g o:Nat)(s:Value)(b1:Bool)(A1:Option Addr)(n1 c1:Nat)(D1:Option Addr)(m1 e1:Nat)(b2:Bool)(A2:Option Addr)(n2 c2:Nat)(D2:Option Addr)(m2 e2:Nat):Prop :=
  w.cell? ⟨g,o,none⟩=some s/\w.cell? ⟨g,o+1,none⟩=some (.bool b1)/\w.cell? ⟨g,o+2,none⟩=some (.slice A1 n1 c1)/\w.cell? ⟨g,o+3,none⟩=some (.slice D1 m1 e1)/\w.cell? ⟨g,o+4,none⟩=some (.bool b2)/\w.cell? ⟨g,o+5,none⟩=some (.slice A2 n2 c2)/\w.cell? ⟨g,o+6,none⟩=some (.slice D2 m2 e2)
section
variable {w w':World}{g o:Nat}{s:Value}{b1 b2:Bool}{A1 D1 A2 D2:Option Addr}{n1 c1 m1 e1 n2 c2 m2 e2:Nat}
theorem AE(h:w.cell? ⟨g,o,none⟩=some s)(d:w.cell? ⟨g,o+1,none⟩=some (.bool b1))(b:w.cell? ⟨g,o+1+1,none⟩=some (.slice A1 n1 c1))(i:w.cell? ⟨g,o+1+2,none⟩=some (.slice D1 m1 e1))(c:w.cell? ⟨g,o+4,none⟩=some (.bool b2))(f:w.cell? ⟨g,o+4+1,none⟩=some (.slice A2 n2 c2))(a:w.cell? ⟨g,o+4+2,none⟩=some (.slice D2 m2 e2)):AD w g o s b1 A1 n1 c1 D1 m1 e1 b2 A2 n2 c2 D2 m2 e2:=⟨h,d,b,i,c,f,a⟩
theorem lK(h:AD w g o s b1 A1 n1 c1 D1 m1 e1 b2 A2 n2 c2 D2 m2 e2)(hb:Below w.heap.size w w'):
 w'.cell? ⟨g,o,none⟩=some s/\w'.cell? ⟨g,o+1,none⟩=some (.bool b1)/\w'.cell? ⟨g,o+2,none⟩=some (.slice A1 n1 c1)/\w'.cell? ⟨g,o+3,none⟩=some (.slice D1 m1 e1)/\w'.cell? ⟨g,o+4,none⟩=some (.bool b2)/\w'.cell? ⟨g,o+5,none⟩=some (.slice A2 n2 c2)/\w'.cell? ⟨g,o+6,none⟩=some (.slice D2 m2 e2) :=
 ⟨aw h.1 hb,aw h.2.1 hb,aw h.2.2.1 hb,aw h.2.2.2.1 hb,aw h.2.2.2.2.1 hb,aw h.2.2.2.2.2.1 hb,aw h.2.2.2.2.2.2 hb⟩
end
theorem qk(p:Prop):∃v:Bool,v=true ↔ p:=by
 by_cases h:p
 ·exact⟨true,by simp[h]⟩
 exact⟨false,by simp[h]⟩
theorem Fk:Tryz.prog.eqGuardType Tryz.prog.depth 79=false:=by kernel_rfl
theorem Fl:Tryz.prog.stoodInHeld 79=false:=by kernel_rfl
theorem Fm:Tryz.prog.eqGuardType Tryz.prog.depth 81=false:=by kernel_rfl
theorem Fn:Tryz.prog.stoodInHeld 81=false:=by kernel_rfl
theorem jS{α:Type}{l m:List α}{i:Nat}{a:α}(h:l.take i=m.take i)(c:l[i]?=some a)(b:m[i]?=some a):l.take (i+1)=m.take (i+1):=by rw[FV,FV,h,c,b]
theorem AF(w:World)(A:Option Addr)(n c:Nat)(a:aq)(h:SlS (hH 1000000) 7 w A n c a.pts)(A':Option Addr)(n' M:Nat)(b:aq)(h':SlS (hH 1000000) 7 w A' n' M b.pts)(hn:n<=1000)(v:Bool)(hv:v=true ↔ a=b):
 Calls Tryz.prog 47 #[.agg #[ae a.name,.slice A n c],.agg #[ae b.name,.slice A' n' M]] w (av w (.bool v)):=by
 have H:=Qh (And.intro h h');have HV:=Qh hv;clear h h' hv;by_cases en:a.name=b.name
 ·by_cases el:n=n'
  ·subst el
   have hs:(a.name==b.name)=true:=xm.2 en;have HN:=Qh en;have dr:=H.out.1.2.1;have c9:=H.out.2.2.1;have cu:=Qh H.out.1.1;have bY:=Qh H.out.2.1;clear en;go_in;go_wp2_with fail;go_loopw [5] (fun iv wr=>∃i:Nat,iv=.int .i64 (i:Nat)/\i<=n/\Hid (a.pts.take i=b.pts.take i)/\Blk wr w.heap.size 62 #[ae a.name,.slice A n c]/\Blk wr (w.heap.size+1) 62 #[ae b.name,.slice A' n M]/\Below w.heap.size w wr) (fun iv _=>n-(intOf iv).toNat)
   case atStart=>exact⟨0,rfl,Nat.zero_le _,Qh rfl,(aj w _ _ rfl).alloc _,aj _ _ _ (by simp),((aa w).alloc Qr _).alloc (by simp) _⟩
   case round =>
    obtain⟨i,rfl,hi,HI,xa,xb,L⟩:=hrel;rename World=>wa;have ds:w.heap.size<wa.heap.size:=xa.lt;have dO:w.heap.size+1<wa.heap.size:=xb.lt;rcases Nat.lt_or_ge i n with a5|bo
    ·have b0:((i:Int)<(n:Int))=True:=by simp;omega
     obtain⟨g,o,x,r,hg,_,ba,hX⟩:=H.out.1.at_ a5;subst r;obtain⟨F,E,y,r,dv,_,aZ,hY⟩:=H.out.2.at_ a5;subst r;have a4:=xa.cell 1;obtain⟨d0,⟨Q,U,Z,c1,Y,m1,r,d1,d2,d3,br⟩,⟨S,A2,n2,c2,D2,m2,t,d4,d5,d6,a0⟩,_⟩:=hX;obtain⟨f0,⟨T,W,n3,c3,D3,m3,O,f1,f2,f3,bk⟩,⟨b4,A4,n4,c4,V,X,e4,f4,f5,f6,bs⟩,_⟩:=hY;have c6:=Qh (AE d0 d1 d2 d3 d4 d5 d6);have cy:=Qh (AE f0 f1 f2 f3 f4 f5 f6);have HQ:=Qh (And.intro br (And.intro a0 (And.intro bk bs)));have s:=Qh (And.intro ba aZ);clear d0 d1 d2 d3 d4 d5 d6 f0 f1 f2 f3 f4 f5 f6 br a0 bk bs ba aZ;go_wp2_with fail;clear a4;have dd:((i:Int)<(n:Int)):=by omega
     refine nT (B:=w.heap.size) (fr:=fun j=>⟨List.toArray (.agg #[ae a.name,.slice (some ⟨g,o,none⟩) n c] :: .agg #[ae b.name,.slice (some ⟨F,E,none⟩) n M] :: .pointer (some ⟨w.heap.size,0,none⟩) :: .pointer (some ⟨w.heap.size+1,0,none⟩)::u4 :: .int .i64 (i:Nat)::j 10::j 11 :: .pointer (some ⟨w.heap.size,0,none⟩)::ae a.name :: .pointer (some ⟨w.heap.size+1,0,none⟩)::ae b.name :: .bool false :: .bool false :: .pointer (some ⟨w.heap.size,1,none⟩) :: .slice (some ⟨g,o,none⟩) n c :: .int .i64 (n:Nat) :: .pointer (some ⟨w.heap.size+1,1,none⟩) :: .slice (some ⟨F,E,none⟩) n M :: .int .i64 (n:Nat) :: .bool false :: .bool false :: .int .i64 (i:Nat) :: .pointer (some ⟨w.heap.size,1,none⟩) :: .slice (some ⟨g,o,none⟩) n c :: .int .i64 (n:Nat) :: .bool true::u27::u28::j 0::j 1::j 2::j 3::j 4::j 5::j 6::j 7::j 8::j 9::u39::u40::u41::u42::u43::u44::u45::u46::u47::u48::u49::u50::u51::u52::u53::u54::u55::u56::u57::u58::u59::[]),[]⟩) (R:=fun ri=>List.getD ((PEq (.pointer (some ⟨w.heap.size,1,none⟩)))::(PEq (.slice (some ⟨g,o,none⟩) n c))::(PEq (.int .i64 (i:Nat)))::(PEq (.pointer (some ⟨g,o+i*7,none⟩)))::(PEq (.agg #[ae x.name,.bool Q,.slice U Z c1,.slice Y m1 r,.bool S,.slice A2 n2 c2,.slice D2 m2 t]))::(PEq (.pointer (some ⟨w.heap.size+1,1,none⟩)))::(PEq (.slice (some ⟨F,E,none⟩) n M))::(PEq (.int .i64 (i:Nat)))::(PEq (.pointer (some ⟨F,E+i*7,none⟩)))::(PEq (.agg #[ae y.name,.bool T,.slice W n3 c3,.slice D3 m3 O,.bool b4,.slice A4 n4 c4,.slice V X e4]))::qR::qR::qR::qR::[]) ri (fun _ _=>True)) (es:=[⟨10,12,67,#[.string ⟨#[]⟩,.bool false,.slice none 0 0,.slice none 0 0,.bool false,.slice none 0 0,.slice none 0 0],fun I _=>I=#[ae x.name,.bool Q,.slice U Z c1,.slice Y m1 r,.bool S,.slice A2 n2 c2,.slice D2 m2 t]⟩,⟨11,13,67,#[.string ⟨#[]⟩,.bool false,.slice none 0 0,.slice none 0 0,.bool false,.slice none 0 0,.slice none 0 0],fun I _=>I=#[ae y.name,.bool T,.slice W n3 c3,.slice D3 m3 O,.bool b4,.slice A4 n4 c4,.slice V X e4]⟩]) (ow:=[⟨w.heap.size,14,0,62,#[ae a.name,.slice (some ⟨g,o,none⟩) n c],fun _ _=>True⟩,⟨w.heap.size+1,14,0,62,#[ae b.name,.slice (some ⟨F,E,none⟩) n M],fun _ _=>True⟩]) (x0:=(upd (upd (upd (upd (upd (upd (upd (upd (upd (upd (upd (upd (fun _=>undef) 0 u29) 1 u30) 2 u31) 3 u32) 4 u33) 5 u34) 6 u35) 7 u36) 8 u37) 9 u38) 10 u6) 11 u7)) (by kernel_rfl)
      (aD ⟨fun _ _=>rfl,fun _ _=>rfl,fun _ _=>rfl,fun _ _=>rfl,fun _ _=>rfl,fun _ _=>rfl,fun _ _=>rfl,fun _ _=>rfl,fun _ _=>rfl,fun _ _=>rfl,fun _ _=>rfl,fun _ _=>rfl,fun _ _=>rfl,fun _ _=>rfl,trivial⟩) (aD (bP _ 0 (by kernel_rfl))) (uT.get _ ⟨bEq _,bEq _,bEq _,bEq _,bEq _,bEq _,bEq _,bEq _,bEq _,bEq _,Cw,Cw,Cw,Cw,trivial⟩)
      (fmc ⟨fun _ _ _ h _=>h,fmc ⟨fun _ _ _ h _=>h,fun _ h=>nomatch h⟩⟩) (fmc ⟨fun _ _ _ _ _=>GI,fmc ⟨fun _ _ _ _ _=>GI,fun _ h=>nomatch h⟩⟩) (fmc ⟨⟨by simp,by simp⟩,fmc ⟨⟨by simp,by simp⟩,fun _ h=>nomatch h⟩⟩) L.size
      (fmc ⟨⟨xa,Qr⟩,fmc ⟨⟨xb,by show w.heap.size<=w.heap.size+1;omega⟩,fun _ h=>nomatch h⟩⟩) (AA (by simp<;>omega))
      (aD ⟨?_,?_,?_,?_,?_,?_,?_,?_,?_,?_,?_,?_,?_,?_,trivial⟩) ?_
     ·exact .inl ⟨by simp,by simp,fun j f z p hd K m=>by
       (try dsimp only);go_simp;have l:=m.out (.pointer (some ⟨w.heap.size,1,none⟩)) _ rfl (aa _)
       exact l⟩
     ·exact .inl ⟨by simp,by simp,fun j f z p hd K m=>by
       have aT:j 0=.pointer (some ⟨w.heap.size,1,none⟩):=hd ⟨0,.data⟩ (by simp) rfl;have y:Blk f w.heap.size 62 #[ae a.name,.slice (some ⟨g,o,none⟩) n c]:=p _ (GG _) (by simp[Region.binds]);have aF:f.cell? ⟨w.heap.size,1,none⟩=some (.slice (some ⟨g,o,none⟩) n c):=y.cell 1;(try dsimp only);(try simp only[aT]);go_simp;have l:=m.out (.slice (some ⟨g,o,none⟩) n c) _ rfl (aa _);simp only[aT]at l
       exact l⟩
     ·exact .inl ⟨by simp,by simp,fun j f z p hd K m=>by
       (try dsimp only);go_simp;have l:=m.out (.int .i64 (i:Nat)) _ rfl (aa _)
       exact l⟩
     ·exact .inl ⟨by simp,by simp,fun j f z p hd K m=>by
       have bu:j 1=.slice (some ⟨g,o,none⟩) n c:=hd ⟨1,.data⟩ (by simp) rfl;have aS:j 2=.int .i64 (i:Nat):=hd ⟨2,.data⟩ (by simp) rfl;(try dsimp only);(try simp only[bu,aS]);go_simp;have l:=m.out (.pointer (some ⟨g,o+i*7,none⟩)) _ rfl (aa _);simp only[bu,aS]at l
       exact l⟩
     ·exact .inl ⟨by simp,by simp,fun j f z p hd K m=>by
       have bg:j 3=.pointer (some ⟨g,o+i*7,none⟩):=hd ⟨3,.data⟩ (by simp) rfl;obtain⟨k0,k1,k2,k3,k4,k5,k6⟩:=lK c6.out (L.trans z);(try dsimp only);(try simp only[bg]);go_simp;have l:=m.out (.agg #[ae x.name,.bool Q,.slice U Z c1,.slice Y m1 r,.bool S,.slice A2 n2 c2,.slice D2 m2 t]) _ rfl (aa _);simp only[bg]at l
       exact l⟩
     ·exact .inl ⟨by simp,by simp,fun j f z p hd K m=>by
       (try dsimp only);go_simp;have l:=m.out (.pointer (some ⟨w.heap.size+1,1,none⟩)) _ rfl (aa _)
       exact l⟩
     ·exact .inl ⟨by simp,by simp,fun j f z p hd K m=>by
       have bn:j 5=.pointer (some ⟨w.heap.size+1,1,none⟩):=hd ⟨5,.data⟩ (by simp) rfl;have y:Blk f (w.heap.size+1) 62 #[ae b.name,.slice (some ⟨F,E,none⟩) n M]:=p _ (Hr _ (GG _)) (by simp[Region.binds]);have aF:f.cell? ⟨w.heap.size+1,1,none⟩=some (.slice (some ⟨F,E,none⟩) n M):=y.cell 1;(try dsimp only);(try simp only[bn]);go_simp;have l:=m.out (.slice (some ⟨F,E,none⟩) n M) _ rfl (aa _);simp only[bn]at l
       exact l⟩
     ·exact .inl ⟨by simp,by simp,fun j f z p hd K m=>by
       (try dsimp only);go_simp;have l:=m.out (.int .i64 (i:Nat)) _ rfl (aa _)
       exact l⟩
     ·exact .inl ⟨by simp,by simp,fun j f z p hd K m=>by
       have a3:j 6=.slice (some ⟨F,E,none⟩) n M:=hd ⟨6,.data⟩ (by simp) rfl;have bw:j 7=.int .i64 (i:Nat):=hd ⟨7,.data⟩ (by simp) rfl;(try dsimp only);(try simp only[a3,bw]);go_simp;have l:=m.out (.pointer (some ⟨F,E+i*7,none⟩)) _ rfl (aa _);simp only[a3,bw]at l
       exact l⟩
     ·exact .inl ⟨by simp,by simp,fun j f z p hd K m=>by
       have a7:j 8=.pointer (some ⟨F,E+i*7,none⟩):=hd ⟨8,.data⟩ (by simp) rfl;obtain⟨k0,k1,k2,k3,k4,k5,k6⟩:=lK cy.out (L.trans z);(try dsimp only);(try simp only[a7]);go_simp;have l:=m.out (.agg #[ae y.name,.bool T,.slice W n3 c3,.slice D3 m3 O,.bool b4,.slice A4 n4 c4,.slice V X e4]) _ rfl (aa _);simp only[a7]at l
       exact l⟩
     ·exact .inr (.inl ⟨⟨10,12,67,#[.string ⟨#[]⟩,.bool false,.slice none 0 0,.slice none 0 0,.bool false,.slice none 0 0,.slice none 0 0],fun I _=>I=#[ae x.name,.bool Q,.slice U Z c1,.slice Y m1 r,.bool S,.slice A2 n2 c2,.slice D2 m2 t]⟩,by simp,rfl,by simp,by simp,by simp,fun _ _=>GI,fun j f K m=>by
       (try dsimp only);go_simp
       exact m.out⟩)
     ·exact .inr (.inl ⟨⟨11,13,67,#[.string ⟨#[]⟩,.bool false,.slice none 0 0,.slice none 0 0,.bool false,.slice none 0 0,.slice none 0 0],fun I _=>I=#[ae y.name,.bool T,.slice W n3 c3,.slice D3 m3 O,.bool b4,.slice A4 n4 c4,.slice V X e4]⟩,by simp,rfl,by simp,by simp,by simp,fun _ _=>GI,fun j f K m=>by
       (try dsimp only);go_simp
       exact m.out⟩)
     ·exact .inr (.inr (.inl ⟨⟨10,12,67,#[.string ⟨#[]⟩,.bool false,.slice none 0 0,.slice none 0 0,.bool false,.slice none 0 0,.slice none 0 0],fun I _=>I=#[ae x.name,.bool Q,.slice U Z c1,.slice Y m1 r,.bool S,.slice A2 n2 c2,.slice D2 m2 t]⟩,by simp,rfl,by simp,by simp,by simp,by simp,GI,fun _ _=>GI,⟨⟨10,.data⟩,by simp,rfl,rfl⟩,fun j f k hx d hd=>by
       have be:j 4=.agg #[ae x.name,.bool Q,.slice U Z c1,.slice Y m1 r,.bool S,.slice A2 n2 c2,.slice D2 m2 t]:=hd ⟨4,.data⟩ (by simp) rfl;dsimp only at hx d;refine⟨[ae x.name,.bool Q,.slice U Z c1,.slice Y m1 r,.bool S,.slice A2 n2 c2,.slice D2 m2 t],fun w' z=>rfl,fun K m=>?_⟩;have cp:f.cell? ⟨k,0,none⟩=some (.string ⟨#[]⟩):=d.cell 0;have aF:f.cell? ⟨k,1,none⟩=some (.bool false):=d.cell 1;have cb:f.cell? ⟨k,2,none⟩=some (.slice none 0 0):=d.cell 2;have cn:f.cell? ⟨k,3,none⟩=some (.slice none 0 0):=d.cell 3;have b9:f.cell? ⟨k,4,none⟩=some (.bool false):=d.cell 4;have c0:f.cell? ⟨k,5,none⟩=some (.slice none 0 0):=d.cell 5;have ck:f.cell? ⟨k,6,none⟩=some (.slice none 0 0):=d.cell 6;have c5:f.frozen? ⟨k,0,none⟩=false:=d.frozen 0;have c8:f.frozen? ⟨k,1,none⟩=false:=d.frozen 1;have cj:f.frozen? ⟨k,2,none⟩=false:=d.frozen 2;have b5:f.frozen? ⟨k,3,none⟩=false:=d.frozen 3;have ca:f.frozen? ⟨k,4,none⟩=false:=d.frozen 4;have b7:f.frozen? ⟨k,5,none⟩=false:=d.frozen 5;have cL:f.frozen? ⟨k,6,none⟩=false:=d.frozen 6;(try dsimp only);simp only[hx,be];go_simp;have l:=m.out undef;simp only[hx,be]at l
       exact l⟩))
     ·exact .inr (.inr (.inl ⟨⟨11,13,67,#[.string ⟨#[]⟩,.bool false,.slice none 0 0,.slice none 0 0,.bool false,.slice none 0 0,.slice none 0 0],fun I _=>I=#[ae y.name,.bool T,.slice W n3 c3,.slice D3 m3 O,.bool b4,.slice A4 n4 c4,.slice V X e4]⟩,by simp,rfl,by simp,by simp,by simp,by simp,GI,fun _ _=>GI,⟨⟨11,.data⟩,by simp,rfl,rfl⟩,fun j f k hx d hd=>by
       have bv:j 9=.agg #[ae y.name,.bool T,.slice W n3 c3,.slice D3 m3 O,.bool b4,.slice A4 n4 c4,.slice V X e4]:=hd ⟨9,.data⟩ (by simp) rfl;dsimp only at hx d;refine⟨[ae y.name,.bool T,.slice W n3 c3,.slice D3 m3 O,.bool b4,.slice A4 n4 c4,.slice V X e4],fun w' z=>rfl,fun K m=>?_⟩;have cp:f.cell? ⟨k,0,none⟩=some (.string ⟨#[]⟩):=d.cell 0;have aF:f.cell? ⟨k,1,none⟩=some (.bool false):=d.cell 1;have cb:f.cell? ⟨k,2,none⟩=some (.slice none 0 0):=d.cell 2;have cn:f.cell? ⟨k,3,none⟩=some (.slice none 0 0):=d.cell 3;have b9:f.cell? ⟨k,4,none⟩=some (.bool false):=d.cell 4;have c0:f.cell? ⟨k,5,none⟩=some (.slice none 0 0):=d.cell 5;have ck:f.cell? ⟨k,6,none⟩=some (.slice none 0 0):=d.cell 6;have c5:f.frozen? ⟨k,0,none⟩=false:=d.frozen 0;have c8:f.frozen? ⟨k,1,none⟩=false:=d.frozen 1;have cj:f.frozen? ⟨k,2,none⟩=false:=d.frozen 2;have b5:f.frozen? ⟨k,3,none⟩=false:=d.frozen 3;have ca:f.frozen? ⟨k,4,none⟩=false:=d.frozen 4;have b7:f.frozen? ⟨k,5,none⟩=false:=d.frozen 5;have cL:f.frozen? ⟨k,6,none⟩=false:=d.frozen 6;(try dsimp only);simp only[hx,bv];go_simp;have l:=m.out undef;simp only[hx,bv]at l
       exact l⟩))
     intro y7 w7 kq p lw ab _ ad cr;obtain⟨_,za,ez,_⟩:=ab _ (GG _);obtain rfl:=ez (by simp);obtain⟨_,zb,ez,_⟩:=ab _ (Hr _ (GG _));obtain rfl:=ez (by simp);obtain⟨g6,_,aC,bF,P,rfl⟩:=ad _ (GG _);obtain⟨k,_,an,bz,J,rfl⟩:=ad _ (Hr _ (GG _));dsimp only at za zb aC bF P an bz J;clear ab ad cr ez;have C:=L.trans kq;have b6:g6<w7.heap.size:=P.lt;have cs:k<w7.heap.size:=J.lt;(try dsimp only);simp only[aC,an];clear aC an;obtain⟨k0,k1,k2,k3,k4,k5,k6⟩:=P.c7;obtain⟨l0,l1,l2,l3,l4,l5,l6⟩:=J.c7;by_cases u:x.name=y.name
     ·have cm:(x.name==y.name)=true:=xm.2 u
      have b8:=Qh u;clear u;obtain⟨v1,a6⟩:=qk (x.x=y.x);obtain⟨v2,bd⟩:=qk (x.y=y.y);have ao:=Qh a6;have al:=Qh bd;clear a6 bd;go_wp2_with fail;refine(uU w7 Q U Z c1 Y m1 r T W n3 c3 D3 m3 O x.x y.x 1000000 1000000 (HQ.out.1.belw C) (HQ.out.2.2.1.belw C) (by decide) (by decide) v1 ao.out).mono ?_;rintro e' w8⟨rfl,D⟩;have G:=C.trans (D.mono C.size);have bb:=za.below D za.lt;have bx:=zb.below D zb.lt;have y6:=P.below D P.lt;have a9:=J.below D J.lt;clear k0 k1 k2 k3 k4 k5 k6 l0 l1 l2 l3 l4 l5 l6;cases v1
      ·have q:v=false:=by
        cases v
        ·rfl
        exfalso;have:=HV.out.1 rfl;subst this;have N:=s.out.1.symm.trans s.out.2;injection N with N;subst N;exact absurd (ao.out.2 rfl) (by decide)
       subst q;go_wp2;go_ret;exact⟨rfl,G⟩
      have b6:g6<w8.heap.size:=y6.lt;have cs:k<w8.heap.size:=a9.lt;obtain⟨k0,k1,k2,k3,k4,k5,k6⟩:=y6.c7;obtain⟨l0,l1,l2,l3,l4,l5,l6⟩:=a9.c7;go_wp2_with fail;refine(uU w8 S A2 n2 c2 D2 m2 t b4 A4 n4 c4 V X e4 x.y y.y 1000000 1000000 (HQ.out.2.1.belw G) (HQ.out.2.2.2.belw G) (by decide) (by decide) v2 al.out).mono ?_;rintro e' w9⟨rfl,ac⟩;have bl:=G.trans (ac.mono G.size);have cc:=bb.below ac bb.lt;have cv:=bx.below ac bx.lt;clear k0 k1 k2 k3 k4 k5 k6 l0 l1 l2 l3 l4 l5 l6;cases v2
      ·have q:v=false:=by
        cases v
        ·rfl
        exfalso;have:=HV.out.1 rfl;subst this;have N:=s.out.1.symm.trans s.out.2;injection N with N;subst N;exact absurd (al.out.2 rfl) (by decide)
       subst q;go_wp2;go_ret;exact⟨rfl,bl⟩
      ·have a8:x=y:=by
        have r:=b8.out;have t:=ao.out.1 (by simp);have O:=al.out.1 (by simp);obtain⟨x1,x2,x3⟩:=x;obtain⟨y1,y2,y3⟩:=y;simp only at r t O;rw[r,t,O]
       have co:Hid (a.pts.take (i+1)=b.pts.take (i+1)):=Qh (jS HI.out s.out.1 (by rw[a8];exact s.out.2));clear a8;go_wp2_with fail;go_roundw
       case rel=>exact⟨i+1,by go_num,by omega,co,cc,cv,bl⟩
       case measure=>simp[intOf];omega
     have cm:(x.name==y.name)=false:=it.2 u
     have q:v=false:=by
      cases v
      ·rfl
      exfalso;have:=HV.out.1 rfl;subst this;have N:=s.out.1.symm.trans s.out.2;injection N with N;exact u (by rw[N])
     subst q;clear u;go_wp2;go_ret;exact⟨rfl,C⟩
    have b0:((i:Int)<(n:Int))=False:=by simp;omega
    have t:a.pts=b.pts:=by
     have:=HI.out;rwa[ms (by rw[cu.out];exact bo),ms (by rw[bY.out];exact bo)]at this
    have cx:v=true:=HV.out.2 (by
     have r:=HN.out;obtain⟨a1,a2⟩:=a;obtain⟨Q,S⟩:=b;simp only at r t
     rw[r,t])
    subst cx;have a4:=xa.cell 1;clear t;go_wp2;go_ret;exact⟨rfl,L⟩
  have dq:((n:Int)==(n':Int))=false:=by simp;omega
  have di:¬(n:Int)=(n':Int):=by omega
  have q:v=false:=by
   cases v
   ·rfl
   exfalso;have:=HV.out.1 rfl;subst this;exact el (H.out.1.1.symm.trans H.out.2.1)
  subst q;have hs:(a.name==b.name)=true:=xm.2 en;clear en;go_in;go_wp2;go_ret;exact⟨rfl,((aa w).alloc Qr _).alloc (by simp) _⟩
 have hs:(a.name==b.name)=false:=it.2 en
 have q:v=false:=by
  cases v
  ·rfl
  exact absurd (by rw[HV.out.1 rfl]) en
 subst q;clear en;go_in;go_wp2;go_ret;exact⟨rfl,((aa w).alloc Qr _).alloc (by simp) _⟩
theorem AG(w:World)(A:Option Addr)(n c:Nat)(B:Option Addr)(p d:Nat)(C:Option Addr)(q e:Nat)(L:am)(h:LkS 1000000 w A n c B p d C q e L)(A':Option Addr)(n' c':Nat)(B':Option Addr)(p' d':Nat)(C':Option Addr)(q' e':Nat)(M:am)(X:LkS 1000000 w A' n' c' B' p' d' C' q' e' M)(ao:∀b∈L.bodies,b.pts.length<=1000)(hn:n<=1000)(hp:p<=1000)(hq:q<=1000)(v:Bool)(hv:v=true ↔ L=M):
 Calls Tryz.prog 17 #[.agg #[ae L.name,.slice A n c,.slice B p d,.slice C q e],.agg #[ae M.name,.slice A' n' c',.slice B' p' d',.slice C' q' e']] w (av w (.bool v)):=by
 have H:=Qh h;have H':=Qh X;have HV:=Qh hv;have ba:=Qh ao;have m:=Qh (And.intro (And.intro h.bodies.1 X.bodies.1) (And.intro (And.intro h.joints.1 X.joints.1) (And.intro h.drivers.1 X.drivers.1)));have bF:=h.bodies.2.1;have bv:=X.bodies.2.1;have bz:=h.joints.2.1;have bu:=X.joints.2.1;have bx:=h.drivers.2.1;have br:=X.drivers.2.1;clear h X hv ao
 have al:∀(P:Prop),P->(L=M->¬P)->v=false:=by
  intro P hP a5;cases v
  ·rfl
  exact absurd hP (a5 (HV.out.1 rfl))
 have r:=Qh al;clear al;have Q:Below w.heap.size w ((w.alloc (.cells #[ae L.name,.slice A n c,.slice B p d,.slice C q e] 36)).alloc (.cells #[ae M.name,.slice A' n' c',.slice B' p' d',.slice C' q' e'] 36)):=((aa w).alloc Qr _).alloc (by simp) _;by_cases en:L.name=M.name;rotate_left
 ·have hs:(L.name==M.name)=false:=it.2 en
  have k:=r.out _ en (fun h=>by rw[h];simp);subst k;clear en;go_in;go_wp2;go_ret;exact⟨rfl,Q⟩
 have hs:(L.name==M.name)=true:=xm.2 en;have HN:=Qh en;clear en;by_cases I:n=n';rotate_left
 ·have f1:((n:Int)==(n':Int))=false:=by simp;omega
  have f2:¬(n:Int)=(n':Int):=by omega
  have k:=r.out _ I (fun h=>by rw[<-m.out.1.1,<-m.out.1.2,h];simp);subst k;clear I;go_in;go_wp2;go_ret;exact⟨rfl,Q⟩
 subst I;by_cases R:p=p';rotate_left
 ·have f1:((p:Int)==(p':Int))=false:=by simp;omega
  have f2:¬(p:Int)=(p':Int):=by omega
  have k:=r.out _ R (fun h=>by rw[<-m.out.2.1.1,<-m.out.2.1.2,h];simp);subst k;clear R;go_in;go_wp2;go_ret;exact⟨rfl,Q⟩
 subst R;by_cases e3:q=q';rotate_left
 ·have f1:((q:Int)==(q':Int))=false:=by simp;omega
  have f2:¬(q:Int)=(q':Int):=by omega
  have k:=r.out _ e3 (fun h=>by rw[<-m.out.2.2.1,<-m.out.2.2.2,h];simp);subst k;clear e3;go_in;go_wp2;go_ret;exact⟨rfl,Q⟩
 subst e3;go_in;go_wp2_with fail;go_loopw [5] (fun T wr=>∃i:Nat,T=.int .i64 (i:Nat)/\i<=n/\Hid (L.bodies.take i=M.bodies.take i)/\Blk wr w.heap.size 36 #[ae L.name,.slice A n c,.slice B p d,.slice C q e]/\Blk wr (w.heap.size+1) 36 #[ae M.name,.slice A' n c',.slice B' p d',.slice C' q e']/\Below w.heap.size w wr) (fun T _=>n-(intOf T).toNat)
 case atStart=>exact⟨0,rfl,Nat.zero_le _,Qh rfl,(aj w _ _ rfl).alloc _,aj _ _ _ (by simp),Q⟩
 case round =>
  clear Q;obtain⟨i,rfl,hi,W,s,u,f⟩:=hrel;rename World=>wa;have aF:w.heap.size<wa.heap.size:=s.lt;have a0:w.heap.size+1<wa.heap.size:=u.lt;rcases Nat.lt_or_ge i n with E|aS
  ·have U:((i:Int)<(n:Int))=True:=by simp;omega
   obtain⟨g,o,x,I,hg,_,t,hX⟩:=(H.out.bodies.bd f).at_ E;subst I;obtain⟨g9,o9,y,I,aZ,_,z,hY⟩:=(H'.out.bodies.bd f).at_ E;subst I;obtain⟨A1,n1,c1,d0,d1,Z,_⟩:=hX;obtain⟨A2,n2,c2,f0,f1,aT,_⟩:=hY;have a6:n1<=1000:=by rw[<-Z.1];exact ba.out x (pk t)
   have HM:=Qh (And.intro Z aT);have j:=Qh (And.intro t z);obtain⟨v1,an⟩:=qk (x=y);have ac:=Qh an;have D:=s.cell 1;have ab:=u.cell 1;have bw:((i:Int)<(n:Int)):=by omega
   clear Z aT t z an;go_wp2_with fail
   go_region_held3 (fun w'=>Sees wa.heap.size wa w') (first|with_reducible exact Sees.of Qr (by assumption)|with_reducible exact Sees.of Qr (aa _).drew|exact Sees.of Qr (af (aa _) 1)|exact Sees.of Qr (af (by assumption) _))
    (first
     |(go_at_call 47;(with_reducible refine(AF _ A1 n1 c1 x ?_ A2 n2 c2 y ?_ a6 v1 ac.out).mono ?_);(exact HM.out.1.mk_ (by first|exact(aa wa).drew|exact af (aa wa) _));(exact HM.out.2.mk_ (by first|exact(aa wa).drew|exact af (aa wa) _));rintro e' w8⟨rfl,ad⟩;have q8:Below wa.heap.size wa w8:=(by first|exact ag (aa wa).drew ad|exact ag (af (aa wa) _) ad)))
   have aC:=f.trans (q8.mono f.size);have bb:=s.below q8 s.lt;have a8:=u.below q8 u.lt;clear D ab d0 d1 f0 f1;cases v1
   ·have k:=r.out (x≠y) (fun h=>absurd (ac.out.2 h) (by decide)) (fun h=>by
     subst h;have l:=j.out.1.symm.trans j.out.2;injection l with l
     exact fun h=>h l)
    subst k;go_wp2;go_ret;exact⟨rfl,aC⟩
   have F:x=y:=ac.out.1 (by simp);have J:Hid (L.bodies.take (i+1)=M.bodies.take (i+1)):=Qh (jS W.out j.out.1 (by rw[F];exact j.out.2));clear F;go_wp2_with fail;go_roundw
   case rel=>exact⟨i+1,by go_num,by omega,J,bb,a8,aC⟩
   case measure=>simp[intOf];omega
  have U:((i:Int)<(n:Int))=False:=by simp;omega
  have R:L.bodies=M.bodies:=by
   have:=W.out;rwa[ms (by rw[m.out.1.1];exact aS),ms (by rw[m.out.1.2];exact aS)]at this
  have HB:=Qh R;have D:=s.cell 1;have a9:=s.cell 2;clear R;go_wp2_with fail;clear D a9;go_loopw [6] (fun T wr=>∃N:Nat,T=.int .i64 (N:Nat)/\N<=p/\Hid (L.joints.take N=M.joints.take N)/\Blk wr w.heap.size 36 #[ae L.name,.slice A n c,.slice B p d,.slice C q e]/\Blk wr (w.heap.size+1) 36 #[ae M.name,.slice A' n c',.slice B' p d',.slice C' q e']/\Below w.heap.size w wr) (fun T _=>p-(intOf T).toNat)
  case atStart=>exact⟨0,rfl,Nat.zero_le _,Qh rfl,s,u,f⟩
  case round =>
   clear s u f;obtain⟨N,rfl,bo,W,s,u,f⟩:=hrel;rename World=>wi2;have aF:w.heap.size<wi2.heap.size:=s.lt;have a0:w.heap.size+1<wi2.heap.size:=u.lt;rcases Nat.lt_or_ge N p with E|S
   ·have U:((N:Int)<(p:Int))=True:=by simp;omega
    have bn:((N:Int)<(p:Int)):=by omega
    obtain⟨g,o,x,I,hg,_,t,hX⟩:=(H.out.joints.jt f).at_ E;subst I;obtain⟨g9,o9,y,I,aZ,_,z,hY⟩:=(H'.out.joints.jt f).at_ E;subst I;have j:=Qh (And.intro t z);obtain⟨d0,d1,d2,d3,d4,d5,d6,_⟩:=hX;obtain⟨f0,f1,f2,f3,f4,f5,f6,_⟩:=hY;have D:=s.cell 2;have ab:=u.cell 2;have be:=Fk;have bg:=Fl;clear t z;by_cases G:x.name=y.name;rotate_left
    ·have h0:(x.name==y.name)=false:=it.2 G
     have t0:((⟨x.name.toArray⟩:ByteArray).toList==(⟨y.name.toArray⟩:ByteArray).toList)=false:=by rw[Gr,Gr];simpa using G
     have k:=r.out _ G (fun h=>by
      subst h;have l:=j.out.1.symm.trans j.out.2;injection l with l
      rw[l];simp)
     subst k;clear G;go_wp2_with fail;go_quiet (fail);go_wp2;go_ret;exact⟨rfl,by first|exact f|exact af f _⟩
    have h0:(x.name==y.name)=true:=xm.2 G;have t0:((⟨x.name.toArray⟩:ByteArray).toList==(⟨y.name.toArray⟩:ByteArray).toList)=true:=by rw[Gr,Gr];simpa using G
    have K0:=Qh G;clear G;by_cases O:x.kind=y.kind;rotate_left
    ·have h1:(x.kind==y.kind)=false:=it.2 O
     have k:=r.out _ O (fun h=>by
      subst h;have l:=j.out.1.symm.trans j.out.2;injection l with l
      rw[l];simp)
     subst k;clear O;go_wp2_with fail;go_quiet (fail);go_wp2;go_ret;exact⟨rfl,by first|exact f|exact af f _⟩
    have h1:(x.kind==y.kind)=true:=xm.2 O;have K1:=Qh O;clear O;by_cases k2:x.a=y.a;rotate_left
    ·have h2:(x.a==y.a)=false:=it.2 k2
     have k:=r.out _ k2 (fun h=>by
      subst h;have l:=j.out.1.symm.trans j.out.2;injection l with l
      rw[l];simp)
     subst k;clear k2;go_wp2_with fail;go_quiet (fail);go_wp2;go_ret;exact⟨rfl,by first|exact f|exact af f _⟩
    have h2:(x.a==y.a)=true:=xm.2 k2;have K2:=Qh k2;clear k2;by_cases k3:x.point=y.point;rotate_left
    ·have h3:(x.point==y.point)=false:=it.2 k3
     have k:=r.out _ k3 (fun h=>by
      subst h;have l:=j.out.1.symm.trans j.out.2;injection l with l
      rw[l];simp)
     subst k;clear k3;go_wp2_with fail;go_quiet (fail);go_wp2;go_ret;exact⟨rfl,by first|exact f|exact af f _⟩
    have h3:(x.point==y.point)=true:=xm.2 k3;have K3:=Qh k3;clear k3;by_cases k4:x.b=y.b;rotate_left
    ·have h4:(x.b==y.b)=false:=it.2 k4
     have k:=r.out _ k4 (fun h=>by
      subst h;have l:=j.out.1.symm.trans j.out.2;injection l with l
      rw[l];simp)
     subst k;clear k4;go_wp2_with fail;go_quiet (fail);go_wp2;go_ret;exact⟨rfl,by first|exact f|exact af f _⟩
    have h4:(x.b==y.b)=true:=xm.2 k4;have K4:=Qh k4;clear k4;by_cases k5:x.on=y.on;rotate_left
    ·have h5:(x.on==y.on)=false:=it.2 k5
     have k:=r.out _ k5 (fun h=>by
      subst h;have l:=j.out.1.symm.trans j.out.2;injection l with l
      rw[l];simp)
     subst k;clear k5;go_wp2_with fail;go_quiet (fail);go_wp2;go_ret;exact⟨rfl,by first|exact f|exact af f _⟩
    have h5:(x.on==y.on)=true:=xm.2 k5;have K5:=Qh k5;clear k5;by_cases k6:x.to_=y.to_;rotate_left
    ·have h6:(x.to_==y.to_)=false:=it.2 k6
     have k:=r.out _ k6 (fun h=>by
      subst h;have l:=j.out.1.symm.trans j.out.2;injection l with l
      rw[l];simp)
     subst k;clear k6;go_wp2_with fail;go_quiet (fail);go_wp2;go_ret;exact⟨rfl,by first|exact f|exact af f _⟩
    have h6:(x.to_==y.to_)=true:=xm.2 k6;have K6:=Qh k6;clear k6
    have F:x=y:=by
     have Y:=K0.out;have q1:=K1.out;have q2:=K2.out;have q3:=K3.out;have q4:=K4.out;have q5:=K5.out;have q6:=K6.out;obtain⟨x0,x1,x2,x3,x4,x5,x6⟩:=x;obtain⟨y0,y1,y2,y3,y4,y5,y6⟩:=y;simp only at Y q1 q2 q3 q4 q5 q6;rw[Y,q1,q2,q3,q4,q5,q6]
    have J:Hid (L.joints.take (N+1)=M.joints.take (N+1)):=Qh (jS W.out j.out.1 (by rw[F];exact j.out.2));clear F;go_wp2_with fail;go_quiet (fail);go_wp2_with fail;go_roundw
    case rel=>first|exact⟨N+1,by go_num,by omega,J,s,u,f⟩|exact⟨N+1,by go_num,by omega,J,s.drewN _,u.drewN _,af f _⟩
    case measure=>simp[intOf];omega
   have U:((N:Int)<(p:Int))=False:=by simp;omega
   have R:L.joints=M.joints:=by
    have:=W.out;rwa[ms (by rw[m.out.2.1.1];exact S),ms (by rw[m.out.2.1.2];exact S)]at this
   have bk:=Qh R;have D:=s.cell 2;clear R;go_wp2_with fail;clear D;go_loopw [7] (fun T wr=>∃K:Nat,T=.int .i64 (K:Nat)/\K<=q/\Hid (L.drivers.take K=M.drivers.take K)/\Blk wr w.heap.size 36 #[ae L.name,.slice A n c,.slice B p d,.slice C q e]/\Blk wr (w.heap.size+1) 36 #[ae M.name,.slice A' n c',.slice B' p d',.slice C' q e']/\Below w.heap.size w wr) (fun T _=>q-(intOf T).toNat)
   case atStart=>exact⟨0,rfl,Nat.zero_le _,Qh rfl,s,u,f⟩
   case round =>
    clear s u f;obtain⟨K,rfl,bs,W,s,u,f⟩:=hrel;rename World=>wi3;have aF:w.heap.size<wi3.heap.size:=s.lt;have a0:w.heap.size+1<wi3.heap.size:=u.lt;rcases Nat.lt_or_ge K q with E|V
    ·have U:((K:Int)<(q:Int))=True:=by simp;omega
     have bn:((K:Int)<(q:Int)):=by omega
     obtain⟨g,o,x,I,hg,_,t,hX⟩:=(H.out.drivers.dr f).at_ E;subst I;obtain⟨g9,o9,y,I,aZ,_,z,hY⟩:=(H'.out.drivers.dr f).at_ E;subst I;have j:=Qh (And.intro t z);obtain⟨d0,d1,_⟩:=hX;obtain⟨f0,f1,_⟩:=hY;have D:=s.cell 3;have ab:=u.cell 3;have be:=Fm;have bg:=Fn;clear t z;by_cases G:x.name=y.name;rotate_left
     ·have h0:(x.name==y.name)=false:=it.2 G
      have t0:((⟨x.name.toArray⟩:ByteArray).toList==(⟨y.name.toArray⟩:ByteArray).toList)=false:=by rw[Gr,Gr];simpa using G
      have k:=r.out _ G (fun h=>by
       subst h;have l:=j.out.1.symm.trans j.out.2;injection l with l
       rw[l];simp)
      subst k;clear G;go_wp2_with fail;go_quiet (fail);go_wp2;go_ret;exact⟨rfl,by first|exact f|exact af f _⟩
     have h0:(x.name==y.name)=true:=xm.2 G;have t0:((⟨x.name.toArray⟩:ByteArray).toList==(⟨y.name.toArray⟩:ByteArray).toList)=true:=by rw[Gr,Gr];simpa using G
     have K0:=Qh G;clear G;by_cases O:x.body=y.body;rotate_left
     ·have h1:(x.body==y.body)=false:=it.2 O
      have k:=r.out _ O (fun h=>by
       subst h;have l:=j.out.1.symm.trans j.out.2;injection l with l
       rw[l];simp)
      subst k;clear O;go_wp2_with fail;go_quiet (fail);go_wp2;go_ret;exact⟨rfl,by first|exact f|exact af f _⟩
     have h1:(x.body==y.body)=true:=xm.2 O;have K1:=Qh O;clear O
     have F:x=y:=by
      have Y:=K0.out;have q1:=K1.out;obtain⟨x0,x1⟩:=x;obtain⟨y0,y1⟩:=y;simp only at Y q1;rw[Y,q1]
     have J:Hid (L.drivers.take (K+1)=M.drivers.take (K+1)):=Qh (jS W.out j.out.1 (by rw[F];exact j.out.2));clear F;go_wp2_with fail;go_quiet (fail);go_wp2_with fail;go_roundw
     case rel=>first|exact⟨K+1,by go_num,by omega,J,s,u,f⟩|exact⟨K+1,by go_num,by omega,J,s.drewN _,u.drewN _,af f _⟩
     case measure=>simp[intOf];omega
    have U:((K:Int)<(q:Int))=False:=by simp;omega
    have R:L.drivers=M.drivers:=by
     have:=W.out;rwa[ms (by rw[m.out.2.2.1];exact V),ms (by rw[m.out.2.2.2];exact V)]at this
    have a7:=Qh R;have D:=s.cell 3;clear R
    have bl:v=true:=HV.out.2 (by
     have Y:=HN.out;have q1:=HB.out;have q2:=bk.out;have q3:=a7.out;obtain⟨a1,a2,a3,a4⟩:=L;obtain⟨b1,b2,b3,b4⟩:=M;simp only at Y q1 q2 q3
     rw[Y,q1,q2,q3])
    subst bl;go_wp2;go_ret;exact⟨rfl,f⟩
theorem Ej{L:am}(h:aI L=0):bN L=0/\bL L=bV L:=by
 refine⟨?_,kZ h⟩;unfold aI at h;split at h
 ·exact h
 rename_i a;simpa using a
theorem AH(w:World)(A:Option Addr)(n c:Nat)(J:Option Addr)(G:Nat)(Ls:List am)(k F:Nat)(h:SlS (iJ k) 4 w A n c Ls)(x:SlS (iJ F) 4 w J n G Ls)(hk:k<=1000000)(v:F<=1000000)(hn:n<=1000000)(K:∀L∈Ls,bN L=0):
 Calls Tryz.prog 24 #[.slice A n c,.slice J n G] w (av w (.bool true)):=by
 have H:=Qh h;have H':=Qh x;have HE:=Qh K;have V:=h.2.1;have I:=x.2.1;clear h x K;go_in;go_wp2_with fail;go_loopw [5] (fun y wr=>∃i:Nat,y=.int .i64 (i:Nat)/\i<=n/\Below w.heap.size w wr) (fun y _=>n-(intOf y).toNat)
 case atStart=>exact⟨0,rfl,Nat.zero_le _,aa w⟩
 case round =>
  obtain⟨i,rfl,hi,f⟩:=hrel;rename World=>wa;rcases Nat.lt_or_ge i n with p|ab
  ·have z:((i:Int)<(n:Int))=True:=by simp;omega
   obtain⟨g,o,L,m,hg,_,j,R⟩:=(H.out.lk f).at_ p;subst m;obtain⟨P,o9,M,m,E,_,d,hY⟩:=(H'.out.lk f).at_ p;subst m;rw[j]at d;injection d with d;subst d;have r:=tg (HE.out L (pk j));obtain⟨S,N,c1,W,p1,d1,C1,q1,m,Y,a1,Z,a3,a⟩:=R;obtain⟨A2,n2,c2,B2,p2,O,C2,q2,U,b0,b1,b2,Q,q⟩:=hY;have s:∀b∈L.bodies,b.pts.length<=1000:=fun b hb=>by have:=(r.ok.body b hb).2.1;omega
   have t:N<=1000:=by have:=r.ok.nb;rw[a.bodies.1]at this;omega
   have C:p1<=1000:=by have:=r.ok.nj;rw[a.joints.1]at this;omega
   have B:q1<=1000:=by have:=r.ok.nd;rw[a.drivers.1]at this;omega
   have D:=Qh (And.intro (a.upto hk) (And.intro (q.upto v) s));have T:((i:Int)<(n:Int)):=by omega
   have ac:g<wa.heap.size:=hg;have ad:P<wa.heap.size:=E;clear r a q s j;go_wp2_with fail
   go_region_held3 (fun w'=>Sees wa.heap.size wa w') (first|with_reducible exact Sees.of Qr (by assumption)|with_reducible exact Sees.of Qr (aa _).drew|exact Sees.of Qr (af (aa _) 1)|exact Sees.of Qr (af (by assumption) _))
    (first
     |(go_at_call 17;(with_reducible refine(AG _ S N c1 W p1 d1 C1 q1 m L ?_ A2 n2 c2 B2 p2 O C2 q2 U L ?_ D.out.2.2 t C B true (by simp)).mono ?_);(exact D.out.1.belw (by first|exact(aa wa).drew|exact af (aa wa) _));(exact D.out.2.1.belw (by first|exact(aa wa).drew|exact af (aa wa) _));rintro e' X⟨rfl,l⟩;have q8:Below wa.heap.size wa X:=(by first|exact ag (aa wa).drew l|exact ag (af (aa wa) _) l)))
   have u:=ag f q8;clear Y a1 Z a3 b0 b1 b2 Q;go_wp2_with fail;go_roundw
   case rel=>exact⟨i+1,by go_num,by omega,u⟩
   case measure=>simp[intOf];omega
  have z:((i:Int)<(n:Int))=False:=by simp;omega
  go_wp2;go_ret;exact⟨rfl,f⟩
theorem Fo{S:List UInt8}{x:Int}{Ls:List am}(h:si S x Ls):Ls.length<=16/\∀L∈Ls,bN L=0:=by
 by_cases hx:x=0
 ·subst hx
  obtain⟨_,_,a,b⟩:=wL h;exact⟨a,fun L c=>(Ej (b L c)).1⟩
 ·have e:Ls=[]:=by
   obtain⟨y,n,R,hb,⟨_,_,e⟩|⟨_,d,_,e⟩⟩:=h
   ·exact e
   rw[e,kl hx]
  subst e;exact⟨by decide,fun L c=>by cases c⟩
theorem xg(w:World)(S:List UInt8)(k:S.length<9223372036854775808)(d:Tab w)(o:Mx w)(p:T64 w)(t:Ev w):Calls Tryz.prog 7 #[ae S] w (av w (.bool true)):=by
 have f:Hid (Env w):=Qh ⟨d,p,o,t⟩;have zS:=ah S;clear d o p t;by_cases T:4000<S.length/\S.length<=65536
 ·have f4:((4000:Int)<(S.length:Int))=True:=xr (by omega)
  have V:((S.length:Int)<=65536)=True:=xr (by omega);go_in;go_wp2_with fail;refine(ly w f.out.tab f.out.t64).mono ?_;rintro a F⟨rfl,q1⟩;go_wp2_with fail;refine(ly F (f.out.tab.belw q1) (f.out.t64.belw q1)).mono ?_;rintro a N⟨rfl,b⟩;have q2:=ag q1 b;go_wp2;go_ret;exact⟨rfl,q2⟩
 obtain⟨x,Ls,z⟩:=DX B8 S;obtain⟨y,n,R,hb,i⟩:=id z;obtain⟨C,K⟩:=Fo z;have L:=Qh z;have J:=Qh hb;have W:=Qh K;clear z hb i K
 have hf:((4000:Int)<(S.length:Int))=False\/(((4000:Int)<(S.length:Int))=True/\((S.length:Int)<=65536)=False):=by
  by_cases h:4000<S.length
  ·exact .inr ⟨xr (by omega),oK (by omega)⟩
  exact .inl (oK (by omega))
 clear T;go_in;go_wp2_with fail;refine(ly w f.out.tab f.out.t64).mono ?_;rintro a F⟨rfl,q1⟩;rcases hf with f4|⟨f4,V⟩
 all_goals
  go_wp2_with fail;refine(Ar F S k (f.out.belw q1) x Ls L.out).mono ?_;rintro a N⟨A,m,c,rfl,g,b⟩;have q2:=ag q1 b;have hm:m<=16:=by rw[<-g.1];exact C
  have q:=Qh g;clear g b;go_wp2_with fail;refine(Cu N S k (f.out.belw q2) y n R J.out).mono ?_;rintro a w3⟨rfl,v⟩;have q3:=ag q2 v;go_wp2_with fail;refine(Au w3 S k x Ls L.out).mono ?_;rintro a O⟨A',M,c',rfl,g,j⟩;obtain rfl:M=m:=by rw[<-g.1,<-q.out.1]
  have q4:=ag q3 j;have B:=ag v j;have E:=Qh g;clear g j;go_wp2_with fail;refine(Co O S k y n R J.out).mono ?_;rintro a w5⟨rfl,u⟩;have U:=ag q4 u;go_wp2_with fail;refine(um w5 x).mono ?_;rintro a w6⟨rfl,l⟩;have q6:=ag U l;have r:=ag u l;go_wp2_with fail;refine(AH w6 A M c A' c' Ls 130 500 (q.out.lk (ag B r)) (E.out.lk r) (by omega) (by omega) (by omega) W.out).mono ?_;rintro a Q⟨rfl,H⟩;have q7:=ag q6 H;go_wp2_with fail;refine(um Q y).mono ?_;rintro a X⟨rfl,D⟩;have Y:=ag q7 D;go_wp2_with fail;refine(ux X S k).mono ?_;rintro a w9⟨rfl,G⟩;have P:=ag Y G;go_wp2_with fail;refine(CO w9 S k).mono ?_;rintro a Z⟨rfl,s⟩;have I:=ag P s;go_wp2;go_ret;exact⟨rfl,I⟩
end Go.Proofs.YtfilnhompchciaaGreatDoor
namespace Go.Proofs.YtfilnhompchciaaGreatDoor
open Go Go.RowKit Bn Go.ChangeShapes Go.WideShapes
attribute [local go_sem ↓] Go.wp_at_zero Go.wp_at_succ

theorem nr{H:Type}{enc:TypeId × Value->H}{W:World}{P:Program}(i:laidOutB P=true){j:World}(hb:Below W.heap.size W j):∀ {c:List TypeId}{f:List Value}{g:List (DataW H)}{d:List MemPlace},(c.all fun t=>P.readableRec t&&decide (t<P.types.size))=true ->
 DataW.TrodAll enc P W 0 (fun _=>true) true c f g d->DataW.TrodAll enc P j 0 (fun b=>decide (b<W.heap.size)) true c f g d
 |[],[],[],_,_,h=>h
 |_::_,_::_,_::_,_,hr,h=>by
  have a:=h.lt;obtain⟨p,q,l,k,e⟩:=h;rw[Gd,uv,uv,FZ]at hr;exact⟨p,q,Below.trod i hr.1.1 hr.1.2 l hb (fun x m=>a x (by rw[e];exact List.mem_append_left _ m)),nr i hb hr.2 k,e⟩
 |[],[],_::_,_,_,h=>h.elim
 |[],_::_,_,_,_,h=>h.elim
 |_::_,[],_,_,_,h=>h.elim
 |_::_,_::_,[],_,_,h=>h.elim
theorem AI{H:Type}{enc:TypeId × Value->H}{W:World}{P:Program}{B:TypeId}{f:Func}{s:ChangeSpec}{l:World}{args:Array Value}{c:List (DataW H)}{before:List MemPlace}(o:laidOutB P=true)(hB:P.underlying B=some .bool)
 (j:DataW.Whole enc P f.params.toList s.vars false W args.toList c [] before) (k:s.vars=[]) (r:f.resultTypes=#[B]) (n:(f.params.toList.all fun t=>P.readableRec t&&decide (t<P.types.size))=true)
 (g:(s.fn H (c++[])).results=[.lit (.bool true)]) (a:(s.fn H (c++[])).args=c) (b:(s.fn H (c++[])).vars=[]) (hb:Below W.heap.size W l) :
 s.post enc P f false true false false W args (.bool true) l:=by
 have i:=j;obtain⟨p,q,m,u,rfl,_,_⟩:=j;have d:=u;rw[k]at d;obtain⟨_,rfl⟩:=trodVars_none d;refine⟨c,[],_,[],p,[],i,?_,?_,?_,hb.frame _,fun h=>by cases h⟩
 ·rw[r,g]
  exact trodAll_mk1 (shut_bool hB _)
 ·rw[a]
  exact nr o hb n m
 rw[k,b];rfl
theorem qn{P:Program}{f:FuncId}{fn:Func}{s:ChangeSpec}{c:OpenClaim}
 (n:(c.wf (OpenSpec.ofChange s)&&laidOutB P&&mapsRowed P&&fn.params.all (P.readableRec ·)&&namedTie P c.named s.vars&&(c.stops==[])&&(P.stops==[])&&(c.knobs==[])&&(P.stopKnobs==[]))=true)
 (q:(c.inPlace==P.inPlace f)=true) (A:(c.unfollowed==P.unfollowed f)=true) (v:(c.recurses==P.recurses f)=true) (F:(c.named==P.varsNamed f)=true)
 (o:((c.maps==(fn.params.toList++s.plain.varTypes P).any (P.mapsRec ·))&&(c.ifaces==(fn.params.toList++s.plain.varTypes P).any (P.ifacesRec ·))&&(c.mapsOut==P.mapsAmong fn.resultTypes.toList) &&
  (c.loops==(fn.params.toList++s.plain.varTypes P).any (P.loopsFrom ·))&&(c.wideKeys==(fn.params.toList++s.plain.varTypes P++fn.resultTypes.toList).any (P.wideKeysFrom ·)) &&
  s.vars.all (P.varReadable ·)&&fn.resultTypes.all (fun t=>P.readableRec t&&decide (t<P.types.size))&&(c.ifacesOut==fn.resultTypes.toList.any (P.ifacesRec ·))&&(c.loopsOut==fn.resultTypes.toList.any (P.loopsFrom ·))&&(c.plainKeys==P.plainKeys)&&c.shortTexts.isNone&&P.stopsHeard&&P.mayEnter&&(c.lifted==P.liftsFinal)&&(P.make==some c.make)&&(c.kinds==(if c.domain.isEmpty then [] else fn.params.toList.map fun t=>match P.underlying t with|some (.int k)=>some k|_=>none))&&(c.pinned==c.pinnedBy) &&
  (c.veiled==(fn.params.toList++s.plain.varTypes P++fn.resultTypes.toList).any (P.veiledRec ·))&&c.veiledFits P fn.params.toList (fn.params.toList++s.plain.varTypes P++fn.resultTypes.toList))=true):joinedFacts P f fn s c=true:=by
 unfold joinedFacts;simp only[uv]at n o⊢;obtain⟨⟨⟨⟨⟨⟨⟨⟨B,K⟩,C⟩,G⟩,y⟩,w⟩,J⟩,r⟩,p⟩:=n;obtain⟨⟨⟨⟨⟨⟨⟨⟨⟨⟨⟨⟨⟨⟨⟨⟨⟨⟨b0,D⟩,H⟩,u⟩,I⟩,b5⟩,E⟩,z⟩,L⟩,x⟩,g⟩,i⟩,m⟩,h⟩,b⟩,l⟩,a⟩,j⟩,d⟩:=o;exact⟨⟨⟨⟨⟨⟨⟨⟨⟨⟨⟨⟨⟨⟨⟨⟨⟨⟨⟨⟨⟨⟨⟨⟨⟨⟨⟨⟨⟨⟨⟨B,K⟩,C⟩,G⟩,y⟩,w⟩,J⟩,r⟩,p⟩,q⟩,A⟩,v⟩,F⟩,b0⟩,D⟩,H⟩,u⟩,I⟩,b5⟩,E⟩,z⟩,L⟩,x⟩,g⟩,i⟩,m⟩,h⟩,b⟩,l⟩,a⟩,j⟩,d⟩
section
variable {H:Type}{enc:TypeId × Value->H}{W:World}{base:Nat}
end
theorem qo{W:World}(h:W.ShapedOpen Tryz.prog):∃m,W.cell? ⟨0,0,none⟩=some (.int .i64 m) :=
 Go.Proofs.cell_of_shapedOpen_int (P:=Tryz.prog) (g:=0) (t:=3) (zero:=#[.int .i64 0]) h (of_decide_eq_true (by kernel_rfl)) (by kernel_rfl) rfl (by kernel_rfl) (by kernel_rfl) Tryz.underlying3
theorem Fp : Tryz.prog.globalNamed "internal/strconv.uint64pow10" = some 1 := by kernel_rfl
theorem Ek:(Tryz.prog.globals[1]?).map (·.type)=some 214:=by kernel_rfl
theorem xh:Tryz.prog.cellsOf 214=20:=by kernel_rfl
theorem xi:Tryz.prog.cellsOf 117=1:=by kernel_rfl
theorem AJ{H:Type}:(Rows.laid_internal_strconv_uint64pow10:DataW H)=Lib.tabData .u64 Lib.pow10Tab:=by kernel_rfl
theorem sy{rest : List (String × DataW Unit)}{W : World}(h : laidMet Tryz.prog (("math/bits.deBruijn32tab", Rows.laid_math_bits_deBruijn32tab)::("math/bits.deBruijn64tab", Rows.laid_math_bits_deBruijn64tab)::("internal/strconv.uint64pow10", Rows.laid_internal_strconv_uint64pow10)::rest) W): Tab W := by
 obtain⟨d,⟨_,_,_,_,_,_,_,_,_,_,⟨_,_,_,_,_,_,_,_,_,_,⟨g,t,cs,f,p,q,b,c,a,hd,_,_⟩,_⟩,_⟩,_,_⟩:=h;obtain rfl:=F5 (Fp.symm.trans b);obtain rfl:=F5 (Ek.symm.trans c);rw[AJ]at hd;unfold Tab Lib.TabIs;rw[a,<-Lib.cells_of_tab Tryz.underlying214 Tryz.underlying117 xi xh hd]
noncomputable def low:Nat:=(World.holding Tryz.prog default ⟨#[],#[],[]⟩).heap.size
noncomputable def lB (os:Os):World :=
  let w0:=World.holding Tryz.prog os ⟨#[.cells #[.string ⟨#[118,97,108,117,101,32,111,117,116,32,111,102,32,114,97,110,103,101]⟩] 258,.cells #[.string ⟨#[105,110,118,97,108,105,100,32,115,121,110,116,97,120]⟩] 258],#[],[]⟩
  { w0 with heap:=(((((((w0.heap.modify 1 fun
      | .cells _ t frozen=>.cells (#[.int .u64 1,.int .u64 10,.int .u64 100,.int .u64 1000,.int .u64 10000,.int .u64 100000,.int .u64 1000000,.int .u64 10000000,.int .u64 100000000,.int .u64 1000000000,.int .u64 10000000000,.int .u64 100000000000,.int .u64 1000000000000,.int .u64 10000000000000,.int .u64 100000000000000,.int .u64 1000000000000000,.int .u64 10000000000000000,.int .u64 100000000000000000,.int .u64 1000000000000000000,.int .u64 10000000000000000000]) t frozen
      |o=>o).modify 6 fun
      | .cells _ t frozen=>.cells (#[.int .u8 0,.int .u8 1,.int .u8 28,.int .u8 2,.int .u8 29,.int .u8 14,.int .u8 24,.int .u8 3,.int .u8 30,.int .u8 22,.int .u8 20,.int .u8 15,.int .u8 25,.int .u8 17,.int .u8 4,.int .u8 8,.int .u8 31,.int .u8 27,.int .u8 13,.int .u8 23,.int .u8 21,.int .u8 19,.int .u8 16,.int .u8 7,.int .u8 26,.int .u8 12,.int .u8 18,.int .u8 6,.int .u8 11,.int .u8 5,.int .u8 10,.int .u8 9]) t frozen
      |o=>o).modify 7 fun
      | .cells _ t frozen=>.cells (#[.int .u8 0,.int .u8 1,.int .u8 56,.int .u8 2,.int .u8 57,.int .u8 49,.int .u8 28,.int .u8 3,.int .u8 61,.int .u8 58,.int .u8 42,.int .u8 50,.int .u8 38,.int .u8 29,.int .u8 17,.int .u8 4,.int .u8 62,.int .u8 47,.int .u8 59,.int .u8 36,.int .u8 45,.int .u8 43,.int .u8 51,.int .u8 22,.int .u8 53,.int .u8 39,.int .u8 33,.int .u8 30,.int .u8 24,.int .u8 18,.int .u8 12,.int .u8 5,.int .u8 63,.int .u8 55,.int .u8 48,.int .u8 27,.int .u8 60,.int .u8 41,.int .u8 37,.int .u8 16,.int .u8 46,.int .u8 35,.int .u8 44,.int .u8 21,.int .u8 52,.int .u8 32,.int .u8 23,.int .u8 11,.int .u8 54,.int .u8 26,.int .u8 40,.int .u8 15,.int .u8 34,.int .u8 20,.int .u8 31,.int .u8 10,.int .u8 25,.int .u8 14,.int .u8 19,.int .u8 9,.int .u8 13,.int .u8 8,.int .u8 7,.int .u8 6]) t frozen
      |o=>o).modify 5 fun
      | .cells _ t frozen=>.cells (#[.int .u8 128,.int .u8 191,.int .u8 160,.int .u8 191,.int .u8 128,.int .u8 159,.int .u8 144,.int .u8 191,.int .u8 128,.int .u8 143,.int .u8 0,.int .u8 0,.int .u8 0,.int .u8 0,.int .u8 0,.int .u8 0,.int .u8 0,.int .u8 0,.int .u8 0,.int .u8 0,.int .u8 0,.int .u8 0,.int .u8 0,.int .u8 0,.int .u8 0,.int .u8 0,.int .u8 0,.int .u8 0,.int .u8 0,.int .u8 0,.int .u8 0,.int .u8 0]) t frozen
      |o=>o).modify 4 fun
      | .cells _ t frozen=>.cells ((Go.Pinned.utf8FirstZ.map fun z:Nat=>Value.int .u8 (z:Int)).toArray) t frozen
      |o=>o).modify 3 fun
      | .cells _ t frozen=>.cells (#[.iface 256 (.pointer (some ⟨low,0,none⟩))]) t frozen
      |o=>o).modify 2 fun
      | .cells _ t frozen=>.cells (#[.iface 256 (.pointer (some ⟨low+1,0,none⟩))]) t frozen
      |o=>o) }
theorem AK:ownKnob Tryz.prog.godebug=none:=by kernel_rfl
theorem AL:laidOutB Tryz.prog=true:=by kernel_rfl
section
variable {H:Type}{enc:TypeId × Value->H}{W:World}
instance:Inhabited aB:=⟨⟨[],⟨false,[],[]⟩,⟨false,[],[]⟩⟩⟩
instance:Inhabited aq:=⟨⟨[],[]⟩⟩
instance:Inhabited bj:=⟨⟨[],0,0,0,0,0,0⟩⟩
instance:Inhabited bD:=⟨⟨[],0⟩⟩
variable {base:Nat}
end
theorem CU : Tryz.prog.globalNamed "math/bits.deBruijn64tab" = some 7 := by kernel_rfl
theorem El:(Tryz.prog.globals[7]?).map (·.type)=some 265:=by kernel_rfl
theorem xj:Tryz.prog.cellsOf 265=64:=by kernel_rfl
theorem AM:Tryz.prog.cellsOf 5=1:=by kernel_rfl
theorem AN{H:Type}:(Rows.laid_math_bits_deBruijn64tab:DataW H)=Lib.tabData .u8 (Lib.deBruijn64tab.map fun z:Nat=>(z:Int)):=by kernel_rfl
theorem sA{rest : List (String × DataW Unit)}{W : World}(h : laidMet Tryz.prog (("math/bits.deBruijn32tab", Rows.laid_math_bits_deBruijn32tab)::("math/bits.deBruijn64tab", Rows.laid_math_bits_deBruijn64tab)::rest) W): T64 W := by
 obtain⟨i,⟨_,_,_,_,_,_,_,_,_,_,⟨g,t,cs,f,p,q,b,a,d,hd,_,_⟩,_⟩,_,_⟩:=h;obtain rfl:=F5 (CU.symm.trans b);obtain rfl:=F5 (El.symm.trans a);rw[AN]at hd
 have c : Lib.TabIs Tryz.prog W "math/bits.deBruijn64tab" .u8 (Lib.deBruijn64tab.map fun z : Nat => (z : Int)) := by
  unfold Lib.TabIs;rw[d,<-Lib.cells_of_tab Tryz.underlying265 Tryz.underlying5 AM xj hd]
 exact c.cell CU 15 (by decide)
section
variable {H:Type}{enc:TypeId × Value->H}{W:World}
instance:Inhabited am:=⟨⟨[],[],[],[]⟩⟩
variable {base:Nat}
end
theorem ns{w:World}{n:String}{g0:Nat}{t0:TypeId}{i:Array (String × TypeId)}{nm:String}{d:DataW Unit}{r:List (String × DataW Unit)}{o:List MemPlace}(a:Tryz.prog.globalNamed n=some g0)(c:(Tryz.prog.globals[g0]?).map (·.type)=some t0)(k:Tryz.prog.underlying t0=some (.interface i))(h:DataW.LaidVars Tryz.prog w ((n,.iface nm d)::r) o):
 (∃ev,w.cell? ⟨g0,0,none⟩=some ev/\(ev=.nilIface\/∃te pe,ev=.iface te pe))/\∃q,DataW.LaidVars Tryz.prog w r q:=by
 obtain⟨g,t,cs,f,p,q,m,l,x,hd,j,_⟩:=h;obtain rfl:=F5 (a.symm.trans m);obtain rfl:=F5 (c.symm.trans l);obtain⟨_,u,v,b,_,_⟩:=iface_of_trod k hd;refine⟨⟨.iface u v,?_,.inr ⟨u,v,rfl⟩⟩,q,j⟩;have s:=World.var?_cell a x 0;rw[s,<-Array.getElem?_toList,b];rfl
theorem jT{w:World}{x:String × DataW Unit}{r:List (String × DataW Unit)}{a:List MemPlace}(h:DataW.LaidVars Tryz.prog w (x::r) a):∃q,DataW.LaidVars Tryz.prog w r q:=by
 obtain⟨n,d⟩:=x;obtain⟨g,t,cs,f,p,q,_,_,_,_,b,_⟩:=h;exact⟨q,b⟩
theorem tI{g d c b : String × DataW Unit}{rest : List (String × DataW Unit)}{W : World}(h : laidMet Tryz.prog (g::d::c::b::("strconv.ErrRange", Rows.laid_strconv_ErrRange)::("strconv.ErrSyntax", Rows.laid_strconv_ErrSyntax)::rest) W): Ev W := by
 obtain⟨i,h,_,_⟩:=h;obtain⟨_,h⟩:=jT h;obtain⟨_,h⟩:=jT h;obtain⟨_,h⟩:=jT h;obtain⟨_,h⟩:=jT h;obtain⟨f,_,h⟩:=ns (g0:=3) (t0:=26) (by kernel_rfl) (by kernel_rfl) Tryz.underlying26 h;obtain⟨a,_,h⟩:=ns (g0:=2) (t0:=26) (by kernel_rfl) (by kernel_rfl) Tryz.underlying26 h;exact⟨a,f⟩
end Go.Proofs.YtfilnhompchciaaGreatDoor
