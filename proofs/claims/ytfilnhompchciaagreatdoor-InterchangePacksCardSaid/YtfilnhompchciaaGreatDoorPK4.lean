/- Part PK4: lemmas and walks that the claim rests on. No claim is made here. -/
import Derived.BigQuiet
import Derived.Laws.IdiomStrings
import Derived.Deep.RegionHeld3
import Derived.Lib.TrailingZeros
import Derived.Test.YtfilnhompchciaaGreatDoorPK3
set_option linter.unusedVariables false
set_option maxHeartbeats 8000000
set_option maxRecDepth 100000
/- Walks: linkages: what is wrong with one: a joint (program). -/
namespace Go.Proofs.YtfilnhompchciaaGreatDoor
open Go Go.RowKit Bn
attribute [local go_sem ↓] Go.wp_at_zero Go.wp_at_succ
theorem ig {i:Int}{n:Nat}(h:inI i n=true):∃ m:Nat,i=(m:Int)∧m < n:=by
 unfold inI at h;simp only [Bool.and_eq_true,decide_eq_true_eq] at h;exact ⟨i.toNat,by omega,by omega⟩
theorem nD (w:World) (A:Option Addr) (n c:Nat) (B:Option Addr) (p d:Nat) (C:Option Addr) (q e:Nat) (nm:List UInt8) (j:bi) (h:j.kind≠0∧j.kind≠1) :
 Calls Tryz.prog 113 #[.agg #[ah nm,.slice A n c,.slice B p d,.slice C q e],.agg #[ah j.name,.int .i64 j.kind,.int .i64 j.a,.int .i64 j.point,.int .i64 j.b,.int .i64 j.on,.int .i64 j.to_]] w (ax w (cS 7)):=by
 have e0:(j.kind == 0)=false:=beq_eq_false_iff_ne.2 h.1;have e1:(j.kind == 1)=false:=beq_eq_false_iff_ne.2 h.2;have e2:(j.kind != 0)=true:=bne_iff_ne.2 h.1;have e3:(j.kind != 1)=true:=bne_iff_ne.2 h.2;clear h;go_in;go_wp2;go_ret;exact ⟨rfl,(((ae w).alloc Qr _).alloc (by simp) _)⟩
theorem nF (w:World) (A:Option Addr) (n c:Nat) (B:Option Addr) (p d:Nat) (C:Option Addr) (q e:Nat) (nm:List UInt8) (j:bi) (L:ay) (k:Nat) (h:SlS (dd k) 2 w A n c L.bodies) (hk:k≤10000000) (hk1:0 < k) (hn:n≤1000) (hk0:j.kind=0) (x:Int) (hx:aN L j=x) :
 Calls Tryz.prog 113 #[.agg #[ah nm,.slice A n c,.slice B p d,.slice C q e],.agg #[ah j.name,.int .i64 j.kind,.int .i64 j.a,.int .i64 j.point,.int .i64 j.b,.int .i64 j.on,.int .i64 j.to_]] w (ax w (cS x)):=by
 have e0:(j.kind == 0)=true:=beq_iff_eq.2 hk0;have e2:(j.kind != 0)=false:=by rw [hk0];rfl
 have hln:=h.1;have HX:=Qh hx;have HK:=Qh (show ¬ (j.kind≠0∧j.kind≠1) by rw [hk0];decide);have HK0:=Qh hk0;have H:=Qh h;have HL:=Qh hln;obtain ⟨v1,hv1⟩:∃ v,inI j.a n=v:=⟨_,rfl⟩;obtain ⟨v2,hv2⟩:∃ v,inI j.b n=v:=⟨_,rfl⟩;have HV1:=Qh hv1;have HV2:=Qh hv2;clear hx hk0 h hln hv1 hv2;go_in;go_wp2_with fail;(with_reducible refine (nC _ j.a n v1 HV1.out).mono ?_);rintro e' w1 ⟨rfl,hb1⟩;have q1:=hb1.q2;have x1:Blk w1 w.heap.size 36 #[ah nm,.slice A n c,.slice B p d,.slice C q e]:=((aj _ _ _ (by simp)).alloc _).below hb1 (by simp <;> omega);have y1:Blk w1 (w.heap.size+1) 79 #[ah j.name,.int .i64 j.kind,.int .i64 j.a,.int .i64 j.point,.int .i64 j.b,.int .i64 j.on,.int .i64 j.to_]:=(aj _ _ _ (by simp)).below hb1 (by simp);clear hb1;cases v1
 ·have h9:x=9:=by rw [← HX.out];unfold aN;rw [if_neg HK.out,HL.out,if_pos HV1.out]
  go_wp2;go_ret;exact ⟨by rw [h9];rfl,q1⟩
 have cx1:=x1.cell 1;have cy2:=y1.cell 2;have cy4:=y1.cell 4;go_wp2_with fail;(with_reducible refine (nC _ j.b n v2 HV2.out).mono ?_);rintro e' w2 ⟨rfl,hb2⟩;have q2:=q1.trans (hb2.mono q1.size);have x2:=x1.below hb2 x1.lt;have y2:=y1.below hb2 y1.lt;clear cx1 cy2 cy4 hb2 x1 y1;cases v2
 ·have h9:x=9:=by rw [← HX.out];unfold aN;rw [if_neg HK.out,HL.out,if_neg (by rw [HV1.out];decide),if_pos HV2.out]
  go_wp2;go_ret;exact ⟨by rw [h9];rfl,q2⟩
 obtain ⟨an,han,hal⟩:=ig HV1.out;obtain ⟨bn,hbn,hbl⟩:=ig HV2.out;have HA:=Qh han;have HBN:=Qh hbn;have cx1:=x2.cell 1;have cy1:=y2.cell 1;have cy2:=y2.cell 2;have cy3:=y2.cell 3;have cy4:=y2.cell 4;have cy5:=y2.cell 5;have cy6:=y2.cell 6;rw [han] at cy2;rw [hbn] at cy4;clear han hbn;by_cases hab:an=bn
 ·have h13:x=13:=by
   rw [← HX.out];unfold aN;rw [if_neg HK.out,HL.out,if_neg (by rw [HV1.out];decide),if_neg (by rw [HV2.out];decide),if_pos (by rw [HA.out,HBN.out,hab])]
  subst hab;go_wp2;go_ret;exact ⟨by rw [h13];rfl,q2⟩
 have eab:((an:Int) == (bn:Int))=false:=beq_eq_false_iff_ne.2 (by omega);obtain ⟨g,o,bb,e1',hg,hnc,hbb,hBb⟩:=(H.out.bd q2).at_ hbl;subst e1';obtain ⟨ab,hab',hAb⟩:=(H.out.bd q2).rowAt hal;obtain ⟨Ab,nb,cb,k0,k1,hMb,_⟩:=hBb;obtain ⟨Aa,na,ca,l0,l1,hMa,_⟩:=hAb;have hpa:bM L j.a=ab.pts:=by unfold bM;rw [HA.out];show (match L.bodies[an]? with | some b=>b.pts | none=>[])=_;rw [hab']
 have hpb:bM L j.b=bb.pts:=by unfold bM;rw [HBN.out];show (match L.bodies[bn]? with | some b=>b.pts | none=>[])=_;rw [hbb]
 have hla:=hMa.1;have hlb:=hMb.1;have hbn2:((bn:Nat):Int) < ((n:Nat):Int):=by omega
 have han2:((an:Nat):Int) < ((n:Nat):Int):=by omega
 obtain ⟨v3,hv3⟩:∃ v,inI j.point na=v:=⟨_,rfl⟩;obtain ⟨v4,hv4⟩:∃ v,inI j.on nb=v:=⟨_,rfl⟩;have HV3:=Qh hv3;have HV4:=Qh hv4;have HMB:=Qh hMb;have HPA:=Qh hpa;have HPB:=Qh hpb;have HLA:=Qh hla;have HLB:=Qh hlb;have HAB:=Qh (show ¬ j.a=j.b by rw [HA.out,HBN.out];omega);clear hv3 hv4 hMb hMa hpa hpb hla hlb hbb hab' hab;go_wp2_with fail;cases v3
 ·have h9:x=9:=by
   rw [← HX.out];unfold aN;rw [if_neg HK.out,HL.out,if_neg (by rw [HV1.out];decide),if_neg (by rw [HV2.out];decide),if_neg HAB.out,HPA.out,HLA.out,if_pos HV3.out]
  go_quiet ((go_at_call 114;exact Calls.quiet_of_same (ck _ j.point na false HV3.out)));go_wp2;go_ret;exact ⟨by rw [h9];rfl,aa q2 _⟩
 cases v4
 ·have h9:x=9:=by
   rw [← HX.out];unfold aN;rw [if_neg HK.out,HL.out,if_neg (by rw [HV1.out];decide),if_neg (by rw [HV2.out];decide),if_neg HAB.out,HPA.out,HLA.out,if_neg (by rw [HV3.out];decide),HPB.out,HLB.out,if_pos HV4.out]
  go_quiet ((go_at_call 114;first | with_reducible exact Calls.quiet_of_same (ck _ j.point na true HV3.out) | with_reducible exact Calls.quiet_of_same (ck _ j.on nb false HV4.out) | fail));go_wp2;go_ret;exact ⟨by rw [h9];rfl,aa q2 _⟩
 have hX2:x=(if j.kind=0 then (if j.to_=0 then 0 else 2) else if inI j.to_ nb=false then 9 else if cM bb.pts j.on j.to_=true then 8 else 0):=by
  rw [← HX.out];unfold aN;rw [if_neg HK.out,HL.out,if_neg (by rw [HV1.out];decide),if_neg (by rw [HV2.out];decide),if_neg HAB.out,HPA.out,HLA.out,if_neg (by rw [HV3.out];decide),HPB.out,HLB.out,if_neg (by rw [HV4.out];decide)]
 have HX2:=Qh hX2;clear hX2;by_cases hto:j.to_=0
 ·have hx:x=0:=by rw [HX2.out,if_pos HK0.out,if_pos hto]
  have t0:(j.to_ == 0)=true:=beq_iff_eq.2 hto;have t1:(j.to_ != 0)=false:=by rw [hto];rfl
  clear hto;go_quiet ((go_at_call 114;first | with_reducible exact Calls.quiet_of_same (ck _ j.point na true HV3.out) | with_reducible exact Calls.quiet_of_same (ck _ j.on nb true HV4.out) | fail));go_wp2;go_ret;exact ⟨by rw [hx];rfl,aa q2 _⟩
 have hx:x=2:=by rw [HX2.out,if_pos HK0.out,if_neg hto]
 have t0:(j.to_ == 0)=false:=beq_eq_false_iff_ne.2 hto;have t1:(j.to_ != 0)=true:=bne_iff_ne.2 hto;clear hto;go_quiet ((go_at_call 114;first | with_reducible exact Calls.quiet_of_same (ck _ j.point na true HV3.out) | with_reducible exact Calls.quiet_of_same (ck _ j.on nb true HV4.out) | fail));go_wp2;go_ret;exact ⟨by rw [hx];rfl,aa q2 _⟩
theorem nG (w:World) (A:Option Addr) (n c:Nat) (B:Option Addr) (p d:Nat) (C:Option Addr) (q e:Nat) (nm:List UInt8) (j:bi) (L:ay) (k:Nat) (h:SlS (dd k) 2 w A n c L.bodies) (hk:k≤10000000) (hk1:0 < k) (hn:n≤1000) (hk0:j.kind=1) (x:Int) (hx:aN L j=x) :
 Calls Tryz.prog 113 #[.agg #[ah nm,.slice A n c,.slice B p d,.slice C q e],.agg #[ah j.name,.int .i64 j.kind,.int .i64 j.a,.int .i64 j.point,.int .i64 j.b,.int .i64 j.on,.int .i64 j.to_]] w (ax w (cS x)):=by
 have e0:(j.kind == 0)=false:=beq_eq_false_iff_ne.2 (by rw [hk0];decide);have e2:(j.kind != 0)=true:=by rw [hk0];rfl
 have e1:(j.kind == 1)=true:=beq_iff_eq.2 hk0;have e3:(j.kind != 1)=false:=by rw [hk0];rfl
 have hln:=h.1;have HX:=Qh hx;have HK:=Qh (show ¬ (j.kind≠0∧j.kind≠1) by rw [hk0];decide);have HK0:=Qh hk0;have H:=Qh h;have HL:=Qh hln;obtain ⟨v1,hv1⟩:∃ v,inI j.a n=v:=⟨_,rfl⟩;obtain ⟨v2,hv2⟩:∃ v,inI j.b n=v:=⟨_,rfl⟩;have HV1:=Qh hv1;have HV2:=Qh hv2;clear hx hk0 h hln hv1 hv2;go_in;go_wp2_with fail;(with_reducible refine (nC _ j.a n v1 HV1.out).mono ?_);rintro e' w1 ⟨rfl,hb1⟩;have q1:=hb1.q2;have x1:Blk w1 w.heap.size 36 #[ah nm,.slice A n c,.slice B p d,.slice C q e]:=((aj _ _ _ (by simp)).alloc _).below hb1 (by simp <;> omega);have y1:Blk w1 (w.heap.size+1) 79 #[ah j.name,.int .i64 j.kind,.int .i64 j.a,.int .i64 j.point,.int .i64 j.b,.int .i64 j.on,.int .i64 j.to_]:=(aj _ _ _ (by simp)).below hb1 (by simp);clear hb1;cases v1
 ·have h9:x=9:=by rw [← HX.out];unfold aN;rw [if_neg HK.out,HL.out,if_pos HV1.out]
  go_wp2;go_ret;exact ⟨by rw [h9];rfl,q1⟩
 have cx1:=x1.cell 1;have cy2:=y1.cell 2;have cy4:=y1.cell 4;go_wp2_with fail;(with_reducible refine (nC _ j.b n v2 HV2.out).mono ?_);rintro e' w2 ⟨rfl,hb2⟩;have q2:=q1.trans (hb2.mono q1.size);have x2:=x1.below hb2 x1.lt;have y2:=y1.below hb2 y1.lt;clear cx1 cy2 cy4 hb2 x1 y1;cases v2
 ·have h9:x=9:=by rw [← HX.out];unfold aN;rw [if_neg HK.out,HL.out,if_neg (by rw [HV1.out];decide),if_pos HV2.out]
  go_wp2;go_ret;exact ⟨by rw [h9];rfl,q2⟩
 obtain ⟨an,han,hal⟩:=ig HV1.out;obtain ⟨bn,hbn,hbl⟩:=ig HV2.out;have HA:=Qh han;have HBN:=Qh hbn;have cx1:=x2.cell 1;have cy1:=y2.cell 1;have cy2:=y2.cell 2;have cy3:=y2.cell 3;have cy4:=y2.cell 4;have cy5:=y2.cell 5;have cy6:=y2.cell 6;rw [han] at cy2;rw [hbn] at cy4;clear han hbn;by_cases hab:an=bn
 ·have h13:x=13:=by
   rw [← HX.out];unfold aN;rw [if_neg HK.out,HL.out,if_neg (by rw [HV1.out];decide),if_neg (by rw [HV2.out];decide),if_pos (by rw [HA.out,HBN.out,hab])]
  subst hab;go_wp2;go_ret;exact ⟨by rw [h13];rfl,q2⟩
 have eab:((an:Int) == (bn:Int))=false:=beq_eq_false_iff_ne.2 (by omega);obtain ⟨g,o,bb,e1',hg,hnc,hbb,hBb⟩:=(H.out.bd q2).at_ hbl;subst e1';obtain ⟨ab,hab',hAb⟩:=(H.out.bd q2).rowAt hal;obtain ⟨Ab,nb,cb,k0,k1,hMb,_⟩:=hBb;obtain ⟨Aa,na,ca,l0,l1,hMa,_⟩:=hAb;have hpa:bM L j.a=ab.pts:=by unfold bM;rw [HA.out];show (match L.bodies[an]? with | some b=>b.pts | none=>[])=_;rw [hab']
 have hpb:bM L j.b=bb.pts:=by unfold bM;rw [HBN.out];show (match L.bodies[bn]? with | some b=>b.pts | none=>[])=_;rw [hbb]
 have hla:=hMa.1;have hlb:=hMb.1;have hbn2:((bn:Nat):Int) < ((n:Nat):Int):=by omega
 have han2:((an:Nat):Int) < ((n:Nat):Int):=by omega
 obtain ⟨v3,hv3⟩:∃ v,inI j.point na=v:=⟨_,rfl⟩;obtain ⟨v4,hv4⟩:∃ v,inI j.on nb=v:=⟨_,rfl⟩;have HV3:=Qh hv3;have HV4:=Qh hv4;have HMB:=Qh hMb;have HPA:=Qh hpa;have HPB:=Qh hpb;have HLA:=Qh hla;have HLB:=Qh hlb;have HAB:=Qh (show ¬ j.a=j.b by rw [HA.out,HBN.out];omega);clear hv3 hv4 hMb hMa hpa hpb hla hlb hbb hab' hab;go_wp2_with fail;cases v3
 ·have h9:x=9:=by
   rw [← HX.out];unfold aN;rw [if_neg HK.out,HL.out,if_neg (by rw [HV1.out];decide),if_neg (by rw [HV2.out];decide),if_neg HAB.out,HPA.out,HLA.out,if_pos HV3.out]
  go_quiet ((go_at_call 114;exact Calls.quiet_of_same (ck _ j.point na false HV3.out)));go_wp2;go_ret;exact ⟨by rw [h9];rfl,aa q2 _⟩
 cases v4
 ·have h9:x=9:=by
   rw [← HX.out];unfold aN;rw [if_neg HK.out,HL.out,if_neg (by rw [HV1.out];decide),if_neg (by rw [HV2.out];decide),if_neg HAB.out,HPA.out,HLA.out,if_neg (by rw [HV3.out];decide),HPB.out,HLB.out,if_pos HV4.out]
  go_quiet ((go_at_call 114;first | with_reducible exact Calls.quiet_of_same (ck _ j.point na true HV3.out) | with_reducible exact Calls.quiet_of_same (ck _ j.on nb false HV4.out) | fail));go_wp2;go_ret;exact ⟨by rw [h9];rfl,aa q2 _⟩
 have hX2:x=(if j.kind=0 then (if j.to_=0 then 0 else 2) else if inI j.to_ nb=false then 9 else if cM bb.pts j.on j.to_=true then 8 else 0):=by
  rw [← HX.out];unfold aN;rw [if_neg HK.out,HL.out,if_neg (by rw [HV1.out];decide),if_neg (by rw [HV2.out];decide),if_neg HAB.out,HPA.out,HLA.out,if_neg (by rw [HV3.out];decide),HPB.out,HLB.out,if_neg (by rw [HV4.out];decide)]
 have HX2:=Qh hX2;clear hX2;obtain ⟨v5,hv5⟩:∃ v,inI j.to_ nb=v:=⟨_,rfl⟩;have HV5:=Qh hv5;clear hv5;go_quiet ((go_at_call 114;first | with_reducible exact Calls.quiet_of_same (ck _ j.point na true HV3.out) | with_reducible exact Calls.quiet_of_same (ck _ j.on nb true HV4.out) | fail));go_wp2_with fail;(with_reducible refine (nC _ j.to_ nb v5 HV5.out).mono ?_);rintro e' w3 ⟨rfl,hb3⟩;have q23:Below w2.heap.size w2 w3:=af (aa (ae _) _) hb3;have q3:=q2.trans (q23.mono q2.size);have x3:=x2.below q23 x2.lt;have y3:=y2.below q23 y2.lt;clear cx1 cy1 cy2 cy3 cy4 cy5 cy6 k0 k1 l0 l1 hb3 x2 y2;cases v5
 ·have hx:x=9:=by rw [HX2.out,if_neg (by rw [HK0.out];decide),if_pos HV5.out]
  go_wp2;go_ret;exact ⟨by rw [hx];rfl,q3⟩
 obtain ⟨on,hon,honl⟩:=ig HV4.out;obtain ⟨tn,htn,htnl⟩:=ig HV5.out;have cy5:=y3.cell 5;have cy6:=y3.cell 6;rw [hon] at cy5;rw [htn] at cy6;obtain ⟨g',o',m,e2',hg',hnc',hm,hM⟩:=(HMB.out.mk_ q23).at_ honl;subst e2';obtain ⟨m',hm',hM'⟩:=(HMB.out.mk_ q23).rowAt htnl;obtain ⟨d0,⟨b1,A1,n1,c1,D1,m1,e1,d1,d2,d3,hQ1⟩,⟨b2,A2,n2,c2,D2,m2,f2,d4,d5,d6,hQ2⟩,_⟩:=hM;obtain ⟨z0,⟨b3,A3,n3,c3,D3,m3,f3,z1,z2,z3,hQ3⟩,⟨b4,A4,n4,c4,D4,m4,f4,z4,z5,z6,hQ4⟩,_⟩:=hM';have d2:w3.cell? ⟨g',o'+on * 7+2,none⟩=some (.slice A1 n1 c1):=d2;have d3:w3.cell? ⟨g',o'+on * 7+3,none⟩=some (.slice D1 m1 e1):=d3;have d5:w3.cell? ⟨g',o'+on * 7+5,none⟩=some (.slice A2 n2 c2):=d5;have d6:w3.cell? ⟨g',o'+on * 7+6,none⟩=some (.slice D2 m2 f2):=d6;have z2:w3.cell? ⟨g',o'+tn * 7+2,none⟩=some (.slice A3 n3 c3):=z2;have z3:w3.cell? ⟨g',o'+tn * 7+3,none⟩=some (.slice D3 m3 f3):=z3;have z5:w3.cell? ⟨g',o'+tn * 7+5,none⟩=some (.slice A4 n4 c4):=z5;have z6:w3.cell? ⟨g',o'+tn * 7+6,none⟩=some (.slice D4 m4 f4):=z6
 have hpe:cM bb.pts j.on j.to_=(decide (m.x.q=m'.x.q) && decide (m.y.q=m'.y.q)):=by
  unfold cM;rw [hon,htn];show (match bb.pts[on]?,bb.pts[tn]? with | some p,some q=>decide (p.x.q=q.x.q) && decide (p.y.q=q.y.q) | _,_=>false)=_;rw [hm,hm']
 have HPE:=Qh hpe;have HQ1:=Qh hQ1;have HQ2:=Qh hQ2;have HQ3:=Qh hQ3;have HQ4:=Qh hQ4;have hon2:((on:Nat):Int) < ((nb:Nat):Int):=by omega
 have htn2:((tn:Nat):Int) < ((nb:Nat):Int):=by omega
 obtain ⟨s1,hs1⟩:∃ s,gf m.x.q m'.x.q=s:=⟨_,rfl⟩;obtain ⟨s2,hs2⟩:∃ s,gf m.y.q m'.y.q=s:=⟨_,rfl⟩;have HS1:=Qh hs1;have HS2:=Qh hs2;have hl1:w.heap.size < w3.heap.size:=x3.lt;have hl2:w.heap.size+1 < w3.heap.size:=y3.lt;clear hpe hQ1 hQ2 hQ3 hQ4 hs1 hs2 hm hm' hon htn;go_wp2_with fail
 have hz:∀ z:Bool,(decide (m.x.q=m'.x.q) && decide (m.y.q=m'.y.q))=z→x=if z=true then 8 else 0:=fun z hz=>by
  rw [HX2.out,if_neg (by rw [HK0.out];decide),if_neg (by rw [HV5.out];decide),HPE.out,hz]
 have HZ:=Qh hz;clear hz;go_region
 ·go_wp2_with fail
  (with_reducible refine (gr _ b1 A1 n1 c1 D1 m1 e1 m.x.q k ?_ b3 A3 n3 c3 D3 m3 f3 m'.x.q k ?_ s1 HS1.out hk1 (by omega) hk1 (by omega)).mono ?_);(exact ((HQ1.out.qz).belw (aa ((((ae _).alloc Qr _).alloc (by simp) _)) 1)));(exact ((HQ3.out.qz).belw (aa ((((ae _).alloc Qr _).alloc (by simp) _)) 1)));rintro e' w4 ⟨rfl,hb4⟩;have xa:=(((aj _ _ _ (g:=w3.heap.size) (by simp)).alloc _).drew).below hb4 (by simp <;> omega);have xb:=((aj _ _ _ (g:=w3.heap.size+1) (by simp)).drew).below hb4 (by simp <;> omega);have q4:Below w3.heap.size w3 w4:=(aa ((((ae w3).alloc Qr _).alloc (by simp) _)) 1).trans (hb4.mono (by simp <;> omega));have q24:=q3.trans (q4.mono q3.size);have hla:w3.heap.size < w4.heap.size:=xa.lt;have hlb:w3.heap.size+1 < w4.heap.size:=xb.lt;by_cases hs1:s1=0
  ·have es:(s1 == 0)=true:=beq_iff_eq.2 hs1
   have hqx:m.x.q=m'.x.q:=bo.1 (HS1.out.trans hs1);have HQX:=Qh hqx;clear hs1 hqx;have ca4:=xa.cell 4;have ca5:=xa.cell 5;have ca6:=xa.cell 6;have cb4:=xb.cell 4;have cb5:=xb.cell 5;have cb6:=xb.cell 6;go_wp2_with fail;(with_reducible refine (gr _ b2 A2 n2 c2 D2 m2 f2 m.y.q k ?_ b4 A4 n4 c4 D4 m4 f4 m'.y.q k ?_ s2 HS2.out hk1 (by omega) hk1 (by omega)).mono ?_);(exact (HQ2.out.qz).belw q4);(exact (HQ4.out.qz).belw q4);rintro e' w5 ⟨rfl,hb5⟩;have q5:=q24.trans (hb5.mono q24.size);clear ca4 ca5 ca6 cb4 cb5 cb6;by_cases hs2:s2=0
   ·have es2:(s2 == 0)=true:=beq_iff_eq.2 hs2
    have hqy:m.y.q=m'.y.q:=bo.1 (HS2.out.trans hs2);have h8:x=8:=HZ.out true (by rw [decide_eq_true HQX.out,decide_eq_true hqy];rfl);clear hs2 hqy;go_wp2;go_ret;exact ⟨by rw [h8];rfl,q5⟩
   have es2:(s2 == 0)=false:=beq_eq_false_iff_ne.2 hs2;have h0:x=0:=HZ.out false (by rw [decide_eq_false (fun e=>hs2 (HS2.out.symm.trans (bo.2 e)))];simp);clear hs2;go_wp2;go_ret;exact ⟨by rw [h0];rfl,q5⟩
  have es:(s1 == 0)=false:=beq_eq_false_iff_ne.2 hs1;have h0:x=0:=HZ.out false (by rw [decide_eq_false (fun e=>hs1 (HS1.out.symm.trans (bo.2 e)))];rfl);clear hs1;go_wp2;go_ret;exact ⟨by rw [h0];rfl,q24⟩
 go_wp2_with fail;(with_reducible refine (gr _ b1 A1 n1 c1 D1 m1 e1 m.x.q k ?_ b3 A3 n3 c3 D3 m3 f3 m'.x.q k ?_ s1 HS1.out hk1 (by omega) hk1 (by omega)).mono ?_);(exact ((HQ1.out.qz).belw (aa ((((ae _).alloc Qr _).alloc (by simp) _)) 1)));(exact ((HQ3.out.qz).belw (aa ((((ae _).alloc Qr _).alloc (by simp) _)) 1)));rintro e' w4 ⟨rfl,hb4⟩;have xa:=(((aj _ _ _ (g:=w3.heap.size) (by simp)).alloc _).drew).below hb4 (by simp <;> omega);have xb:=((aj _ _ _ (g:=w3.heap.size+1) (by simp)).drew).below hb4 (by simp <;> omega);have q4:Below w3.heap.size w3 w4:=(aa ((((ae w3).alloc Qr _).alloc (by simp) _)) 1).trans (hb4.mono (by simp <;> omega));have q24:=q3.trans (q4.mono q3.size);have hla:w3.heap.size < w4.heap.size:=xa.lt;have hlb:w3.heap.size+1 < w4.heap.size:=xb.lt;by_cases hs1:s1=0
 ·have es:(s1 == 0)=true:=beq_iff_eq.2 hs1
  have hqx:m.x.q=m'.x.q:=bo.1 (HS1.out.trans hs1);have HQX:=Qh hqx;clear hs1 hqx;have ca4:=xa.cell 4;have ca5:=xa.cell 5;have ca6:=xa.cell 6;have cb4:=xb.cell 4;have cb5:=xb.cell 5;have cb6:=xb.cell 6;go_wp2_with fail;(with_reducible refine (gr _ b2 A2 n2 c2 D2 m2 f2 m.y.q k ?_ b4 A4 n4 c4 D4 m4 f4 m'.y.q k ?_ s2 HS2.out hk1 (by omega) hk1 (by omega)).mono ?_);(exact (HQ2.out.qz).belw q4);(exact (HQ4.out.qz).belw q4);rintro e' w5 ⟨rfl,hb5⟩;have q5:=q24.trans (hb5.mono q24.size);clear ca4 ca5 ca6 cb4 cb5 cb6;by_cases hs2:s2=0
  ·have es2:(s2 == 0)=true:=beq_iff_eq.2 hs2
   have hqy:m.y.q=m'.y.q:=bo.1 (HS2.out.trans hs2);have h8:x=8:=HZ.out true (by rw [decide_eq_true HQX.out,decide_eq_true hqy];rfl);clear hs2 hqy;go_wp2;go_ret;exact ⟨by rw [h8];rfl,q5⟩
  have es2:(s2 == 0)=false:=beq_eq_false_iff_ne.2 hs2;have h0:x=0:=HZ.out false (by rw [decide_eq_false (fun e=>hs2 (HS2.out.symm.trans (bo.2 e)))];simp);clear hs2;go_wp2;go_ret;exact ⟨by rw [h0];rfl,q5⟩
 have es:(s1 == 0)=false:=beq_eq_false_iff_ne.2 hs1;have h0:x=0:=HZ.out false (by rw [decide_eq_false (fun e=>hs1 (HS1.out.symm.trans (bo.2 e)))];rfl);clear hs1;go_wp2;go_ret;exact ⟨by rw [h0];rfl,q24⟩
theorem dQ {α:Type}{f:List α→α→Int}:∀ (l prev:List α),aU f prev l=0→∀ a∈l,∃ p,f p a=0
 | [],_,_=>by simp
 | a :: r,prev,h=>by
  unfold aU at h;split at h
  ·rename_i h0
   intro x hx;rcases List.mem_cons.1 hx with rfl | hx
   ·exact ⟨_,h0⟩
   exact dQ r _ h x hx
  rename_i h0;exact absurd h h0
theorem dz {s:List UInt8}(h:aW s=true):s.length≤24:=by
 unfold aW at h;simp at h;omega
def pF (m:aX):Prop:=m.name.length≤24∧m.x.ok=true∧m.y.ok=true
theorem lF {p:List aX}{m:aX}(h:aR p m=0):pF m:=by
 unfold aR at h
 repeat' split at h
 all_goals first | omega | skip
 rename_i h1 h2 h3 h4;exact ⟨dz (by simpa using h1),by simpa using h3,by simpa using h4⟩
def ce (b:aA):Prop:=b.name.length≤24∧b.pts.length≤8∧∀ m∈b.pts,pF m
theorem lG {p:List aA}{b:aA}(h:aK p b=0):ce b:=by
 unfold aK at h;split at h
 ·omega
 rename_i h1;split at h
 ·omega
 split at h
 ·omega
 rename_i h3;refine ⟨dz (by simpa using h1),by omega,fun m hm=>?_⟩;obtain ⟨q,hq⟩:=dQ _ _ h m hm;exact lF hq
def mf (bs:List aA) (j:bi):Prop:=j.name.length≤24∧∃ (a b p o:Nat) (x y:aA) (m1 m2:aX),j.a=(a:Nat)∧j.b=(b:Nat)∧j.point=(p:Nat)∧j.on=(o:Nat)∧bs[a]?=some x∧bs[b]?=some y∧x.pts[p]?=some m1∧y.pts[o]?=some m2 ∧
  ((j.kind=0∧j.to_=0)∨(j.kind=1∧∃ (t:Nat) (m3:aX),j.to_=(t:Nat)∧y.pts[t]?=some m3))
theorem fP {α:Type}{l:List α}{i:Int}(h:inI i l.length=true):∃ (n:Nat) (a:α),i=(n:Nat)∧l[n]?=some a:=by
 obtain ⟨n,h1,h2⟩:=ig h;exact ⟨n,l[n],h1,List.getElem?_eq_getElem h2⟩
theorem jT {L:ay}{i:Int}{n:Nat}{b:aA}(h:i=(n:Nat)) (hb:L.bodies[n]?=some b):bM L i=b.pts:=by
 subst h;unfold bM;show (match L.bodies[n]? with | some b=>b.pts | none=>[])=_;rw [hb]
theorem kL {L:ay}{p:List bi}{j:bi}(h:aG L p j=0):mf L.bodies j:=by
 unfold aG at h;split at h
 ·omega
 rename_i h1;split at h
 ·omega
 refine ⟨dz (by simpa using h1),?_⟩;unfold aN at h;split at h
 ·omega
 rename_i hk;split at h
 ·omega
 rename_i ha;split at h
 ·omega
 rename_i hb;split at h
 ·omega
 split at h
 ·omega
 rename_i hp;split at h
 ·omega
 rename_i ho;obtain ⟨a,x,ea,hx⟩:=fP (by simpa using ha);obtain ⟨b,y,eb,hy⟩:=fP (by simpa using hb);rw [jT ea hx] at hp;rw [jT eb hy] at ho;obtain ⟨pn,m1,ep,hm1⟩:=fP (by simpa using hp);obtain ⟨on,m2,eo,hm2⟩:=fP (by simpa using ho);refine ⟨a,b,pn,on,x,y,m1,m2,ea,eb,ep,eo,hx,hy,hm1,hm2,?_⟩;split at h
 ·rename_i h0
  split at h
  ·rename_i ht;exact Or.inl ⟨h0,ht⟩
  omega
 rename_i h0;split at h
 ·omega
 rename_i ht;rw [jT eb hy] at ht;obtain ⟨t,m3,et,hm3⟩:=fP (by simpa using ht);exact Or.inr ⟨by omega,t,m3,et,hm3⟩
def kM (bs:List aA) (d:bq):Prop:=d.name.length≤24∧∃ (i:Nat) (b:aA),d.body=(i:Nat)∧bs[i]?=some b
theorem jU {bs:List aA}{p:List bq}{d:bq}(h:ar bs.length p d=0):kM bs d:=by
 unfold ar at h;split at h
 ·omega
 rename_i h1;split at h
 ·omega
 split at h
 ·omega
 rename_i hb;obtain ⟨i,b,e,hi⟩:=fP (by simpa using hb);exact ⟨dz (by simpa using h1),i,b,e,hi⟩
structure tQ (L:ay):Prop where
  name:L.name.length≤24
  nb:L.bodies.length≤8
  nj:L.joints.length≤16
  nd:L.drivers.length≤2
  b0:0 < L.bodies.length
  body:∀ b∈L.bodies,ce b
  joint:∀ j∈L.joints,mf L.bodies j
  driver:∀ d∈L.drivers,kM L.bodies d
theorem kN {L:ay}(h:bN L=0):tQ L:=by
 unfold bN at h;split at h
 ·omega
 rename_i h1;split at h
 ·omega
 rename_i h2;split at h
 ·omega
 rename_i h3;split at h
 ·rename_i h4;exact absurd h h4
 rename_i h4;split at h
 ·omega
 rename_i h5;split at h
 ·rename_i h6;exact absurd h h6
 rename_i h6;split at h
 ·omega
 rename_i h7;refine ⟨dz (by simpa using h1),by omega,by omega,by omega,by omega,fun b hb=>?_,fun j hj=>?_,fun d hd=>?_⟩
 ·obtain ⟨q,hq⟩:=dQ _ _ (by simpa using h4) b hb
  exact lG hq
 ·obtain ⟨q,hq⟩:=dQ _ _ (by simpa using h6) j hj
  exact kL hq
 obtain ⟨q,hq⟩:=dQ _ _ h d hd;exact jU hq
def dA (bs:List aA) (i j:Int):List UInt8:=match bs[i.toNat]? with
  | some b=>(match b.pts[j.toNat]? with | some m=>b.name ++ 46 :: m.name | none=>[])
  | none=>[]
theorem eu {bs:List aA}{i j:Nat}{b:aA}{m:aX}(hb:bs[i]?=some b) (hm:b.pts[j]?=some m):dA bs (i:Nat) (j:Nat)=b.name ++ 46 :: m.name:=by
 unfold dA;show (match bs[i]? with | some b=>(match b.pts[j]? with | some m=>b.name ++ 46 :: m.name | none=>[]) | none=>[])=_;rw [hb];show (match b.pts[j]? with | some m=>b.name ++ 46 :: m.name | none=>[])=_;rw [hm]
def kO (bs:List aA) (i:Int):List UInt8:=match bs[i.toNat]? with | some b=>b.name | none=>[]
theorem mg {bs:List aA}{i:Nat}{b:aA}(hb:bs[i]?=some b):kO bs (i:Nat)=b.name:=by
 unfold kO;show (match bs[i]? with | some b=>b.name | none=>[])=_;rw [hb]
def bt (bs:List aA) (j:bi):List (List UInt8) :=
  if j.kind=1 then [[115,108,105,100,101],j.name,dA bs j.a j.point,dA bs j.b j.on,dA bs j.b j.to_]
  else [[112,105,110],j.name,dA bs j.a j.point,dA bs j.b j.on]
def am (bs:List aA) (j:bi):List UInt8:=dG (bt bs j) ++ [59,10]
def az (bs:List aA) (d:bq):List UInt8:=[100,114,105,118,101,114,32] ++ d.name ++ [32] ++ kO bs d.body ++ [59,10]
def ii (nm:List UInt8):List UInt8:=[108,105,110,107,97,103,101,32] ++ nm ++ [59,10]
def aL (b:aA):List UInt8:=dy b ++ [10]
def cH (L:ay):List UInt8:=ii L.name ++ L.bodies.flatMap aL ++ L.joints.flatMap (am L.bodies) ++ L.drivers.flatMap (az L.bodies)
def aO (L:ay):Int:=if bN L≠0 then bN L else if eI L.bodies=true∨65536 < (cH L).length then 4 else 0
def aY (L:ay):List UInt8:=if aO L=0 then cH L else []
theorem bR {α:Type}(f:α→List UInt8) (K:Nat):∀ (l:List α),(∀ a∈l,(f a).length≤K)→(l.flatMap f).length≤K * l.length
 | [],_=>by simp
 | a :: l,h=>by
  have h1:=h a (by simp);have h2:=bR f K l fun x hx=>h x (by simp [hx])
  simp only [List.flatMap_cons,List.length_append,List.length_cons,Nat.mul_add,Nat.mul_one];omega
theorem jV {b:aA}(hb:b.name.length≤24) (hp:b.pts.length≤8) (h:∀ m∈b.pts,ek m):(aL b).length≤30000:=by
 have:=em h;unfold aL dy;simp only [List.length_append,List.length_cons,List.length_nil];omega
theorem fQ {bs:List aA}{i j:Int}(h:∀ b∈bs,ce b):(dA bs i j).length≤49:=by
 unfold dA;split
 ·rename_i b hb
  have h1:=h b (List.mem_of_getElem? hb);split
  ·rename_i m hm
   have h2:=h1.2.2 m (List.mem_of_getElem? hm);have:=h1.1;have:=h2.1;simp only [List.length_append,List.length_cons];omega
  simp
 simp
theorem nH {bs:List aA}{i:Int}(h:∀ b∈bs,ce b):(kO bs i).length≤24:=by
 unfold kO;split
 ·rename_i b hb
  exact (h b (List.mem_of_getElem? hb)).1
 simp
theorem de {bs:List aA}{j:bi}(h:∀ b∈bs,ce b) (hj:j.name.length≤24):(am bs j).length≤200:=by
 have h1:=fQ h (i:=j.a) (j:=j.point);have h2:=fQ h (i:=j.b) (j:=j.on);have h3:=fQ h (i:=j.b) (j:=j.to_);unfold am bt;split
 ·simp only [dG,List.length_append,List.length_cons,List.length_nil]
  omega
 simp only [dG,List.length_append,List.length_cons,List.length_nil];omega
theorem dR {bs:List aA}{d:bq}(h:∀ b∈bs,ce b) (hd:d.name.length≤24):(az bs d).length≤60:=by
 have h1:=nH h (i:=d.body);unfold az;simp only [List.length_append,List.length_cons,List.length_nil];omega
def RdW (r:RD):Prop:=Wds r.num∧Wds r.den
def MkW (m:aX):Prop:=RdW m.x∧RdW m.y
def LkW (L:ay):Prop:=∀ b∈L.bodies,∀ m∈b.pts,MkW m
structure MkF (m:aX):Prop where
  name:aW m.name=true
  x:m.x.ok=true
  y:m.y.ok=true
structure BdF (b:aA):Prop where
  name:aW b.name=true
  pts:∀ m∈b.pts,MkF m
  dist:∀ {i j:Nat}{m m':aX},b.pts[i]?=some m→b.pts[j]?=some m'→m.name=m'.name→i=j
structure LkF (L:ay):Prop where
  ok:tQ L
  name:aW L.name=true
  body:∀ b∈L.bodies,BdF b
  dist:∀ {i j:Nat}{a b:aA},L.bodies[i]?=some a→L.bodies[j]?=some b→a.name=b.name→i=j
  joint:∀ j∈L.joints,aW j.name=true
  driver:∀ d∈L.drivers,aW d.name=true
/-! Lines. -/
def gg (h:Nat) (c:UInt8):Nat:=((h ^^^ c.toNat) * 16777619) % 4294967296
def ij (t:List UInt8):Nat:=t.foldl gg 2166136261
theorem rb (h:Nat) (c:UInt8):gg h c < 4294967296:=by unfold gg;omega
theorem jW:∀ (t:List UInt8) (b:Nat),b < 4294967296→t.foldl gg b < 4294967296
 | [],_,h=>h
 | c :: t,b,_=>by rw [List.foldl_cons];exact jW t _ (rb b c)
theorem mh (t:List UInt8):ij t < 4294967296:=by unfold ij;exact jW t _ (by omega)
theorem kP {t:List UInt8}{i:Nat}{c:UInt8}(h:t[i]?=some c) (b:Nat):(t.take (i+1)).foldl gg b=gg ((t.take i).foldl gg b) c:=by
 rw [List.take_add_one,h,List.foldl_append];generalize (t.take i).foldl gg b=x;rw [Option.toList_some,List.foldl_cons,List.foldl_nil]
def kQ (k:Nat):UInt8:=UInt8.ofNat (if k < 10 then 48+k else 87+k)
def cN:Nat→Nat→List UInt8
  | 0,_=>[]
  | k+1,n=>cN k (n / 16) ++ [kQ (n % 16)]
theorem fB:∀ k n,(cN k n).length=k
 | 0,_=>rfl
 | k+1,n=>by rw [cN,List.length_append,fB k];rfl
theorem eP:∀ k n,cN (k+1) n=kQ (n / 16 ^ k % 16) :: cN k n
 | 0,n=>by simp [cN]
 | k+1,n=>by
  rw [cN,eP k (n / 16),cN,Nat.div_div_eq_div_mul,show 16 * 16 ^ k=16 ^ (k+1) by rw [Nat.pow_succ,Nat.mul_comm]];rfl
theorem jn (n:Nat):∀ d k,n < 16 ^ k→cN (d+k) n=List.replicate d 48 ++ cN k n
 | 0,k,_=>by simp
 | d+1,k,h=>by
  have h2:n / 16 ^ (d+k)=0:=Nat.div_eq_of_lt (Nat.lt_of_lt_of_le h (Nat.pow_le_pow_right (by decide) (by omega)));rw [show d+1+k=d+k+1 by omega,eP,h2,jn n d k h,List.replicate_succ];rfl
def lH (n:Nat):List UInt8:=cN 8 n
theorem ik (n:Nat):(lH n).length=8:=fB 8 n
theorem pG {n k:Nat}(h:n < 16 ^ k) (hk:k≤8):List.replicate (8 - k) 48 ++ cN k n=lH n:=by
 rw [← jn n (8 - k) k h,show 8 - k+k=8 by omega];rfl
theorem ew (n:Int):IntKind.u32.wrap n=n % 4294967296:=by simp [IntKind.wrap,IntKind.signed,IntKind.bits]
theorem fR (a b:Nat) (ha:a < 4294967296) (hb:b < 4294967296):bits .xor .u32 (a:Int) (b:Int)=((a ^^^ b:Nat):Int):=by
 have hx:a ^^^ b < 2 ^ 32:=Nat.xor_lt_two_pow (by omega) (by omega)
 have h1:(BitVec.ofInt 32 (a:Int)).toNat=a:=by
  rw [BitVec.ofInt_natCast,BitVec.toNat_ofNat];exact Nat.mod_eq_of_lt (by omega)
 have h2:(BitVec.ofInt 32 (b:Int)).toNat=b:=by
  rw [BitVec.ofInt_natCast,BitVec.toNat_ofNat];exact Nat.mod_eq_of_lt (by omega)
 show IntKind.u32.wrap ((BitVec.ofInt 32 (a:Int) ^^^ BitVec.ofInt 32 (b:Int)).toNat:Int)=_;rw [BitVec.toNat_xor,h1,h2,ew];omega
theorem il (a:Nat) (ha:a < 4294967296):bits .and .u32 (a:Int) 15=((a % 16:Nat):Int):=by
 have h1:(BitVec.ofInt 32 (a:Int)).toNat=a:=by
  rw [BitVec.ofInt_natCast,BitVec.toNat_ofNat];exact Nat.mod_eq_of_lt (by omega)
 have h3:a &&& 15=a % 16:=Nat.and_two_pow_sub_one_eq_mod a 4;show IntKind.u32.wrap ((BitVec.ofInt 32 (a:Int) &&& BitVec.ofInt 32 15).toNat:Int)=_;rw [BitVec.toNat_and,h1,show (BitVec.ofInt 32 15).toNat=15 by decide,h3,ew];omega
theorem iI (a:Nat) (ha:a < 4294967296):bits .and .u64 (a:Int) 15=((a % 16:Nat):Int):=by
 have h1:(BitVec.ofInt 64 (a:Int)).toNat=a:=by
  rw [BitVec.ofInt_natCast,BitVec.toNat_ofNat];exact Nat.mod_eq_of_lt (by omega)
 have h3:a &&& 15=a % 16:=Nat.and_two_pow_sub_one_eq_mod a 4;show IntKind.u64.wrap ((BitVec.ofInt 64 (a:Int) &&& BitVec.ofInt 64 15).toNat:Int)=_;rw [BitVec.toNat_and,h1,show (BitVec.ofInt 64 15).toNat=15 by decide,h3];simp [IntKind.wrap,IntKind.signed,IntKind.bits];omega
theorem mi {h:Nat}(hh:h < 4294967296) (c:UInt8):bits .xor .u32 (h:Int) ((c.toNat:Nat):Int) * 16777619 % 4294967296=((gg h c:Nat):Int):=by
 have hc:c.toNat < 256:=c.toNat_lt;rw [fR _ _ hh (by omega)];unfold gg;omega
theorem pH (w:World) (s:List UInt8) (C:Nat) (t:TypeId) (fr:Nat × Nat) {j:Nat}{c:UInt8}(h:s[j]?=some c):(w.drew.alloc (.cells (bytesRow ⟨s.toArray⟩ C) t fr)).cell? ⟨w.heap.size,j,none⟩=some (.int .u8 ((c.toNat:Nat):Int)):=by
 have e:w.drew.heap.size=w.heap.size:=rfl;have hj:=(List.getElem?_eq_some_iff.1 h);rw [← e,World.cell?_alloc_mark,bytesRow_at _ _ _ (by simpa using hj.1)];simp [hj.2]
theorem kR (w:World) (o:Obj):Below w.heap.size w (w.drew.alloc o):=(aa (ae w) 1).alloc Qr _
theorem rG (w:World) (s:List UInt8) (hs:s.length≤100000000):Calls Tryz.prog 25 #[ah s] w (ax w (.int .u32 (ij s:Nat))):=by
 have hsz:=ag s;have hcv:=fun w:World=>run_bytes_of_string (P:=Tryz.prog) w 9 47 5 ⟨s.toArray⟩ Tryz.underlying9 Tryz.underlying47 Tryz.underlying5
 go_in;go_wp2_with fail;go_loopw [3,9] (fun hv iv wr=>∃ i:Nat,hv=.int .u32 (((s.take i).foldl gg 2166136261:Nat):Int)∧iv=.int .i64 (i:Nat)∧i≤s.length∧Below w.heap.size w wr∧Hid (∀ j c,s[j]?=some c→wr.cell? ⟨w.heap.size,j,none⟩=some (.int .u8 ((c.toNat:Nat):Int)))) (fun _ iv _=>s.length - (intOf iv).toNat)
 case atStart=>exact ⟨0,rfl,rfl,Nat.zero_le _,kR _ _,Qh fun j c h=>pH _ _ _ _ _ h⟩
 case round =>
  obtain ⟨i,rfl,rfl,hi,hb,HC⟩:=hrel;rename World=>wa;rcases Nat.lt_or_ge i s.length with hlt | hge
  ·have hi1:((i:Int) < (s.length:Int))=True:=by simp;omega
   obtain ⟨c,hc⟩:∃ c,s[i]?=some c:=⟨_,List.getElem?_eq_getElem hlt⟩;have c0:=HC.out i c hc;have hst:=kP hc 2166136261;have hv:=mi (jW (s.take i) 2166136261 (by omega)) c;rw [← hst] at hv;have hw8:IntKind.u32.wrap ((c.toNat:Nat):Int)=((c.toNat:Nat):Int):=by rw [ew];have:=c.toNat_lt;omega
   have HV:=Qh hv;clear hst hv hc;go_wp2_with fail;go_roundw
   case rel=>exact ⟨i+1,by rw [HV.out],by go_num,by omega,hb,HC⟩
   case measure=>simp [intOf];omega
  have hi1:((i:Int) < (s.length:Int))=False:=by simp;omega
  have hin:s.take i=s:=List.take_of_length_le hge;rw [hin];clear hin;go_wp2;go_ret;exact ⟨rfl,hb⟩
theorem tR (w:World) (s:List UInt8) (hs:s.length≤100000000):Calls Tryz.prog 26 #[ah s] w (ax w (.int .u32 (ij s:Nat))):=by
 have hsz:=ag s;go_in;go_wp2_with fail;go_loopw [3,4] (fun hv iv wr=>∃ i:Nat,hv=.int .u32 (((s.take i).foldl gg 2166136261:Nat):Int)∧iv=.int .i64 (i:Nat)∧i≤s.length∧Below w.heap.size w wr) (fun _ iv _=>s.length - (intOf iv).toNat)
 case atStart=>exact ⟨0,rfl,rfl,Nat.zero_le _,ae w⟩
 case round =>
  obtain ⟨i,rfl,rfl,hi,hb⟩:=hrel;rename World=>wa;rcases Nat.lt_or_ge i s.length with hlt | hge
  ·have hi1:((i:Int) < (s.length:Int))=True:=by simp;omega
   have hi0:(0:Int)≤((i:Nat):Int):=by omega
   obtain ⟨c,hc⟩:∃ c,s[i]?=some c:=⟨_,List.getElem?_eq_getElem hlt⟩;have hget:∀ h,(⟨s.toArray⟩:ByteArray)[i]'h=c:=fun h=>(List.getElem?_eq_some_iff.1 hc).2
   have hst:=kP hc 2166136261;have hv:=mi (jW (s.take i) 2166136261 (by omega)) c;rw [← hst] at hv;have hw8:IntKind.u32.wrap ((c.toNat:Nat):Int)=((c.toNat:Nat):Int):=by rw [ew];have:=c.toNat_lt;omega
   have HV:=Qh hv;clear hst hv hc;go_wp2_with fail;go_roundw
   case rel=>exact ⟨i+1,by rw [HV.out],by go_num,by omega,hb⟩
   case measure=>simp [intOf];omega
  have hi1:((i:Int) < (s.length:Int))=False:=by simp;omega
  have hin:s.take i=s:=List.take_of_length_le hge;rw [hin];clear hin;go_wp2;go_ret;exact ⟨rfl,hb⟩
theorem rc:∀ d,d < 16→(⟨#[48,49,50,51,52,53,54,55,56,57,97,98,99,100,101,102]⟩:ByteArray).extract d (d+1)=⟨[kQ d].toArray⟩:=by
 intro d hd;rw [show (⟨#[48,49,50,51,52,53,54,55,56,57,97,98,99,100,101,102]⟩:ByteArray)=⟨[48,49,50,51,52,53,54,55,56,57,97,98,99,100,101,102].toArray⟩ from rfl,tF];have h:∀ d:Fin 16,(([48,49,50,51,52,53,54,55,56,57,97,98,99,100,101,102]:List UInt8).drop d.1).take (d.1+1 - d.1)=[kQ d.1]:=by decide
 rw [h ⟨d,hd⟩]
theorem re (d:Nat) (hd:d < 16):∀ h,(⟨#[48,49,50,51,52,53,54,55,56,57,97,98,99,100,101,102,103,104,105,106,107,108,109,110,111,112,113,114,115,116,117,118,119,120,121,122]⟩:ByteArray)[d]'h=kQ d:=by
 intro h;have h9:∀ d:Fin 16,([48,49,50,51,52,53,54,55,56,57,97,98,99,100,101,102,103,104,105,106,107,108,109,110,111,112,113,114,115,116,117,118,119,120,121,122]:List UInt8)[d.1]?=some (kQ d.1):=by decide
 exact (List.getElem?_eq_some_iff.1 (h9 ⟨d,hd⟩)).2
theorem tS (m:Nat):(16:Nat) ^ m=2 ^ (4 * m):=by rw [Nat.pow_mul]
theorem tT (w:World) (n:Nat) (hn:n < 4294967296):Calls Tryz.prog 34 #[.int .u32 (n:Nat)] w (ax w (ah (lH n))):=by
 go_in;go_wp2_with fail;go_loopw [3,4] (fun ov iv wr=>∃ (j:Nat) (O:List UInt8),ov=ah O∧iv=.int .i64 (28 - 4 * (j:Int))∧j≤8∧Hid (cN j (n / 16 ^ (8 - j))=O)∧Below w.heap.size w wr) (fun _ iv _=>(intOf iv+4).toNat)
 case atStart=>exact ⟨0,[],rfl,rfl,Nat.zero_le _,Qh rfl,ae w⟩
 case round =>
  obtain ⟨j,O,rfl,rfl,hj,HO,hb⟩:=hrel;rename World=>wa;rcases Nat.lt_or_ge j 8 with hlt | hge
  ·obtain ⟨y,hy⟩:∃ y:Nat,28 - 4 * j=y:=⟨_,rfl⟩
   have hy2:(28 - 4 * (j:Int))=(y:Int):=by omega
   rw [hy2];have hy31:y≤28:=by omega
   have h1:((0:Int)≤(y:Int))=True:=by simp
   obtain ⟨m,hm⟩:∃ m,n / 2 ^ y=m:=⟨_,rfl⟩;have hmn:m≤n:=by rw [← hm];exact Nat.div_le_self _ _
   have hsh:(n:Int) / 2 ^ y=(m:Int):=by rw [← hm];simp
   obtain ⟨d,hd⟩:∃ d,m % 16=d:=⟨_,rfl⟩;have hd16:d < 16:=by omega
   have hba:=il m (by omega);rw [hd] at hba;have hwd:((d:Int)+1) % 4294967296=(d:Int)+1:=by omega
   have htn:((d:Int)+1).toNat=d+1:=by omega
   have e1:=rc d hd16;obtain ⟨D,hD⟩:∃ D,[kQ d]=D:=⟨_,rfl⟩;rw [hD] at e1
   have hO:cN (j+1) (n / 16 ^ (8 - (j+1)))=O ++ D:=by
    have e7:8 - j=(8 - (j+1))+1:=by omega
    rw [cN,← hD,← hd,← hm,← hy,← HO.out,e7,Nat.div_div_eq_div_mul,← Nat.pow_succ,tS (8 - (j+1)),show 4 * (8 - (j+1))=28 - 4 * j by omega]
   have hlO:O.length=j:=by rw [← HO.out,fB]
   have hlD:D.length=1:=by rw [← hD];rfl
   obtain ⟨O2,eO2⟩:∃ t,O ++ D=t:=⟨_,rfl⟩;have aO2:=fV O D;rw [eO2] at aO2 hO;have kO2:(9223372036854775807 < O.length+D.length)=False:=eq_false (by omega);have zO:=ag O;have zD:=ag D;have HO2:=Qh hO;have HY:=Qh hy2;clear hO hD hm hd eO2 hmn HO hy hy2;go_wp2_with fail;go_roundw
   case rel=>exact ⟨j+1,O2,rfl,by have:=HY.out;first | go_num | (congr 1;omega),by omega,HO2,hb⟩
   case measure=>simp [intOf];omega
  obtain rfl:j=8:=by omega
  have hO:cN 8 n=O:=by have:=HO.out;simpa using this
  have HO2:=Qh hO;clear hO HO;go_wp2;go_ret;exact ⟨by rw [← HO2.out];rfl,hb⟩
def T64 (w:World):Prop:=w.cell? ⟨7,15,none⟩=some (.int .u8 4)
theorem T64.belw {w w':World}(h:T64 w) (hb:Below w.heap.size w w'):T64 w':=(hb.cell (p:=⟨7,15,none⟩) (World.block_lt_of_cell? w _ h)).trans h
theorem uu (w:World) (htab:T64 w):Calls Tryz.prog 219 #[.int .u64 16] w (fun e w'=>e=.returned (.int .i64 4)∧w'=w):=by
 have h1:IntKind.u64.wrap (bits .and .u64 16 (IntKind.u64.wrap (-16)) * 285870213051353865) / 288230376151711744=15:=by decide
 have c0:w.cell? ⟨7,15,none⟩=some (.int .u8 4):=htab;clear htab;go_in;go_wp2;go_ret;exact ⟨rfl,rfl⟩
theorem uw (w:World) (htab:T64 w):Calls Tryz.prog 180 #[.int .u64 16] w (fun e w'=>e=.returned (.int .i64 4)∧w'=w):=by
 go_in;go_wp2_with fail;(with_reducible refine (uu w htab).mono ?_);rintro e' w1 ⟨rfl,rfl⟩;go_wp2;go_ret;exact ⟨rfl,rfl⟩
theorem rf (w:World):Calls Tryz.prog 179 #[.int .i64 16] w (fun e w'=>e=.returned (.bool true)∧w'=w):=by
 have h1:bits .and .i64 16 15=0:=by decide
 go_in;go_wp2;go_ret;exact ⟨rfl,rfl⟩
def lI (D:List UInt8):Array Value:=(D.map fun c=>Value.int .u8 ((c.toNat:Nat):Int)).toArray
theorem kS {D:List UInt8}{i:Nat}{c:UInt8}(h:D[i]?=some c):(lI D)[i]?=some (.int .u8 ((c.toNat:Nat):Int)):=by unfold lI;simp [h]
theorem pI (D:List UInt8) (i:Nat) (c:UInt8):(lI D).setIfInBounds i (.int .u8 ((c.toNat:Nat):Int))=lI (D.set i c):=by unfold lI;simp [List.map_set]
theorem kU {D:List UInt8}{m:Nat}(h:m < D.length) (c:UInt8):(D.set m c).drop m=c :: D.drop (m+1):=by
 rw [List.drop_eq_getElem_cons (by simpa using h),List.getElem_set_self,List.drop_set_of_lt (Nat.lt_succ_self m)]
theorem nI (n:Nat) (h:n < 4294967296):IntKind.u64.wrap (n:Int)=(n:Int):=by simp [IntKind.wrap,IntKind.signed,IntKind.bits];omega
theorem sS (w:World) (n:Nat) (hn:n < 4294967296) (htab:T64 w):Calls Tryz.prog 140 #[.slice none 0 0,.int .u64 (n:Nat),.int .i64 16,.bool false,.bool false] w (fun e w'=>∃ k,k≤8∧n < 16 ^ k∧e=.returned (.tuple #[.slice none 0 0,ah (cN k n)])∧Below w.heap.size w w'):=by
 have HTab:=Qh htab;clear htab;go_in;have q0:Below w.heap.size w (w.alloc (.cells Tryz.zeroCells215 215)):=(ae w).alloc Qr _;have x0:Blk (w.alloc (.cells Tryz.zeroCells215 215)) w.heap.size 215 (lI (List.replicate 65 0)):=aj _ _ _ (by kernel_rfl);go_wp2_with fail;generalize (w.alloc (.cells Tryz.zeroCells215 215))=w0 at q0 x0 ⊢;(with_reducible refine (rf w0).mono ?_);rintro e' w1 ⟨rfl,rfl⟩;go_wp2_with fail;(with_reducible refine (uw w1 (HTab.out.belw q0)).mono ?_);rintro e' w2 ⟨rfl,rfl⟩;go_wp2_with fail;go_loopw [1,13] (fun uv iv wr=>∃ (k:Nat) (D:List UInt8),uv=.int .u64 ((n / 16 ^ k:Nat):Int)∧iv=.int .i64 ((65 - k:Nat):Int)∧k≤7∧D.length=65∧Hid (D.drop (65 - k)=cN k n)∧Blk wr w.heap.size 215 (lI D)∧Below w.heap.size w wr) (fun uv _ _=>(intOf uv).toNat)
 case atStart=>exact ⟨0,List.replicate 65 0,by simp,rfl,by omega,by simp,Qh (by simp [cN]),x0,q0⟩
 case round =>
  clear x0 q0;obtain ⟨k,D,rfl,rfl,hk,hD,HD,xD,hb⟩:=hrel;rename World=>wa;obtain ⟨U,hU⟩:∃ U,n / 16 ^ k=U:=⟨_,rfl⟩;obtain ⟨m,hm⟩:∃ m,64 - k=m:=⟨_,rfl⟩;have hUn:U≤n:=by rw [← hU];exact Nat.div_le_self _ _
  have hkm:((65 - k:Nat):Int)=(m:Int)+1:=by omega
  have hi1:IntKind.i64.wrap ((m:Int)+1 - 1)=(m:Int):=by rw [IntKind.wrap_i64];omega
  have hm65:m < 65:=by omega
  have hlw:w.heap.size < wa.heap.size:=xD.lt;obtain ⟨c0,hc0⟩:∃ c,D[m]?=some c:=⟨_,List.getElem?_eq_getElem (by omega)⟩;have cm:wa.cell? ⟨w.heap.size,m,none⟩=some (.int .u8 ((c0.toNat:Nat):Int)):=by rw [xD.cell m];exact kS hc0
  rw [hkm,hU];obtain ⟨d,hd⟩:∃ d,U % 16=d:=⟨_,rfl⟩;have hd16:d < 16:=by omega
  have hgt:=re d hd16;obtain ⟨x,hx⟩:∃ x,kQ d=x:=⟨_,rfl⟩;rw [hx] at hgt;have xD2:=xD.set_at m (.int .u8 ((x.toNat:Nat):Int)) _ (pI D m x)
  have hdr:(D.set m x).drop m=cN (k+1) n:=by
   rw [kU (by omega),show m+1=65 - k by omega,HD.out,eP,hU,hd,hx]
  have fm:wa.frozen? ⟨w.heap.size,m,none⟩=false:=xD.frozen m;have HX:=Qh xD2;have HR:=Qh hdr;have HU:=Qh hU;have HM:=Qh hm;clear hdr xD2 hc0 HD hx hU hm;by_cases h16:16≤U
  ·have f16:((16:Int)≤(U:Int))=True:=eq_true (by omega)
   have hba:=iI U (by omega);rw [hd] at hba;have hd36:(d:Int) < 36:=by omega
   have hk6:k+1≤7:=by
    rcases Nat.lt_or_ge 6 k with h | h
    ·have:k=7:=by omega
     subst this;have:=HU.out;omega
    omega
   go_wp2_with fail;go_roundw
   case rel=>exact ⟨k+1,D.set m x,by rw [← HU.out,Nat.pow_succ,← Nat.div_div_eq_div_mul];simp,by congr 1;have:=HM.out;omega,hk6,by simpa using hD,by rw [show 65 - (k+1)=m by have:=HM.out;omega];exact HR,HX.out,hb.setCell Qr _⟩
   case measure=>simp [intOf];omega
  have f16:((16:Int)≤(U:Int))=False:=eq_false (by omega);obtain rfl:U=d:=by omega
  have hm66:(m:Int)≤65:=by omega
  have hne:(65=m)=False:=eq_false (by omega);obtain ⟨E,hE⟩:∃ E,(D.set m x).drop m=E:=⟨_,rfl⟩;have hlE:E.length=65 - m:=by rw [← hE,List.length_drop,List.length_set,hD]
  have xE:=HX.out;have hEk:cN (k+1) n=E:=HR.out.symm.trans hE
  have hcv:=run_convert_bytes_back (P:=Tryz.prog) (wa.setCell ⟨w.heap.size,m,none⟩ (.int .u8 ((x.toNat:Nat):Int))) 47 9 5 ⟨w.heap.size,m,none⟩ (65 - m) E Tryz.underlying47 Tryz.underlying5 Tryz.underlying9 (fun j hj=>by
   rw [show (⟨w.heap.size,m,none⟩:Addr).add j=⟨w.heap.size,m+j,none⟩ by simp [Addr.add],xE.cell (m+j)];refine kS ?_;rw [← List.getElem?_drop,hE]
   exact List.getElem?_eq_getElem hj)
  rw [hlE] at hcv
  have hnk:n < 16 ^ (k+1):=by
   have h1:=HU.out;have h2:=(Nat.div_lt_iff_lt_mul (x:=n) (y:=16) (Nat.pow_pos (n:=k) (by decide:0 < 16))).1 (by omega);rw [Nat.pow_succ,Nat.mul_comm];exact h2
  have HK:=Qh (And.intro hEk hnk);clear hE hlE hEk hnk xE;go_wp2_with fail;go_ret2;exact ⟨k+1,by omega,HK.out.2,by rw [HK.out.1];rfl,hb.setCell Qr _⟩
theorem sT (w:World) (n:Nat) (hn:n < 4294967296) (htab:T64 w):Calls Tryz.prog 103 #[.int .u64 (n:Nat),.int .i64 16] w (fun e w'=>∃ k,k≤8∧n < 16 ^ k∧e=.returned (ah (cN k n))∧Below w.heap.size w w'):=by
 go_in;go_wp2_with fail;(with_reducible refine (sS w n hn htab).mono ?_);rintro e' w1 ⟨k,hk,hnk,rfl,hb⟩;go_wp2;go_ret;exact ⟨k,hk,hnk,rfl,hb⟩
theorem tU (w:World) (n:Nat) (hn:n < 4294967296) (htab:T64 w):Calls Tryz.prog 64 #[.int .u64 (n:Nat),.int .i64 16] w (fun e w'=>∃ k,k≤8∧n < 16 ^ k∧e=.returned (ah (cN k n))∧Below w.heap.size w w'):=by
 go_in;go_wp2_with fail;(with_reducible refine (sT w n hn htab).mono ?_);rintro e' w1 ⟨k,hk,hnk,rfl,hb⟩;go_wp2;go_ret;exact ⟨k,hk,hnk,rfl,hb⟩
theorem tV (w:World) (z:Int) (j:Nat) (hz:z=j) (hj:j < 1000000) (d:List UInt8) (hd:List.replicate j 48=d):Calls Tryz.prog 65 #[.string ⟨#[48]⟩,.int .i64 z] w (ax w (ah d)):=by
 have e9:∀ k,Lib.repeatL [48] k=List.replicate k 48:=fun k=>by
  induction k with
  | zero=>rfl
  | succ k ih=>rw [Lib.repeatL,ih,List.replicate_succ];rfl
 exact gJ w z j d hz hj ((e9 j).trans hd)
theorem tW (w:World) (n:Nat) (hn:n < 4294967296) (htab:T64 w):Calls Tryz.prog 30 #[.int .u32 (n:Nat)] w (ax w (ah (lH n))):=by
 have hw64:=nI n hn;go_in;go_wp2_with fail;(with_reducible refine (tU w n hn htab).mono ?_);rintro e' w1 ⟨k,hk,hnk,rfl,hb⟩;have hpad:=pG hnk hk;obtain ⟨X,hX⟩:∃ X,cN k n=X:=⟨_,rfl⟩;obtain ⟨Z,hZ⟩:∃ Z,List.replicate (8 - k) (48:UInt8)=Z:=⟨_,rfl⟩;have hlX:X.length=k:=by rw [← hX,fB]
 have hlZ:Z.length=8 - k:=by rw [← hZ,List.length_replicate]
 rw [hX,hZ] at hpad;rw [hX];have zX:=ag X;have zZ:=ag Z;have aZ:=fV Z X;rw [hpad] at aZ;have kZ:(9223372036854775807 < Z.length+X.length)=False:=eq_false (by omega);have hwk:IntKind.i64.wrap (8 - (X.length:Int))=((8 - k:Nat):Int):=by rw [IntKind.wrap_i64];omega
 have HZ:=Qh hZ;clear hX hpad hnk hZ;go_wp2_with fail;(with_reducible refine (tV w1 _ (8 - k) ?_ (by omega) Z HZ.out).mono ?_);(first | rfl | omega);rintro e' w2 ⟨rfl,hb2⟩;have hb3:=af hb hb2;go_wp2;go_ret;exact ⟨rfl,hb3⟩
def im (n:Nat):List UInt8:=[108,105,110,107,119,111,114,107,32,49,32] ++ Lib.itoa n ++ [10]
def kV (t:List UInt8):List UInt8:=Lib.itoa t.length ++ [32] ++ lH (ij t) ++ [10] ++ t
def pkL (L:ay):List UInt8:=kV (cH L)
def df (Ls:List ay):List UInt8:=im Ls.length ++ Ls.flatMap pkL
def cf:List ay→Int
  | []=>0
  | L :: r=>if aO L=0 then cf r else aO L
def cK (Ls:List ay):Int:=if 16 < Ls.length then 4 else if cf Ls≠0 then cf Ls else if 65536 < (df Ls).length then 4 else 0
def eR (Ls:List ay):List UInt8:=if cK Ls=0 then df Ls else []
theorem io:∀ (a b:List ay),cf (a ++ b)=if cf a=0 then cf b else cf a
 | [],b=>by simp [cf]
 | L :: r,b=>by
  rw [List.cons_append,cf,cf,io r b];by_cases h:aO L=0 <;> simp [h]
theorem pJ (L:ay):cf [L]=aO L:=by
 unfold cf;by_cases h:aO L=0
 ·rw [if_pos h,h];rfl
 rw [if_neg h]
theorem fS {Ls:List ay}{i:Nat}{L:ay}(h:Ls[i]?=some L) (h0:cf (Ls.take i)=0):cf (Ls.take (i+1))=aO L:=by
 rw [List.take_add_one,h,io,if_pos h0];exact pJ L
theorem fC {Ls:List ay}{i:Nat}{L:ay}(h:Ls[i]?=some L) (h0:cf (Ls.take i)=0) (hE:aO L≠0):cf Ls=aO L:=by
 have h1:=fS h h0
 conv=>lhs;rw [← List.take_append_drop (i+1) Ls]
 rw [io,h1,if_neg hE]
theorem eS {L:ay}(h:aO L=0):(cH L).length≤65536:=by
 unfold aO at h;split at h
 ·rename_i h0;exact absurd h h0
 split at h
 ·cases h
 rename_i h0;exact Nat.le_of_not_lt fun h=>h0 (.inr h)
theorem dS {n k:Nat}(h:n < 4294967296):(Lib.itoa (n:Int)).length≤11:=dF (z:=(n:Int)) (k:=1) (K:=1) (by simpa using h) (Nat.le_refl 1) (by decide)
theorem nJ {t:List UInt8}(h:t.length≤65536):(kV t).length≤65600:=by
 have h1:=dS (n:=t.length) (k:=0) (by omega);have h2:=ik (ij t);unfold kV;simp only [List.length_append,List.length_cons,List.length_nil];omega
theorem f7 {Ls:List ay}(h:16 < Ls.length):cK Ls=4∧eR Ls=[]:=by
 have h1:cK Ls=4:=if_pos h;exact ⟨h1,if_neg (by rw [h1];decide)⟩
theorem f9 {Ls:List ay}(h:¬ 16 < Ls.length) (he:cf Ls≠0):cK Ls=cf Ls∧eR Ls=[]:=by
 have h1:cK Ls=cf Ls:=by unfold cK;rw [if_neg h,if_pos he]
 exact ⟨h1,if_neg (by rw [h1];exact he)⟩
theorem ip {Ls:List ay}(h:¬ 16 < Ls.length) (he:cf Ls=0) (hl:65536 < (df Ls).length):cK Ls=4∧eR Ls=[]:=by
 have h1:cK Ls=4:=by unfold cK;rw [if_neg h,if_neg (by simpa using he),if_pos hl]
 exact ⟨h1,if_neg (by rw [h1];decide)⟩
theorem kW {Ls:List ay}(h:¬ 16 < Ls.length) (he:cf Ls=0) (hl:¬ 65536 < (df Ls).length):cK Ls=0∧eR Ls=df Ls:=by
 have h1:cK Ls=0:=by unfold cK;rw [if_neg h,if_neg (by simpa using he),if_neg hl]
 exact ⟨h1,if_pos h1⟩
theorem rg (w:World) (A:Option Addr) (n c:Nat) (B:Option Addr) (p d:Nat) (C:Option Addr) (q e:Nat) (nm:List UInt8) (j:bi) (L:ay) (k:Nat) (h:SlS (dd k) 2 w A n c L.bodies) (hk:k≤10000000) (hk1:0 < k) (hn:n≤1000) (x:Int) (hx:aN L j=x) :
 Calls Tryz.prog 113 #[.agg #[ah nm,.slice A n c,.slice B p d,.slice C q e],.agg #[ah j.name,.int .i64 j.kind,.int .i64 j.a,.int .i64 j.point,.int .i64 j.b,.int .i64 j.on,.int .i64 j.to_]] w (ax w (cS x)):=by
 by_cases h0:j.kind=0
 ·exact nF w A n c B p d C q e nm j L k h hk hk1 hn h0 x hx
 by_cases h1:j.kind=1
 ·exact nG w A n c B p d C q e nm j L k h hk hk1 hn h1 x hx
 subst hx;rw [show aN L j=7 from if_pos ⟨h0,h1⟩];exact nD w A n c B p d C q e nm j ⟨h0,h1⟩
theorem pK (w:World) (A:Option Addr) (n c:Nat) (B:Option Addr) (p d:Nat) (C:Option Addr) (q e:Nat) (L:ay) (k:Nat) (h:LkS k w A n c B p d C q e L) (hk:k≤10000000) (hk1:0 < k) (hn:n≤1000) (x:Int) (hx:(if 16 < L.joints.length then 4 else aU (aG L) [] L.joints)=x):Calls Tryz.prog 77 #[.agg #[ah L.name,.slice A n c,.slice B p d,.slice C q e]] w (ax w (cS x)):=by
 have hln:=h.joints.1;have hlb:=h.bodies.1;by_cases h8:16 < p
 ·have f8:((16:Int) < (p:Int))=True:=eq_true (by omega)
  have h4:x=4:=by rw [← hx,if_pos (by rw [hln];exact h8)]
  clear hln hlb;go_in;go_wp2;go_ret;exact ⟨by rw [h4];rfl,(ae w).alloc Qr _⟩
 have f8:((16:Int) < (p:Int))=False:=eq_false (by omega);have hbd:p≤16:=by omega
 rw [if_neg (by rw [hln];exact h8)] at hx;have hnc:=h.joints.2.1;have HX:=Qh (bI hx);have HLN:=Qh hln;have HLB:=Qh hlb;clear hx hln hlb h8;go_in;go_wp2_with fail;go_loopw [16] (fun iv wr=>∃ i:Nat,iv=.int .i64 (i:Nat)∧i≤p∧Hid (aU (aG L) (L.joints.take i) (L.joints.drop i)=x)∧Blk wr w.heap.size 36 #[ah L.name,.slice A n c,.slice B p d,.slice C q e]∧Below w.heap.size w wr) (fun iv _=>p - (intOf iv).toNat)
 case atStart=>exact ⟨0,rfl,Nat.zero_le _,HX,aj _ _ _ (by simp),(ae w).alloc Qr _⟩
 case round =>
  clear HX;obtain ⟨i,rfl,hi,HX,xL,hb⟩:=hrel;rename World=>wa;rcases Nat.lt_or_ge i p with hlt | hge
  ·have hi1:((i:Int) < (p:Int))=True:=by simp;omega
   have hL:=h.belw hb;obtain ⟨g,o,b,e1,hg,_,hbi,hB⟩:=hL.joints.at_ hlt;subst e1;have hstep:=bT HX.out hbi;obtain ⟨c0,c1,c2,c3,c4,c5,c6,hnm⟩:=hB;have HL:=Qh hL;have HS:=Qh hstep;have HN:=Qh hnm;obtain ⟨v,hv⟩:∃ v,aW b.name=v:=⟨_,rfl⟩;have HV:=Qh hv;have hlL:w.heap.size < wa.heap.size:=xL.lt;clear h hL hstep hnm hbi hv HX;go_wp2_with fail;(with_reducible refine (g5 _ b.name HN.out v HV.out).mono ?_);rintro e' w1 ⟨rfl,hb1⟩;have q1:=hb1.q1;have x1:Blk w1 wa.heap.size 79 #[ah b.name,.int .i64 b.kind,.int .i64 b.a,.int .i64 b.point,.int .i64 b.b,.int .i64 b.on,.int .i64 b.to_]:=(aj _ _ _ (by simp)).below hb1 (by simp);have xL1:=xL.below q1 xL.lt;have bw1:=hb.trans (q1.mono hb.size);clear hb1 c0 c1 c2 c3 c4 c5 c6
   have hxz:∀ z:Int,z≠0→(aG L) (L.joints.take i) b=z→x=z:=fun z hz hm=>by
    rcases HS.out with ⟨u,_⟩ | ⟨_,u⟩
    ·exact absurd (hm.symm.trans u) hz
    exact u.symm.trans hm
   cases v
   ·have h5:x=5:=hxz 5 (by decide) (if_pos HV.out)
    clear hxz;go_wp2;go_ret;exact ⟨by rw [h5];rfl,bw1⟩
   have HXZ:=Qh hxz;clear hxz;have cL:=xL1.cell 2;go_wp2_with fail;clear cL;go_loopw [31] (fun jv wr=>∃ j:Nat,jv=.int .i64 (j:Nat)∧j≤i∧Hid (twN ((L.joints.take j).map bi.name) b.name=false)∧Below w1.heap.size w1 wr) (fun jv _=>i - (intOf jv).toNat)
   case atStart=>exact ⟨0,rfl,Nat.zero_le _,Qh rfl,ae w1⟩
   case round =>
    obtain ⟨j,rfl,hj,HT,hb2⟩:=hrel;rename World=>w2;have x2:=x1.below hb2 x1.lt;have xL2:=xL1.below hb2 xL1.lt;have bw2:=bw1.trans (hb2.mono bw1.size);have cB0:=x2.cell 0;have hlw:wa.heap.size < w2.heap.size:=x2.lt;have hlL2:w.heap.size < w2.heap.size:=xL2.lt;rcases Nat.lt_or_ge j i with hjl | hjg
    ·have hj1:((j:Int) < (i:Int))=True:=by simp;omega
     have hjn:j < p:=by omega
     obtain ⟨a,ha,hA⟩:=((HL.out.joints.jt q1).jt hb2).rowAt hjn;obtain ⟨d0,d1,d2,d3,d4,d5,d6,hn2⟩:=hA;have hgw:g < w2.heap.size:=by have:=hb2.size;have:=q1.size;omega
     clear hn2;have hne1:¬ wa.heap.size=w2.heap.size:=by omega
     have hne2:¬ g=w2.heap.size:=by omega
     have htl:=be b.name;by_cases heq:a.name=b.name
     ·have h6:x=6:=HXZ.out 6 (by decide) (by
       show aG L (L.joints.take i) b=6;unfold aG
       rw [HV.out,if_neg (by decide),if_pos (cZ ha hjl heq)])
      rw [heq] at d0;have hee:(b.name == b.name)=true:=by simp
      clear heq ha;go_wp2;go_ret;exact ⟨by rw [h6];rfl,bw2.alloc bw2.size _⟩
     have hta:=be a.name;have HT2:=Qh (cF ha HT.out heq);have hee:(a.name == b.name)=false:=beq_eq_false_iff_ne.2 heq;clear heq ha HT;go_wp2_with fail;go_roundw
     case rel=>exact ⟨j+1,by go_num,by omega,HT2,hb2.alloc hb2.size _⟩
     case measure=>simp [intOf];omega
    have hj1:((j:Int) < (i:Int))=False:=by simp;omega
    obtain rfl:j=i:=by omega
    clear cB0;have cL0:=xL2.cell 0;have cL1:=xL2.cell 1;have cL2:=xL2.cell 2;have cL3:=xL2.cell 3;have z0:=x2.cell 0;have z1:=x2.cell 1;have z2:=x2.cell 2;have z3:=x2.cell 3;have z4:=x2.cell 4;have z5:=x2.cell 5;have z6:=x2.cell 6;obtain ⟨y,hy⟩:∃ y,aN L b=y:=⟨_,rfl⟩
    have HE:Hid (aG L (L.joints.take j) b=y):=Qh (by
     unfold aG
     rw [HV.out,if_neg (by decide),HT.out,if_neg (by decide)];exact hy)
    have HY:=Qh hy;clear hy;go_wp2_with fail;(with_reducible refine (rg _ A n c _ p d C q e L.name b L k ((HL.out.bodies.bd q1).bd hb2) hk hk1 hn y HY.out).mono ?_);rintro e' w3 ⟨rfl,hb3⟩;have bw3:=bw2.trans (hb3.mono bw2.size);have xL3:=xL2.below hb3 xL2.lt;clear cL0 cL1 cL2 cL3 z0 z1 z2 z3 z4 z5 z6;by_cases hy0:y=0
    ·have HX2:Hid (aU (aG L) (L.joints.take (j+1)) (L.joints.drop (j+1))=x):=Qh (by
      rcases HS.out with ⟨_,u⟩ | ⟨u,_⟩
      ·exact u
      exact absurd (HE.out.trans hy0) u)
     subst hy0;rw [show cS 0=.nilIface from if_pos rfl];go_wp2_with fail;go_roundw
     case rel=>exact ⟨j+1,by go_num,by omega,HX2,xL3,bw3⟩
     case measure=>simp [intOf];omega
    have hxy:x=y:=HXZ.out y hy0 HE.out;rw [show cS y=.iface 49 (.int .i64 y) from if_neg hy0];go_wp2;go_ret;exact ⟨by rw [hxy,show cS y=.iface 49 (.int .i64 y) from if_neg hy0];rfl,bw3⟩
  have hi1:((i:Int) < (p:Int))=False:=by simp;omega
  have hx0:x=0:=cE HX.out (by rw [HLN.out];exact hge);go_wp2;go_ret;exact ⟨by rw [hx0];rfl,hb⟩
theorem nK (w:World) (A:Option Addr) (n c:Nat) (B:Option Addr) (p d:Nat) (C:Option Addr) (q e:Nat) (L:ay) (k:Nat) (h:LkS k w A n c B p d C q e L) (hk:k≤10000000) (hk1:0 < k) (hn:n≤1000) (x:Int) (hx:(if 2 < L.drivers.length then 4 else aU (ar n) [] L.drivers)=x):Calls Tryz.prog 78 #[.agg #[ah L.name,.slice A n c,.slice B p d,.slice C q e]] w (ax w (cS x)):=by
 have hln:=h.drivers.1;have hlb:=h.bodies.1;by_cases h8:2 < q
 ·have f8:((2:Int) < (q:Int))=True:=eq_true (by omega)
  have h4:x=4:=by rw [← hx,if_pos (by rw [hln];exact h8)]
  clear hln hlb;go_in;go_wp2;go_ret;exact ⟨by rw [h4];rfl,(ae w).alloc Qr _⟩
 have f8:((2:Int) < (q:Int))=False:=eq_false (by omega);have hbd:q≤2:=by omega
 rw [if_neg (by rw [hln];exact h8)] at hx;have hnc:=h.drivers.2.1;have HX:=Qh (bI hx);have HLN:=Qh hln;have HLB:=Qh hlb;clear hx hln hlb h8;go_in;go_wp2_with fail;go_loopw [17] (fun iv wr=>∃ i:Nat,iv=.int .i64 (i:Nat)∧i≤q∧Hid (aU (ar n) (L.drivers.take i) (L.drivers.drop i)=x)∧Blk wr w.heap.size 36 #[ah L.name,.slice A n c,.slice B p d,.slice C q e]∧Below w.heap.size w wr) (fun iv _=>q - (intOf iv).toNat)
 case atStart=>exact ⟨0,rfl,Nat.zero_le _,HX,aj _ _ _ (by simp),(ae w).alloc Qr _⟩
 case round =>
  clear HX;obtain ⟨i,rfl,hi,HX,xL,hb⟩:=hrel;rename World=>wa;rcases Nat.lt_or_ge i q with hlt | hge
  ·have hi1:((i:Int) < (q:Int))=True:=by simp;omega
   have hL:=h.belw hb;obtain ⟨g,o,b,e1,hg,_,hbi,hB⟩:=hL.drivers.at_ hlt;subst e1;have hstep:=bT HX.out hbi;obtain ⟨c0,c1,hnm⟩:=hB;have HL:=Qh hL;have HS:=Qh hstep;have HN:=Qh hnm;obtain ⟨v,hv⟩:∃ v,aW b.name=v:=⟨_,rfl⟩;have HV:=Qh hv;have hlL:w.heap.size < wa.heap.size:=xL.lt;clear h hL hstep hnm hbi hv HX;go_wp2_with fail;(with_reducible refine (g5 _ b.name HN.out v HV.out).mono ?_);rintro e' w1 ⟨rfl,hb1⟩;have q1:=hb1.q1;have x1:Blk w1 wa.heap.size 81 #[ah b.name,.int .i64 b.body]:=(aj _ _ _ (by simp)).below hb1 (by simp);have xL1:=xL.below q1 xL.lt;have bw1:=hb.trans (q1.mono hb.size);clear hb1 c0 c1
   have hxz:∀ z:Int,z≠0→(ar n) (L.drivers.take i) b=z→x=z:=fun z hz hm=>by
    rcases HS.out with ⟨u,_⟩ | ⟨_,u⟩
    ·exact absurd (hm.symm.trans u) hz
    exact u.symm.trans hm
   cases v
   ·have h5:x=5:=hxz 5 (by decide) (if_pos HV.out)
    clear hxz;go_wp2;go_ret;exact ⟨by rw [h5];rfl,bw1⟩
   have HXZ:=Qh hxz;clear hxz;have cL:=xL1.cell 3;go_wp2_with fail;clear cL;go_loopw [32] (fun jv wr=>∃ j:Nat,jv=.int .i64 (j:Nat)∧j≤i∧Hid (twN ((L.drivers.take j).map bq.name) b.name=false)∧Below w1.heap.size w1 wr) (fun jv _=>i - (intOf jv).toNat)
   case atStart=>exact ⟨0,rfl,Nat.zero_le _,Qh rfl,ae w1⟩
   case round =>
    obtain ⟨j,rfl,hj,HT,hb2⟩:=hrel;rename World=>w2;have x2:=x1.below hb2 x1.lt;have xL2:=xL1.below hb2 xL1.lt;have bw2:=bw1.trans (hb2.mono bw1.size);have cB0:=x2.cell 0;have hlw:wa.heap.size < w2.heap.size:=x2.lt;have hlL2:w.heap.size < w2.heap.size:=xL2.lt;rcases Nat.lt_or_ge j i with hjl | hjg
    ·have hj1:((j:Int) < (i:Int))=True:=by simp;omega
     have hjn:j < q:=by omega
     obtain ⟨a,ha,hA⟩:=((HL.out.drivers.dr q1).dr hb2).rowAt hjn;obtain ⟨d0,d1,hn2⟩:=hA;have hgw:g < w2.heap.size:=by have:=hb2.size;have:=q1.size;omega
     clear hn2;have hne1:¬ wa.heap.size=w2.heap.size:=by omega
     have hne2:¬ g=w2.heap.size:=by omega
     have htl:=be b.name;by_cases heq:a.name=b.name
     ·have h6:x=6:=HXZ.out 6 (by decide) (by
       show ar n (L.drivers.take i) b=6;unfold ar
       rw [HV.out,if_neg (by decide),if_pos (cZ ha hjl heq)])
      rw [heq] at d0;have hee:(b.name == b.name)=true:=by simp
      clear heq ha;go_wp2;go_ret;exact ⟨by rw [h6];rfl,bw2.alloc bw2.size _⟩
     have hta:=be a.name;have HT2:=Qh (cF ha HT.out heq);have hee:(a.name == b.name)=false:=beq_eq_false_iff_ne.2 heq;clear heq ha HT;go_wp2_with fail;go_roundw
     case rel=>exact ⟨j+1,by go_num,by omega,HT2,hb2.alloc hb2.size _⟩
     case measure=>simp [intOf];omega
    have hj1:((j:Int) < (i:Int))=False:=by simp;omega
    obtain rfl:j=i:=by omega
    clear cB0;have cL1:=xL2.cell 1;have z1:=x2.cell 1;obtain ⟨v1,hv1⟩:∃ v,inI b.body n=v:=⟨_,rfl⟩;have HV1:=Qh hv1;have HT9:=HT;clear hv1;go_wp2_with fail;(with_reducible refine (nC _ b.body n v1 HV1.out).mono ?_);rintro e' w3 ⟨rfl,hb3⟩;have bw3:=bw2.trans (hb3.mono bw2.size);have xL3:=xL2.below hb3 xL2.lt;have x3:=x2.below hb3 x2.lt;clear cL1 z1;cases v1
    ·have h9:x=9:=HXZ.out 9 (by decide) (by
      show ar n (L.drivers.take j) b=9;unfold ar
      rw [HV.out,if_neg (by decide),HT9.out,if_neg (by decide),if_pos HV1.out])
     go_wp2;go_ret;exact ⟨by rw [h9];rfl,bw3⟩
    have z1:=x3.cell 1;have cL3:=xL3.cell 3;have hl3:wa.heap.size < w3.heap.size:=x3.lt;by_cases hb0:b.body=0
    ·have e0:(b.body == 0)=true:=beq_iff_eq.2 hb0
     have h7:x=7:=HXZ.out 7 (by decide) (by
      show ar n (L.drivers.take j) b=7;unfold ar
      rw [HV.out,if_neg (by decide),HT9.out,if_neg (by decide),HV1.out,if_neg (by decide),if_pos hb0])
     clear hb0;go_wp2;go_ret;exact ⟨by rw [h7];rfl,bw3⟩
    have e0:(b.body == 0)=false:=beq_eq_false_iff_ne.2 hb0;have HB0:=Qh hb0;clear hb0;go_wp2_with fail;clear z1 cL3;go_loopw [60] (fun jv wr=>∃ r:Nat,jv=.int .i64 (r:Nat)∧r≤j∧Hid (((L.drivers.take r).any fun p=>p.body == b.body)=false)∧Below w3.heap.size w3 wr) (fun jv _=>j - (intOf jv).toNat)
    case atStart=>exact ⟨0,rfl,Nat.zero_le _,Qh rfl,ae w3⟩
    case round =>
     obtain ⟨r,rfl,hr,HR,hb4⟩:=hrel;rename World=>w4;have x4:=x3.below hb4 x3.lt;have xL4:=xL3.below hb4 xL3.lt;have bw4:=bw3.trans (hb4.mono bw3.size);have z1:=x4.cell 1;have hl4:wa.heap.size < w4.heap.size:=x4.lt;rcases Nat.lt_or_ge r j with hrl | hrg
     ·have hr1:((r:Int) < (j:Int))=True:=by simp;omega
      have hrn:r < q:=by omega
      obtain ⟨a,ha,hA⟩:=((((HL.out.drivers.dr q1).dr hb2).dr hb3).dr hb4).rowAt hrn;obtain ⟨d0,d1,hn2⟩:=hA;have hgw:g < w4.heap.size:=by have:=hb4.size;have:=hb3.size;have:=hb2.size;have:=q1.size;omega
      clear hn2;have hne1:¬ wa.heap.size=w4.heap.size:=by omega
      have hne2:¬ g=w4.heap.size:=by omega
      have ht4:L.drivers.take (r+1)=L.drivers.take r ++ [a]:=by rw [List.take_add_one,ha];rfl
      by_cases heq:a.body=b.body
      ·have h6:x=6:=HXZ.out 6 (by decide) (by
        show ar n (L.drivers.take j) b=6;unfold ar;rw [HV.out,if_neg (by decide),HT9.out,if_neg (by decide),HV1.out,if_neg (by decide),if_neg HB0.out,if_pos];rw [List.any_eq_true]
        exact ⟨a,List.mem_of_getElem? (i:=r) (by rw [List.getElem?_take,if_pos hrl];exact ha),by simpa using heq⟩)
       have hee:(a.body == b.body)=true:=beq_iff_eq.2 heq;clear heq ha ht4;go_wp2;go_ret;exact ⟨by rw [h6];rfl,bw4.alloc bw4.size _⟩
      ·have HR2:Hid (((L.drivers.take (r+1)).any fun p=>p.body == b.body)=false):=Qh (by
        rw [ht4,List.any_append,HR.out]
        simpa using heq)
       have hee:(a.body == b.body)=false:=beq_eq_false_iff_ne.2 heq;clear heq ha ht4 HR;go_wp2_with fail;go_roundw
       case rel=>exact ⟨r+1,by go_num,by omega,HR2,hb4.alloc hb4.size _⟩
       case measure=>simp [intOf];omega
     have hr1:((r:Int) < (j:Int))=False:=by simp;omega
     obtain rfl:r=j:=by omega
     have h0:ar n (L.drivers.take r) b=0:=by
      unfold ar;rw [HV.out,if_neg (by decide),HT9.out,if_neg (by decide),HV1.out,if_neg (by decide),if_neg HB0.out,HR.out];rfl
     have HX2:Hid (aU (ar n) (L.drivers.take (r+1)) (L.drivers.drop (r+1))=x):=Qh (by
      rcases HS.out with ⟨_,u⟩ | ⟨u,_⟩
      ·exact u
      exact absurd h0 u)
     clear h0 z1;go_wp2_with fail;go_roundw
     case rel=>exact ⟨r+1,by go_num,by omega,HX2,xL4,bw4⟩
     case measure=>simp [intOf];omega
  have hi1:((i:Int) < (q:Int))=False:=by simp;omega
  have hx0:x=0:=cE HX.out (by rw [HLN.out];exact hge);go_wp2;go_ret;exact ⟨by rw [hx0];rfl,hb⟩
theorem eVp {x:Int}(h:x≠0):cS x=.iface 49 (.int .i64 x):=if_neg h
theorem eV0:cS 0=.nilIface:=if_pos rfl
theorem mj (w:World) (A:Option Addr) (n c:Nat) (B:Option Addr) (p d:Nat) (C:Option Addr) (q e:Nat) (L:ay) (k:Nat) (h:LkS k w A n c B p d C q e L) (hk:k≤10000000) (hk1:0 < k) (x:Int) (hx:bN L=x) :
 Calls Tryz.prog 42 #[.agg #[ah L.name,.slice A n c,.slice B p d,.slice C q e]] w (ax w (cS x)):=by
 have hln:=h.bodies.1;obtain ⟨v,hv⟩:∃ v,aW L.name=v:=⟨_,rfl⟩;have HV:=Qh hv;have HX:=Qh hx;have HL:=Qh hln;have H:=Qh h;clear hv hx hln h;go_in;go_wp2_with fail;(with_reducible refine (g5 _ L.name H.out.name v HV.out).mono ?_);rintro e' w1 ⟨rfl,hb1⟩;have q1:=hb1.q1;have x1:Blk w1 w.heap.size 36 #[ah L.name,.slice A n c,.slice B p d,.slice C q e]:=(aj _ _ _ (by simp)).below hb1 (by simp);clear hb1;cases v
 ·have h5:x=5:=by rw [← HX.out];unfold bN;rw [if_pos HV.out]
  go_wp2;go_ret;exact ⟨by rw [h5];rfl,q1⟩
 have hX1:x=if n=0 then 10 else if 8 < n then 4 else if aU aK [] L.bodies≠0 then aU aK [] L.bodies
  else if 16 < L.joints.length then 4 else if aU (aG L) [] L.joints≠0 then aU (aG L) [] L.joints
  else if 2 < L.drivers.length then 4 else aU (ar n) [] L.drivers:=by
  rw [← HX.out];unfold bN;rw [if_neg (by rw [HV.out];decide),HL.out]
 obtain ⟨y1,hy1⟩:∃ y,aU aK [] L.bodies=y:=⟨_,rfl⟩;obtain ⟨y2,hy2⟩:∃ y,(if 16 < L.joints.length then (4:Int) else aU (aG L) [] L.joints)=y:=⟨_,rfl⟩;obtain ⟨y3,hy3⟩:∃ y,(if 2 < L.drivers.length then (4:Int) else aU (ar n) [] L.drivers)=y:=⟨_,rfl⟩
 have hX2:x=if n=0 then 10 else if 8 < n then 4 else if y1≠0 then y1 else if y2≠0 then y2 else y3:=by
  rw [hX1,hy1,← hy2,← hy3];by_cases a:16 < L.joints.length
  ·simp [a]
  simp [a]
 have HX2:=Qh hX2;have HY1:=Qh hy1;have HY2:=Qh hy2;have HY3:=Qh hy3;clear hX1 hX2 hy1 hy2 hy3;have cx1:=x1.cell 1;by_cases h0:n=0
 ·have e0:((n:Int) == 0)=true:=beq_iff_eq.2 (by omega)
  have e00:((n:Int)=0)=True:=eq_true (by omega);have h10:x=10:=by rw [HX2.out,if_pos h0]
  clear h0;go_wp2;go_ret;exact ⟨by rw [h10];rfl,q1⟩
 have e0:((n:Int) == 0)=false:=beq_eq_false_iff_ne.2 (by omega);have e00:((n:Int)=0)=False:=eq_false (by omega);by_cases h8:8 < n
 ·have e8:((8:Int) < (n:Int))=True:=eq_true (by omega)
  have h4:x=4:=by rw [HX2.out,if_neg h0,if_pos h8]
  go_wp2;go_ret;exact ⟨by rw [h4];rfl,q1⟩
 have e8:((8:Int) < (n:Int))=False:=eq_false (by omega);have hX3:x=if y1≠0 then y1 else if y2≠0 then y2 else y3:=by rw [HX2.out,if_neg h0,if_neg h8]
 have HX3:=Qh hX3;clear hX3 h0;go_wp2_with fail;(with_reducible refine (pE _ A n c L.bodies k (H.out.bodies.bd q1) (by omega) (by omega) y1 HY1.out).mono ?_);rintro e' w2 ⟨rfl,hb2⟩;have q2:=q1.trans (hb2.mono q1.size);have x2:=x1.below hb2 x1.lt;clear cx1;by_cases h1:y1=0
 case neg =>
  have hxy:x=y1:=by rw [HX3.out,if_pos h1]
  rw [eVp h1];go_wp2;go_ret;exact ⟨by rw [hxy,eVp h1];rfl,q2⟩
 have hX4:x=if y2≠0 then y2 else y3:=by rw [HX3.out,if_neg (by simp [h1])]
 have HX4:=Qh hX4;clear hX4;subst h1;rw [eV0];have cx0:=x2.cell 0;have cx1:=x2.cell 1;have cx2:=x2.cell 2;have cx3:=x2.cell 3;go_wp2_with fail;(with_reducible refine (pK _ A n c B p d C q e L k (H.out.belw q2) hk hk1 (by omega) y2 HY2.out).mono ?_);rintro e' w3 ⟨rfl,hb3⟩;have q3:=q2.trans (hb3.mono q2.size);have x3:=x2.below hb3 x2.lt;clear cx0 cx1 cx2 cx3;by_cases h2:y2=0
 case neg =>
  have hxy:x=y2:=by rw [HX4.out,if_pos h2]
  rw [eVp h2];go_wp2;go_ret;exact ⟨by rw [hxy,eVp h2];rfl,q3⟩
 have hX5:x=y3:=by rw [HX4.out,if_neg (by simp [h2])]
 subst hX5;subst h2;rw [eV0];have cx0:=x3.cell 0;have cx1:=x3.cell 1;have cx2:=x3.cell 2;have cx3:=x3.cell 3;go_wp2_with fail;(with_reducible refine (nK _ A n c B p d C q e L k (H.out.belw q3) hk hk1 (by omega) x HY3.out).mono ?_);rintro e' w4 ⟨rfl,hb4⟩;have q4:=q3.trans (hb4.mono q3.size);clear cx0 cx1 cx2 cx3;go_wp2;go_ret;exact ⟨rfl,q4⟩
def dB (l:List (List UInt8)):List Value:=l.map ah
theorem tX (l:List UInt8):(⟨l.toArray⟩:ByteArray).data.toList=l:=by simp
theorem kX (w:World) (g cap n:Nat) (L:List (List UInt8)) (hL:L.length=n) (hcells:∀ (j:Nat) x,L[j]?=some x→w.cell? ⟨g,j,none⟩=some (ah x)) (hg:g < w.heap.size) (hN:n≤140737488355328) (hcap:n≤cap) (hlen:(dG L).length≤140737488355328) :
 Calls Tryz.prog 62 #[.slice (some ⟨g,0,none⟩) n cap,.string ⟨#[32]⟩] w (ax w (ah (dG L))):=by
 subst hL
 have e:(L.map fun x=>(⟨x.toArray⟩:ByteArray)).map (·.data.toList)=L:=by
  rw [List.map_map]
  conv=>rhs;rw [← List.map_id L]
  exact List.map_congr_left fun x _=>tX x
 have h:=Tryz.strings_Join g 0 cap (L.map fun x=>⟨x.toArray⟩) ⟨#[32]⟩ w (fun j x hx=>by
  rw [List.getElem?_map,Option.map_eq_some_iff] at hx;obtain ⟨y,hy,rfl⟩:=hx;rw [Nat.zero_add]
  exact hcells j y hy) hg (by rw [List.length_map];exact hN) (by rw [List.length_map];exact hcap) (by rw [e];show (Lib.join L [32]).length≤_;rw [kH];exact hlen)
 rw [List.length_map,e] at h;refine h.mono fun e' w' ⟨he,hb⟩=>⟨?_,hb⟩
 rw [he];show Ending.returned (.string ⟨(Lib.join L [32]).toArray⟩)=_;rw [kH]
theorem ce.nm {b:aA}(h:ce b):b.name.length≤1000:=by have:=h.1;omega
theorem ce.mks {b:aA}(h:ce b):∀ m∈b.pts,m.name.length≤1000:=fun m hm=>by have:=(h.2.2 m hm).1;omega
theorem ce.np {b:aA}(h:ce b):b.pts.length≤8:=h.2.1
theorem Sees.al {w0 w:World}(h:Below w0.heap.size w0 w) (o:Obj):Sees w0.heap.size w0 (w.alloc o):=Sees.of Qr (h.alloc h.size o)
theorem Blk.strs {w:World}{g t:Nat}{l:List (List UInt8)}(h:Blk w g t (dB l).toArray) (k:Nat) (x:List UInt8) (hx:l[k]?=some x):w.cell? ⟨g,k,none⟩=some (ah x):=by
 rw [h.cell k,List.getElem?_toArray];unfold dB;rw [List.getElem?_map,hx];rfl
theorem Blk.owns {w:World}{base g t n:Nat}{l:List (List UInt8)}(h:Blk w g t (dB l).toArray) (hb:base≤g) (hl:l.length=n) (hn:n≤1000):w.ownsRow base t 1 (.slice (some ⟨g,0,none⟩) n n) n (dB l):=by
 subst hl;exact ⟨by simp [dB],.inr ⟨g,_,_,rfl,hb,h,Qr,by unfold maxLen;omega,by simp [dB],by rw [List.take_of_length_le (by simp [dB])]⟩⟩
theorem nL {w:World}{base t n g cap:Nat}{l:List (List UInt8)}(h:w.ownsRow base t 1 (.slice (some ⟨g,0,none⟩) n cap) n (dB l)):n≤cap∧∀ (k:Nat) x,l[k]?=some x→w.cell? ⟨g,k,none⟩=some (ah x):=by
 rcases h.2 with ⟨h1,_⟩ | ⟨g',cap',cur,h1,_,h3,h4,_,_,h7⟩
 ·cases h1
 injection h1 with h1 _ h1';injection h1 with h1;injection h1 with h1;subst h1 h1';refine ⟨h4,fun k x hx=>?_⟩;rw [cell_of_row w g k cur _ (0,0) h3];have h9:(dB l)[k]?=some (ah x):=by unfold dB;rw [List.getElem?_map,hx];rfl
 rw [← h7,List.getElem?_take] at h9;split at h9
 ·simpa using h9
 cases h9
abbrev SD (g g1 g2 o2:Nat) (a0 a1 a2 a3:Value) (w:World):Prop:=w.cell? ⟨g,0,none⟩=some a0∧w.cell? ⟨g,1,none⟩=some a1∧w.cell? ⟨g1,1,none⟩=some a2∧w.cell? ⟨g2,o2,none⟩=some a3
theorem SlS.bodyShort {w:World}{A:Option Addr}{n c:Nat}{l:List aA}(h:SlS (dd 40) 2 w A n c l) (ho:∀ b∈l,ce b):∀ b∈l,∀ m∈b.pts,ek m:=by
 intro b hb;obtain ⟨i,hi,e⟩:=List.getElem_of_mem hb;obtain ⟨g,o,a,_,_,_,ha,hp⟩:=h.at_ (i:=i) (by rw [← h.1];exact hi);rw [List.getElem?_eq_getElem hi] at ha;injection ha with ha;rw [← ha,e] at hp;obtain ⟨A',n',c',_,_,hM,_⟩:=hp;exact hM.short fun m hm=>by have:=((ho b hb).2.2 m hm).1;omega
theorem SlS.lineLen {w:World}{A:Option Addr}{n c:Nat}{l:List aA}(h:SlS (dd 40) 2 w A n c l) (ho:∀ b∈l,ce b):∀ b∈l,(aL b).length≤30000:=fun b hb=>jV (ho b hb).1 (ho b hb).2.1 (h.bodyShort ho b hb)
theorem pL (w:World) (A:Option Addr) (n c:Nat) (B:Option Addr) (p d:Nat) (C:Option Addr) (q e:Nat) (L:ay) (h:LkS 40 w A n c B p d C q e L) (he:bN L≠0):Calls Tryz.prog 29 #[.agg #[ah L.name,.slice A n c,.slice B p d,.slice C q e]] w (fun e' w'=>e'=.returned (.tuple #[ah [],cS (bN L)])∧Below w.heap.size w w'):=by
 obtain ⟨x,hx⟩:∃ x,bN L=x:=⟨_,rfl⟩;rw [hx] at he ⊢;have HX:=Qh hx;have H:=Qh h;have hev:cS x=.iface 49 (.int .i64 x):=if_neg he;rw [hev];have HE:=Qh hev;clear h hx hev;go_in;go_wp2_with fail;have q0:Below w.heap.size w (w.alloc (.cells #[ah L.name,.slice A n c,.slice B p d,.slice C q e] 36)):=(ae w).alloc Qr _;(with_reducible refine (mj _ A n c B p d C q e L 40 (H.out.belw q0) (by decide) (by decide) x HX.out).mono ?_);rintro e' w1 ⟨rfl,hb1⟩;rw [HE.out];have q1:=q0.trans (hb1.mono q0.size);clear hb1;go_wp2_with fail;go_ret2;exact ⟨rfl,q1⟩
theorem rh (w:World) (A:Option Addr) (n c:Nat) (B:Option Addr) (p d:Nat) (C:Option Addr) (q e:Nat) (L:ay) (h:LkS 40 w A n c B p d C q e L) (htab:Tab w) (hc:bN L=0):Calls Tryz.prog 29 #[.agg #[ah L.name,.slice A n c,.slice B p d,.slice C q e]] w (fun e' w'=>e'=.returned (.tuple #[ah (aY L),cS (aO L)])∧Below w.heap.size w w'):=by
 have hk:=kN hc;have hln:=h.bodies.1;have hlj:=h.joints.1;have hld:=h.drivers.1;have hnb:=hk.nb;have hnj:=hk.nj;have hnd:=hk.nd;have hb0:=hk.b0;have hnc:=h.bodies.2.1;have hpc:=h.joints.2.1;have hqc:=h.drivers.2.1;have hnm:L.name.length≤24:=hk.name;have hsn:=ag L.name;rw [hln] at hnb hb0;rw [hlj] at hnj;rw [hld] at hnd;have hfb:=bR aL 30000 L.bodies (h.bodies.lineLen hk.body);have hfj:=bR (am L.bodies) 200 L.joints fun j hj=>de hk.body (hk.joint j hj).1
 have hfd:=bR (az L.bodies) 60 L.drivers fun d hd=>dR hk.body (hk.driver d hd).1
 rw [hln] at hfb;rw [hlj] at hfj;rw [hld] at hfd;obtain ⟨h1,eh1⟩:∃ t,[108,105,110,107,97,103,101,32] ++ L.name=t:=⟨_,rfl⟩;have ah1:=av ([108,105,110,107,97,103,101,32]) (L.name);rw [eh1] at ah1;have lh1:h1.length=8+L.name.length:=by rw [← eh1,List.length_append];try simp
 have kh1:(9223372036854775807 < 8+L.name.length)=False:=eq_false (by omega);have zh1:=ag h1;obtain ⟨h2,eh2⟩:∃ t,h1 ++ [59,10]=t:=⟨_,rfl⟩;have ah2:=av (h1) ([59,10]);rw [eh2] at ah2;have lh2:h2.length=h1.length+2:=by rw [← eh2,List.length_append];try simp
 have kh2:(9223372036854775807 < h1.length+2)=False:=eq_false (by omega);have zh2:=ag h2;have hl2:h2.length≤34:=by omega
 obtain ⟨S1,hS1⟩:∃ S,h2 ++ L.bodies.flatMap aL=S:=⟨_,rfl⟩;obtain ⟨S2,hS2⟩:∃ S,S1 ++ L.joints.flatMap (am L.bodies)=S:=⟨_,rfl⟩;obtain ⟨S3,hS3⟩:∃ S,S2 ++ L.drivers.flatMap (az L.bodies)=S:=⟨_,rfl⟩;have hlS1:S1.length≤34+30000 * n:=by rw [← hS1,List.length_append];omega
 have hlS2:S2.length≤34+30000 * n+200 * p:=by rw [← hS2,List.length_append];omega
 have hlS3:S3.length≤34+30000 * n+200 * p+60 * q:=by rw [← hS3,List.length_append];omega
 have hT3:cH L=S3:=by
  rw [← hS3,← hS2,← hS1,← eh2,← eh1];unfold cH ii;simp
 have H:=Qh h;have HK:=Qh hk;have HC:=Qh hc;have HTab:=Qh htab;have HS1:=Qh hS1;have HS2:=Qh hS2;have HS3:=Qh hS3;have HT3:=Qh hT3;have HFB:=Qh hfb;have HFJ:=Qh hfj;have HFD:=Qh hfd;have HLB:=Qh hln;have HLJ:=Qh hlj;have HLD:=Qh hld;have HL1:=Qh hlS1;have HL2:=Qh hlS2;have HL3:=Qh hlS3;clear h hk hc htab hS1 hS2 hS3 hT3 hfb hfj hfd hln hlj hld eh1 eh2 lh1 lh2 hlS1 hlS2 hlS3;go_in;go_wp2_with fail;have q0:Below w.heap.size w (w.alloc (.cells #[ah L.name,.slice A n c,.slice B p d,.slice C q e] 36)):=(ae w).alloc Qr _;have x0:Blk (w.alloc (.cells #[ah L.name,.slice A n c,.slice B p d,.slice C q e] 36)) w.heap.size 36 #[ah L.name,.slice A n c,.slice B p d,.slice C q e]:=aj _ _ _ rfl;(with_reducible refine (mj _ A n c B p d C q e L 40 (H.out.belw q0) (by decide) (by decide) 0 HC.out).mono ?_);rintro e' w1 ⟨rfl,hb1⟩;rw [show cS 0=.nilIface from if_pos rfl];have q1:=q0.trans (hb1.mono q0.size);have x1:=x0.below hb1 x0.lt;have hlw1:w.heap.size < w1.heap.size:=x1.lt;have cx0:=x1.cell 0;clear hb1 q0 x0;go_wp2_with fail;clear cx0;have B1:Bu w1.heap.size w1.heap.size (w1.alloc (.cells #[.pointer none,.slice none 0 0] 70)) []:=Bu.new;have qa:Below w1.heap.size w1 (w1.alloc (.cells #[.pointer none,.slice none 0 0] 70)):=(ae w1).alloc Qr _;have xa:=x1.below qa x1.lt;(with_reducible refine (bP _ _ _ _ h2 B1 (by simp only [List.length_nil];omega)).mono ?_);rintro e' w2 ⟨rfl,B2,q2,_⟩;rw [List.nil_append] at B2;have q2:=qa.trans q2;have x2:=x1.below q2 x1.lt;have bw2:=q1.trans (q2.mono q1.size);have HB2:=Qh B2;have cx1:=x2.cell 1;clear qa xa B1 B2 q1 x1;go_wp2_with fail;clear cx1;go_loopw [26] (fun iv wr=>∃ i:Nat,iv=.int .i64 (i:Nat)∧i≤n∧Hid (Bu w1.heap.size w1.heap.size wr (h2 ++ (L.bodies.take i).flatMap aL))∧Below w1.heap.size w2 wr) (fun iv _=>n - (intOf iv).toNat)
 case atStart=>exact ⟨0,rfl,Nat.zero_le _,by simpa using HB2,Below.refl _ _⟩
 case round =>
  clear HB2;obtain ⟨i,rfl,hi,HB,hb⟩:=hrel;rename World=>wa;have xa:=x2.below hb hlw1;have bwa:=bw2.trans (hb.mono (Nat.le_of_lt hlw1));rcases Nat.lt_or_ge i n with hlt | hge
  ·have hi1:((i:Int) < (n:Int))=True:=by simp;omega
   obtain ⟨g,o,b,e1,hg,_,hbi,hBd⟩:=(H.out.bodies.bd bwa).at_ hlt;subst e1;have hok:=HK.out.body b (List.mem_of_getElem? hbi);have hms:=(H.out.bodies.bd bwa).bodyShort HK.out.body b (List.mem_of_getElem? hbi);obtain ⟨A',n',c',d0,d1,hM,_⟩:=hBd;have hfs:=bE aL hbi;have hfl2:=bC aL L.bodies (i+1);rw [hfs,List.length_append] at hfl2;obtain ⟨T,hT⟩:∃ T,dy b=T:=⟨_,rfl⟩;obtain ⟨T1,hT1⟩:∃ t,T ++ [10]=t:=⟨_,rfl⟩;have hlt1:aL b=T1:=by rw [← hT1,← hT];rfl
   rw [hlt1] at hfs hfl2;have aT1:=av T [10];rw [hT1] at aT1;have hlT:T1.length=T.length+1:=by rw [← hT1,List.length_append];rfl
   have h9:=HFB.out;have kT1:(9223372036854775807 < T.length+1)=False:=eq_false (by omega);have hsT:=ag T;have hlw:(h2 ++ (L.bodies.take i).flatMap aL).length+T1.length≤140737488355328:=by rw [List.length_append];omega
   have HW:=Qh hlw;have HFS:Hid (h2 ++ (L.bodies.take (i+1)).flatMap aL=h2 ++ (L.bodies.take i).flatMap aL ++ T1):=Qh (by rw [hfs,List.append_assoc]);have HT:=Qh hT;have HM:=Qh hM;have HOK:=Qh hok;have hlen9:=hok.2.1;rw [hM.1] at hlen9;clear hbi hok hms hM hfs hfl2 hT hT1 hlt1 hlT h9 hlw;have hga:g < wa.heap.size:=hg;go_wp2_with fail;have xp:Blk (wa.alloc (.cells #[ah b.name,.slice A' n' c'] 62)) wa.heap.size 62 #[ah b.name,.slice A' n' c']:=aj _ _ _ rfl;have qb:Below wa.heap.size wa (wa.alloc (.cells #[ah b.name,.slice A' n' c'] 62)):=(ae wa).alloc Qr _;have HBb:=Qh (HB.out.belw qb);have HTb:=Qh ((HTab.out.belw bwa).belw qb);have HMb:=Qh (HM.out.mk_ qb);have hbB:w1.heap.size < wa.heap.size:=HB.out.lt;clear HB HM d0 d1;generalize (wa.alloc (.cells #[ah b.name,.slice A' n' c'] 62))=wb at xp qb HBb HTb HMb ⊢;(with_reducible refine (sO _ A' n' c' b HMb.out HTb.out (by omega) HOK.out.nm HOK.out.mks T HT.out).mono ?_);rintro e' wc ⟨rfl,qc⟩;have qc2:=af qb qc;go_wp2_with fail;(with_reducible refine (bP _ _ _ _ T1 (HBb.out.belw qc) HW.out).mono ?_);rintro e' wd ⟨rfl,Bd,qd,_⟩;have HBd:Hid (Bu w1.heap.size w1.heap.size wd (h2 ++ (L.bodies.take (i+1)).flatMap aL)):=Qh (by rw [HFS.out];exact Bd);have bd:=(hb.trans (qc2.mono (Nat.le_of_lt hbB))).trans qd;clear Bd HFS;go_wp2_with fail;go_roundw
   case rel=>exact ⟨i+1,by go_num,by omega,HBd,bd⟩
   case measure=>simp [intOf];omega
  have hi1:((i:Int) < (n:Int))=False:=by simp;omega
  have hin:L.bodies.take i=L.bodies:=List.take_of_length_le (by rw [HLB.out];exact hge);rw [hin,HS1.out] at HB;have HB1:=HB;have cx2:=xa.cell 2;clear hin HB;go_wp2_with fail;clear cx2;go_loopw [38] (fun iv wr=>∃ i2:Nat,iv=.int .i64 (i2:Nat)∧i2≤p∧Hid (Bu w1.heap.size w1.heap.size wr (S1 ++ (L.joints.take i2).flatMap (am L.bodies)))∧Below w1.heap.size w2 wr) (fun iv _=>p - (intOf iv).toNat)
  case atStart=>exact ⟨0,rfl,Nat.zero_le _,by simpa using HB1,hb⟩
  case round =>
   clear HB1 xa bwa hb;obtain ⟨i2,rfl,hi2,HB,hb⟩:=hrel;rename World=>wj;have xa:=x2.below hb hlw1;have bwa:=bw2.trans (hb.mono (Nat.le_of_lt hlw1));rcases Nat.lt_or_ge i2 p with hlt2 | hge2
   ·have hi3:((i2:Int) < (p:Int))=True:=by simp;omega
    obtain ⟨g,o,j,e1,hg,_,hbi,hJt⟩:=(H.out.joints.jt bwa).at_ hlt2;subst e1;have hok:=HK.out.joint j (List.mem_of_getElem? hbi);obtain ⟨hjn,ja,jb,jp,jo,x,y,m1,m2,ea,eb,ep,eo,hx,hy,hm1,hm2,hkd⟩:=hok;obtain ⟨d0,d1,d2,d3,d4,d5,d6,_⟩:=hJt;obtain ⟨F1,hF1⟩:∃ F,x.name ++ 46 :: m1.name=F:=⟨_,rfl⟩;obtain ⟨F2,hF2⟩:∃ F,y.name ++ 46 :: m2.name=F:=⟨_,rfl⟩;have hbx:=HK.out.body x (List.mem_of_getElem? hx);have hby:=HK.out.body y (List.mem_of_getElem? hy);have HJ1:=Qh (And.intro hx (And.intro hm1 (And.intro hbx.nm (And.intro (hbx.mks m1 (List.mem_of_getElem? hm1)) hF1))));have HJ2:=Qh (And.intro hy (And.intro hm2 (And.intro hby.nm (And.intro (hby.mks m2 (List.mem_of_getElem? hm2)) hF2))));have hf1:dA L.bodies j.a j.point=F1:=by rw [ea,ep,eu hx hm1,hF1]
    have hf2:dA L.bodies j.b j.on=F2:=by rw [eb,eo,eu hy hm2,hF2]
    have hfs:=bE (am L.bodies) hbi;have hfl2:=bC (am L.bodies) L.joints (i2+1);rw [hfs,List.length_append] at hfl2;have hjl:=de HK.out.body hjn;rw [ea] at d2;rw [ep] at d3;rw [eb] at d4;rw [eo] at d5;have hsj:=ag j.name;have hga:g < wj.heap.size:=hg;have h9:=HFJ.out;have h8:=HL1.out;have hlw:(S1 ++ (L.joints.take i2).flatMap (am L.bodies)).length+(am L.bodies j).length≤140737488355328:=by rw [List.length_append];omega
    have HW:=Qh hlw;have HFS:Hid (S1 ++ (L.joints.take (i2+1)).flatMap (am L.bodies)=S1 ++ (L.joints.take i2).flatMap (am L.bodies) ++ am L.bodies j):=Qh (by rw [hfs,List.append_assoc]);have HBI:=Qh (And.intro hf1 (And.intro hf2 hjl));have HKD:=Qh hkd;have HBY:=Qh (And.intro hy hby);have HEB:=Qh eb;clear hF1 hF2 hx hy hm1 hm2 hbx hby hf1 hf2 hfs hfl2 hjl ea ep eb eo hbi h9 h8 hlw hkd;go_wp2_with fail;have xp:Blk (wj.alloc (.cells #[ah j.name,.int .i64 j.kind,.int .i64 (ja:Nat),.int .i64 (jp:Nat),.int .i64 (jb:Nat),.int .i64 (jo:Nat),.int .i64 j.to_] 79)) wj.heap.size 79 #[ah j.name,.int .i64 j.kind,.int .i64 (ja:Nat),.int .i64 (jp:Nat),.int .i64 (jb:Nat),.int .i64 (jo:Nat),.int .i64 j.to_]:=aj _ _ _ rfl;have qb:Below wj.heap.size wj (wj.alloc (.cells #[ah j.name,.int .i64 j.kind,.int .i64 (ja:Nat),.int .i64 (jp:Nat),.int .i64 (jb:Nat),.int .i64 (jo:Nat),.int .i64 j.to_] 79)):=(ae wj).alloc Qr _;have HBb:=Qh (HB.out.belw qb);have HTb:=Qh ((HTab.out.belw bwa).belw qb);have HBod:=Qh ((H.out.bodies.bd bwa).bd qb);have hbB:w1.heap.size < wj.heap.size:=HB.out.lt;have xb:=xa.below qb xa.lt;have bwb:=hb.trans (qb.mono (Nat.le_of_lt hbB));clear HB d0 d1 d2 d3 d4 d5 d6 xa;generalize (wj.alloc (.cells #[ah j.name,.int .i64 j.kind,.int .i64 (ja:Nat),.int .i64 (jp:Nat),.int .i64 (jb:Nat),.int .i64 (jo:Nat),.int .i64 j.to_] 79))=wb at xp qb HBb HTb HBod xb bwb ⊢;have hlb:wj.heap.size < wb.heap.size:=xp.lt;have hlb2:w.heap.size < wb.heap.size:=xb.lt;obtain ⟨cp0,cp1,cp2,cp3,cp4,cp5,cp6⟩:=xp.c7;obtain ⟨cb0,cb1,cb2,cb3⟩:=xb.c4
    go_region_held3 (fun w'=>Sees wb.heap.size wb w') (first | with_reducible exact Sees.of Qr (by assumption) | with_reducible exact Sees.of Qr (ae _).drew | with_reducible exact Sees.al (by assumption) _ | exact Sees.of Qr (aa (ae _) 1) | exact Sees.of Qr (aa (by assumption) _))
     (first
      | (go_at_call 61;(with_reducible refine (lD _ _ _ _ _ _ _ _ _ _ _ L.bodies 40 ?_ ja jp x m1 HJ1.out.1 HJ1.out.2.1 HJ1.out.2.2.1 HJ1.out.2.2.2.1 F1 HJ1.out.2.2.2.2).mono ?_);(exact HBod.out.bd (by first | exact qwf2 | exact ae _ | exact (ae wb).drew | exact aa (ae wb) _));rintro e' wf1 ⟨rfl,hwf1⟩;have qwf1:Below wb.heap.size wb wf1:=(by first | exact af qwf2 hwf1 | exact af (ae wb) hwf1 | exact af (aa (ae wb) _) hwf1))
      | (go_at_call 61;(with_reducible refine (lD _ _ _ _ _ _ _ _ _ _ _ L.bodies 40 ?_ jb jo y m2 HJ2.out.1 HJ2.out.2.1 HJ2.out.2.2.1 HJ2.out.2.2.2.1 F2 HJ2.out.2.2.2.2).mono ?_);(exact HBod.out.bd (by first | exact qwf1 | exact ae _ | exact (ae wb).drew | exact aa (ae wb) _));rintro e' wf2 ⟨rfl,hwf2⟩;have qwf2:Below wb.heap.size wb wf2:=(by first | exact af qwf1 hwf2 | exact af (ae wb) hwf2 | exact af (aa (ae wb) _) hwf2)))
    all_goals
     rename_i hHeld;clear hHeld hwf1 hwf2
     first
      | clear qwf1 wf1
      | clear qwf2 wf2
     rename World=>wl;rename Below wb.heap.size wb wl=>ql;have xs:Blk (wl.alloc (.cells #[.string ⟨#[112,105,110]⟩,ah j.name,ah F1,ah F2] 9)) wl.heap.size 9 (dB [[112,105,110],j.name,F1,F2]).toArray:=aj _ _ _ rfl;have qs:Below wb.heap.size wb (wl.alloc (.cells #[.string ⟨#[112,105,110]⟩,ah j.name,ah F1,ah F2] 9)):=ql.alloc ql.size _;have hgl:wb.heap.size≤wl.heap.size:=ql.size;clear cp0 cp1 cp2 cp3 cp4 cp5 cp6 cb0 cb1 cb2 cb3 ql;generalize (wl.alloc (.cells #[.string ⟨#[112,105,110]⟩,ah j.name,ah F1,ah F2] 9))=ws at xs qs ⊢;have hls:wl.heap.size < ws.heap.size:=xs.lt;have xp2:=xp.below qs xp.lt;have xb2:=xb.below qs xb.lt;have bws:=bwb.trans (qs.mono (by omega));have cp1:=xp2.cell 1;rcases HKD.out with ⟨hk0,_⟩ | ⟨hk1,jt,m3,et,hm3⟩
     ·have e10:(j.kind == 1)=false:=by rw [hk0];rfl
      have hw0:bt L.bodies j=[[112,105,110],j.name,F1,F2]:=by
       unfold bt;rw [if_neg (by omega),HBI.out.1,HBI.out.2.1]
      obtain ⟨J,hJ⟩:∃ J,dG [[112,105,110],j.name,F1,F2]=J:=⟨_,rfl⟩;obtain ⟨T,hT⟩:∃ T,J ++ [59,10]=T:=⟨_,rfl⟩;have hTT:am L.bodies j=T:=by unfold am;rw [hw0,hJ,hT]
      have aT:=av J [59,10];rw [hT] at aT;have hlT:T.length=J.length+2:=by rw [← hT,List.length_append];rfl
      have hl200:=HBI.out.2.2;rw [hTT] at hl200;have kT:(9223372036854775807 < J.length+2)=False:=eq_false (by omega);have hsJ:=ag J;have hWT:=HW.out;rw [hTT] at hWT;have HWT:=Qh hWT;have HTT:=Qh hTT;have HJ:=Qh hJ;clear hk0 hw0 hT hTT hWT;go_wp2_with fail;(with_reducible refine (kX ws wl.heap.size 4 4 _ rfl xs.strs hls (by decide) (by decide) (by rw [HJ.out];omega)).mono ?_);rintro e' wt ⟨rfl,qt⟩;rw [HJ.out];go_wp2_with fail;(with_reducible refine (bP _ _ _ _ T ((HBb.out.belw qs).belw qt) HWT.out).mono ?_);rintro e' wu ⟨rfl,Bw,qu,_⟩;have HBu:Hid (Bu w1.heap.size w1.heap.size wu (S1 ++ (L.joints.take (i2+1)).flatMap (am L.bodies))):=Qh (by rw [HFS.out,HTT.out];exact Bw);have bu:=(bws.trans (qt.mono (by omega))).trans qu;clear Bw;go_wp2_with fail;go_roundw
      case rel=>exact ⟨i2+1,by go_num,by omega,HBu,bu⟩
      case measure=>simp [intOf];omega
     have e10:(j.kind == 1)=true:=by rw [hk1];rfl
     obtain ⟨F3,hF3⟩:∃ F,y.name ++ 46 :: m3.name=F:=⟨_,rfl⟩;have hby:=HBY.out.2;have HJ3:=Qh (And.intro HBY.out.1 (And.intro hm3 (And.intro hby.nm (And.intro (hby.mks m3 (List.mem_of_getElem? hm3)) hF3))))
     have hw0:bt L.bodies j=[[115,108,105,100,101],j.name,F1,F2,F3]:=by
      unfold bt;have hf3:=eu HBY.out.1 hm3;rw [if_pos hk1,HBI.out.1,HBI.out.2.1,HEB.out,et,hf3,hF3]
     have hto:((jt:Nat):Int)=j.to_:=et.symm;obtain ⟨J,hJ⟩:∃ J,dG [[115,108,105,100,101],j.name,F1,F2,F3]=J:=⟨_,rfl⟩;obtain ⟨T,hT⟩:∃ T,J ++ [59,10]=T:=⟨_,rfl⟩;have hTT:am L.bodies j=T:=by unfold am;rw [hw0,hJ,hT]
     have aT:=av J [59,10];rw [hT] at aT;have hlT:T.length=J.length+2:=by rw [← hT,List.length_append];rfl
     have hl200:=HBI.out.2.2;rw [hTT] at hl200;have kT:(9223372036854775807 < J.length+2)=False:=eq_false (by omega);have hsJ:=ag J;have hWT:=HW.out;rw [hTT] at hWT;have HWT:=Qh hWT;have HTT:=Qh hTT;have HJ:=Qh hJ;rw [et] at xp2 xp;obtain ⟨i0,hi0,hz0,hz1,hz2⟩:=info_parts km;have HI:=Qh (And.intro hi0 (And.intro hz0 (And.intro hz1 hz2)));clear hk1 hi0 hz0 hz1 hz2 et hto hm3 hF3 hby hw0 hT hTT hWT;have xs0:=xs.cell 0;have xf0:=xs.frozen 0;have xs1:=xs.cell 1;have cp4:=xp2.cell 4;have cp6:=xp2.cell 6;obtain ⟨cb0,cb1,cb2,cb3⟩:=xb2.c4;have hne1:¬ w.heap.size=wl.heap.size:=by omega
     have hne2:¬ wj.heap.size=wl.heap.size:=by omega
     have xs5:Blk (ws.setCell ⟨wl.heap.size,0,none⟩ (ah [115,108,105,100,101])) wl.heap.size 9 (dB [[115,108,105,100,101],j.name,F1,F2]).toArray:=xs.set_ 0 _;have qs5:Below wb.heap.size wb (ws.setCell ⟨wl.heap.size,0,none⟩ (ah [115,108,105,100,101])):=qs.setCell (p:=⟨wl.heap.size,0,none⟩) hgl _;clear xs;go_wp2_with fail;clear cb0 cb1 cb2 cb3 cp4 cp6 cp1 xs0 xs1 xf0;generalize (ws.setCell ⟨wl.heap.size,0,none⟩ (ah [115,108,105,100,101]))=wv at xs5 qs5 ⊢;(with_reducible refine (lD _ _ _ _ _ _ _ _ _ _ _ L.bodies 40 (HBod.out.bd qs5) jb jt y m3 HJ3.out.1 HJ3.out.2.1 HJ3.out.2.2.1 HJ3.out.2.2.2.1 F3 HJ3.out.2.2.2.2).mono ?_);rintro e' wt ⟨rfl,qt⟩;have xs6:=xs5.below qt xs5.lt;have q6:=af qs5 qt;have HO:=Qh ((xs6.owns (n:=4) hgl rfl (by decide)).alloc (.cells #[ah F3] 9));go_wp2_with (at_builtin;refine wpList_append_lies _ rfl _ _ _ rfl wb.heap.size 9 i0 (.string ⟨#[]⟩) 1 16 Tryz.underlying113 HI.out.1 HI.out.2.1 HI.out.2.2.1 HI.out.2.2.2 rfl (by omega) (.slice (some ⟨wl.heap.size,0,none⟩) 4 4) 4 (dB [[115,108,105,100,101],j.name,F1,F2]) rfl HO.out ⟨wt.heap.size,0,none⟩ 1 1 [_] rfl rfl (World.news_of_block (heap_alloc_new wt _)) (by simp [Value.oneCell']) (by omega) (by unfold maxLen;omega) (by omega) (by have:=q6.size;simp;omega) (wt.heap.size+1) (by simp) ?_;intro gx cap w9 hown1 hgrow hat hlt1);have ho5:=nL (l:=[[115,108,105,100,101],j.name,F1,F2,F3]) hown1;have HO5:=Qh ho5;have b9:Below wb.heap.size wb w9:=(q6.alloc q6.size _).grown hgrow (by have:=q6.size;simp;omega) (fun k hk=>by cases hk;exact hgl);clear ho5 hown1 hgrow hat;(with_reducible refine (kX w9 gx cap 5 _ rfl HO5.out.2 hlt1 (by decide) HO5.out.1 (by rw [HJ.out];omega)).mono ?_);rintro e' wy ⟨rfl,qy⟩;rw [HJ.out];have q9:=af b9 qy;go_wp2_with fail;(with_reducible refine (bP _ _ _ _ T (HBb.out.belw q9) HWT.out).mono ?_);rintro e' wu ⟨rfl,Bw,qu,_⟩;have HBu:Hid (Bu w1.heap.size w1.heap.size wu (S1 ++ (L.joints.take (i2+1)).flatMap (am L.bodies))):=Qh (by rw [HFS.out,HTT.out];exact Bw);have bu:=(bwb.trans (q9.mono (by omega))).trans qu;clear Bw;go_wp2_with fail;go_roundw
     case rel=>exact ⟨i2+1,by go_num,by omega,HBu,bu⟩
     case measure=>simp [intOf];omega
   have hi3:((i2:Int) < (p:Int))=False:=by simp;omega
   have hin:L.joints.take i2=L.joints:=List.take_of_length_le (by rw [HLJ.out];exact hge2);rw [hin,HS2.out] at HB;have HB2:=HB;have cx3:=xa.cell 3;clear hin HB;go_wp2_with fail;clear cx3;go_loopw [79] (fun iv wr=>∃ i3:Nat,iv=.int .i64 (i3:Nat)∧i3≤q∧Hid (Bu w1.heap.size w1.heap.size wr (S2 ++ (L.drivers.take i3).flatMap (az L.bodies)))∧Below w1.heap.size w2 wr) (fun iv _=>q - (intOf iv).toNat)
   case atStart=>exact ⟨0,rfl,Nat.zero_le _,by simpa using HB2,hb⟩
   case round =>
    clear HB2 xa bwa hb;obtain ⟨i3,rfl,hi3',HB,hb⟩:=hrel;rename World=>wk;have xa:=x2.below hb hlw1;have bwa:=bw2.trans (hb.mono (Nat.le_of_lt hlw1));rcases Nat.lt_or_ge i3 q with hlt3 | hge3
    ·have hi4:((i3:Int) < (q:Int))=True:=by simp;omega
     obtain ⟨g,o,dv,e1,hg,_,hbi,hDr⟩:=(H.out.drivers.dr bwa).at_ hlt3;subst e1;obtain ⟨hdn,di,y,ei,hy⟩:=HK.out.driver dv (List.mem_of_getElem? hbi);have hil:di < n:=by rw [← HLB.out];exact (List.getElem?_eq_some_iff.1 hy).1
     obtain ⟨gb,ob,y',e1,hgb,_,hy',hBy⟩:=H.out.bodies.at_ hil;rw [hy] at hy';injection hy' with hy';subst hy' e1;obtain ⟨A',n',c',k0,k1,hM,_⟩:=hBy;have hby:=HK.out.body y (List.mem_of_getElem? hy);have hyn:=hby.nm;obtain ⟨d0,d1,_⟩:=hDr;rw [ei] at d1;have hsd:=ag dv.name;have hsy:=ag y.name;obtain ⟨g1,eg1⟩:∃ t,[100,114,105,118,101,114,32] ++ dv.name=t:=⟨_,rfl⟩;have ag1:=av ([100,114,105,118,101,114,32]) (dv.name);rw [eg1] at ag1;have lg1:g1.length=7+dv.name.length:=by rw [← eg1,List.length_append];try simp
     have kg1:(9223372036854775807 < 7+dv.name.length)=False:=eq_false (by omega);have zg1:=ag g1;obtain ⟨g2,eg2⟩:∃ t,g1 ++ [32]=t:=⟨_,rfl⟩;have ag2:=av (g1) ([32]);rw [eg2] at ag2;have lg2:g2.length=g1.length+1:=by rw [← eg2,List.length_append];try simp
     have kg2:(9223372036854775807 < g1.length+1)=False:=eq_false (by omega);have zg2:=ag g2;obtain ⟨g3,eg3⟩:∃ t,g2 ++ y.name=t:=⟨_,rfl⟩;have ag3:=av (g2) (y.name);rw [eg3] at ag3;have lg3:g3.length=g2.length+y.name.length:=by rw [← eg3,List.length_append];try simp
     have kg3:(9223372036854775807 < g2.length+y.name.length)=False:=eq_false (by omega);have zg3:=ag g3;obtain ⟨g4,eg4⟩:∃ t,g3 ++ [59,10]=t:=⟨_,rfl⟩;have ag4:=av (g3) ([59,10]);rw [eg4] at ag4;have lg4:g4.length=g3.length+2:=by rw [← eg4,List.length_append];try simp
     have kg4:(9223372036854775807 < g3.length+2)=False:=eq_false (by omega);have zg4:=ag g4
     have hdt:az L.bodies dv=g4:=by
      rw [← eg4,← eg3,← eg2,← eg1];unfold az;rw [ei,mg hy]
     have hfs:=bE (az L.bodies) hbi;have hfl2:=bC (az L.bodies) L.drivers (i3+1);rw [hfs,List.length_append,hdt] at hfl2;rw [hdt] at hfs;have h9:=HFD.out;have h8:=HL2.out;have hlw:(S2 ++ (L.drivers.take i3).flatMap (az L.bodies)).length+g4.length≤140737488355328:=by rw [List.length_append];omega
     have HW:=Qh hlw;have HFS:Hid (S2 ++ (L.drivers.take (i3+1)).flatMap (az L.bodies)=S2 ++ (L.drivers.take i3).flatMap (az L.bodies) ++ g4):=Qh (by rw [hfs,List.append_assoc]);have k0:=aw k0 bwa;have hga:g < wk.heap.size:=hg;clear hM k1 hby hy ei hdt hfs hfl2 h9 h8 hlw hbi lg1 lg2 lg3 lg4 eg1 eg2 eg3 eg4;go_wp2_with fail;have xp:Blk (wk.alloc (.cells #[ah dv.name,.int .i64 (di:Nat)] 81)) wk.heap.size 81 #[ah dv.name,.int .i64 (di:Nat)]:=aj _ _ _ rfl;have qb:Below wk.heap.size wk (wk.alloc (.cells #[ah dv.name,.int .i64 (di:Nat)] 81)):=(ae wk).alloc Qr _;have HBb:=Qh (HB.out.belw qb);have hbB:w1.heap.size < wk.heap.size:=HB.out.lt;have xb:=xa.below qb xa.lt;have bwb:=hb.trans (qb.mono (Nat.le_of_lt hbB));have k0:=aw k0 qb;clear HB d0 d1 xa;generalize (wk.alloc (.cells #[ah dv.name,.int .i64 (di:Nat)] 81))=wb at xp qb HBb xb bwb k0 ⊢;have hlb:wk.heap.size < wb.heap.size:=xp.lt;have hlb2:w.heap.size < wb.heap.size:=xb.lt;obtain ⟨cp0,cp1⟩:=xp.c2;have cb1:=xb.cell 1;have f1:((di:Int) < (n:Int)):=by omega
     have hSb:SD wk.heap.size w.heap.size gb (ob+di * 2) (ah dv.name) (.int .i64 (di:Nat)) (.slice (some ⟨gb,ob,none⟩) n c) (ah y.name) wb:=⟨cp0,cp1,cb1,k0⟩
     go_region_held3 (SD wk.heap.size w.heap.size gb (ob+di * 2) (ah dv.name) (.int .i64 (di:Nat)) (.slice (some ⟨gb,ob,none⟩) n c) (ah y.name)) (first | assumption | exact hSb)
      (first
       | (go_at_call 27;(with_reducible refine (bP _ _ _ _ g4 (HBb.out.belw (by first | exact (ae wb).drew | exact aa (ae wb) _)) HW.out).mono ?_);rintro e' wu ⟨rfl,Bw,qu,ou⟩;have xu:=ou wk.heap.size 81 _ (by omega) (by decide) xp;have qu:Below w1.heap.size wb wu:=(by first | exact (Below.refl _ wb).drew.trans qu | exact (aa (Below.refl _ wb) _).trans qu);have hSu:SD wk.heap.size w.heap.size gb (ob+di * 2) (ah dv.name) (.int .i64 (di:Nat)) (.slice (some ⟨gb,ob,none⟩) n c) (ah y.name) wu:=⟨xu.cell 0,xu.cell 1,(xb.below qu hlw1).cell 1,(qu.cell (p:=⟨gb,ob+di * 2,none⟩) (Nat.lt_trans hgb hlw1)).trans k0⟩))
     have HBu:Hid (Bu w1.heap.size w1.heap.size wu (S2 ++ (L.drivers.take (i3+1)).flatMap (az L.bodies))):=Qh (by rw [HFS.out];exact Bw);have bu:=bwb.trans qu;clear Bw cp0 cp1 cb1 k0 hSb hSu;go_wp2_with fail;go_roundw
     case rel=>exact ⟨i3+1,by go_num,by omega,HBu,bu⟩
     case measure=>simp [intOf];omega
    have hi4:((i3:Int) < (q:Int))=False:=by simp;omega
    have hin:L.drivers.take i3=L.drivers:=List.take_of_length_le (by rw [HLD.out];exact hge3);rw [hin,HS3.out] at HB;clear hin;go_wp2_with fail;(with_reducible refine (pD _ _ _ S3 HB.out).mono ?_);rintro e' w9 ⟨rfl,rfl⟩;by_cases h65:65536 < S3.length
    ·have f65:((65536:Int) < (S3.length:Int))=True:=eq_true (by omega)
     have hoE:aO L=4:=by unfold aO;rw [if_neg (by rw [HC.out];decide),if_pos (Or.inr (by rw [HT3.out];exact h65))]
     have hoT:aY L=[]:=by unfold aY;rw [if_neg (by rw [hoE];decide)]
     have HOE:=Qh (And.intro hoE hoT);clear hoE hoT;go_wp2_with fail;go_ret2;exact ⟨by rw [HOE.out.1,HOE.out.2];rfl,bwa⟩
    have f65:((65536:Int) < (S3.length:Int))=False:=eq_false (by omega);have H65:=Qh h65;obtain ⟨v,hv⟩:∃ v,eI L.bodies=v:=⟨_,rfl⟩;have HV:=Qh hv;obtain ⟨cb0,cb1,cb2,cb3⟩:=xa.c4;clear h65 hv;go_wp2_with fail;(with_reducible refine (sQ _ A n c B p d C q e L.name L.bodies (H.out.bodies.bd bwa) (HTab.out.belw bwa) (by omega) (fun b hb=>by have:=(HK.out.body b hb).np;omega) v HV.out).mono ?_);rintro e' wz ⟨rfl,qz⟩;have bz:=bwa.trans (qz.mono bwa.size);clear cb0 cb1 cb2 cb3;cases v
    ·have hoE:aO L=0:=by
      unfold aO;rw [if_neg (by rw [HC.out];decide),if_neg (by rw [HT3.out,HV.out];intro hh;rcases hh with hh | hh;exact absurd hh (by decide);exact H65.out hh)]
     have hoT:aY L=S3:=by unfold aY;rw [if_pos hoE,HT3.out]
     have HOE:=Qh (And.intro hoE hoT);have HBz:=Qh (HB.out.belw qz);clear hoE hoT;go_wp2_with fail;(with_reducible refine (lC _ _ _ _ HBz.out).mono ?_);rintro e' wy ⟨rfl,qy⟩;have by_:=bz.trans (qy.mono (Nat.le_of_lt hlw1));go_wp2_with fail;go_ret2;exact ⟨by rw [HOE.out.1,HOE.out.2];rfl,by_⟩
    have hoE:aO L=4:=by unfold aO;rw [if_neg (by rw [HC.out];decide),if_pos (Or.inl HV.out)]
    have hoT:aY L=[]:=by unfold aY;rw [if_neg (by rw [hoE];decide)]
    have HOE:=Qh (And.intro hoE hoT);clear hoE hoT;go_wp2_with fail;go_ret2;exact ⟨by rw [HOE.out.1,HOE.out.2];rfl,bz⟩
theorem sU (w:World) (i:Int) (n:Nat) (v:Bool) (hv:inI i n=v):Calls Tryz.prog 94 #[.int .i64 i,.int .i64 (n:Nat)] w (fun e w'=>e=.returned (.bool v)∧w'=w):=by
 subst hv;by_cases h1:0≤i
 ·by_cases h2:i < (n:Int)
  ·have e:inI i n=true:=by unfold inI;simp [h1,h2]
   rw [e];have f1:(0≤i)=True:=eq_true h1;have f2:(i < (n:Int))=True:=eq_true h2;go_in;go_wp2;go_ret;exact ⟨rfl,rfl⟩
  have e:inI i n=false:=by unfold inI;simp [h2]
  rw [e];have f1:(0≤i)=True:=eq_true h1;have f2:(i < (n:Int))=False:=eq_false h2;go_in;go_wp2;go_ret;exact ⟨rfl,rfl⟩
 have e:inI i n=false:=by unfold inI;simp [h1]
 rw [e];have f1:(0≤i)=False:=eq_false h1;go_in;go_wp2;go_ret;exact ⟨rfl,rfl⟩
theorem iJ (w:World) (i:Int) (n:Nat) (v:Bool) (hv:inI i n=v):Calls Tryz.prog 94 #[.int .i64 i,.int .i64 (n:Nat)] w (ax w (.bool v)):=(sU w i n v hv).mono fun _ _ ⟨h1,h2⟩=>⟨h1,h2 ▸ ae _⟩
theorem pM (w:World) (A:Option Addr) (n c:Nat) (b:aA) (k:Nat) (h:SlS (dw k) 7 w A n c b.pts) (hk:k≤300000000) (x:Int) (hx:(if 8 < b.pts.length then 4 else aU aR [] b.pts)=x):Calls Tryz.prog 93 #[.agg #[ah b.name,.slice A n c]] w (ax w (.int .i64 x)):=by
 have hln:=h.1;by_cases h8:8 < n
 ·have f8:((8:Int) < (n:Int))=True:=eq_true (by omega)
  have h4:x=4:=by rw [← hx,if_pos (by rw [hln];exact h8)]
  clear hln;go_in;go_wp2;go_ret;exact ⟨by rw [h4];rfl,(ae w).alloc Qr _⟩
 have f8:((8:Int) < (n:Int))=False:=eq_false (by omega);have hbd:n≤8:=by omega
 rw [if_neg (by rw [hln];exact h8)] at hx;have hnc:=h.2.1;have HX:=Qh (bI hx);have HLN:=Qh hln;clear hx hln h8;go_in;go_wp2_with fail;go_loopw [3] (fun iv wr=>∃ i:Nat,iv=.int .i64 (i:Nat)∧i≤n∧Hid (aU aR (b.pts.take i) (b.pts.drop i)=x)∧Blk wr w.heap.size 62 #[ah b.name,.slice A n c]∧Below w.heap.size w wr) (fun iv _=>n - (intOf iv).toNat)
 case atStart=>exact ⟨0,rfl,Nat.zero_le _,HX,aj _ _ _ (by simp),(ae w).alloc Qr _⟩
 case round =>
  clear HX;obtain ⟨p,rfl,hp,HP,xB,hb3⟩:=hrel;rename World=>w3;obtain ⟨cB0,cB1⟩:=xB.c2;have hlB:w.heap.size < w3.heap.size:=xB.lt;rcases Nat.lt_or_ge p n with hpl | hpg
  ·have hp1:((p:Int) < (n:Int))=True:=by simp;omega
   have HM3:=Qh (h.mk_ hb3);obtain ⟨g',o',m,e,hg',_,hmp,hMk⟩:=HM3.out.at_ hpl;subst e;have hst:=bT HP.out hmp;obtain ⟨d0,⟨b1,A1,n1,c1,D1,m1,e1,d1,d2,d3,hQ1⟩,⟨b2,A2,n2,c2,D2,m2,e2,d4,d5,d6,hQ2⟩,hmn⟩:=hMk;have d2:w3.cell? ⟨g',o'+p * 7+2,none⟩=some (.slice A1 n1 c1):=d2;have d3:w3.cell? ⟨g',o'+p * 7+3,none⟩=some (.slice D1 m1 e1):=d3;have d5:w3.cell? ⟨g',o'+p * 7+5,none⟩=some (.slice A2 n2 c2):=d5;have d6:w3.cell? ⟨g',o'+p * 7+6,none⟩=some (.slice D2 m2 e2):=d6;have HST:=Qh hst;have HQ1:=Qh hQ1;have HQ2:=Qh hQ2;have HMN:=Qh hmn;have hpn:((p:Int) < (n:Int)):=by omega
   obtain ⟨v,hv⟩:∃ v,aW m.name=v:=⟨_,rfl⟩;have HV:=Qh hv;clear hst hQ1 hQ2 hmn hmp hv h HP;go_wp2_with fail;(with_reducible refine (g7 _ m.name HMN.out v HV.out).mono ?_);rintro e w4 ⟨rfl,hb4⟩;have q4:=hb4.q1;have x4:Blk w4 w3.heap.size 67 #[ah m.name,.bool b1,.slice A1 n1 c1,.slice D1 m1 e1,.bool b2,.slice A2 n2 c2,.slice D2 m2 e2]:=(aj _ _ _ (by simp)).below hb4 (by simp);have xB4:=xB.below q4 xB.lt;have bw4:=hb3.trans (q4.mono hb3.size);clear hb4 d0 d1 d2 d3 d4 d5 d6 cB0 cB1
   have hxz:∀ z:Int,z≠0→aR (b.pts.take p) m=z→x=z:=fun z hz hm=>by
    rcases HST.out with ⟨u,_⟩ | ⟨_,u⟩
    ·exact absurd (hm.symm.trans u) hz
    exact u.symm.trans hm
   have HXZ:=Qh hxz;clear hxz;cases v
   ·have h5:x=5:=HXZ.out 5 (by decide) (if_pos HV.out)
    go_wp2;go_ret;exact ⟨by rw [h5];rfl,bw4⟩
   go_wp2_with fail;go_loopw [5] (fun jv wr=>∃ r:Nat,jv=.int .i64 (r:Nat)∧r≤p∧Hid (twN ((b.pts.take r).map aX.name) m.name=false)∧Below w4.heap.size w4 wr) (fun jv _=>p - (intOf jv).toNat)
   case atStart=>exact ⟨0,rfl,Nat.zero_le _,Qh rfl,ae w4⟩
   case round =>
    obtain ⟨r,rfl,hr,HT,hb5⟩:=hrel;rename World=>w5;have x5:=x4.below hb5 x4.lt;have xB5:=xB4.below hb5 xB4.lt;have bw5:=bw4.trans (hb5.mono bw4.size);have cD0:=x5.cell 0;rcases Nat.lt_or_ge r p with hrl | hrg
    ·have hr1:((r:Int) < (p:Int))=True:=by simp;omega
     have hrn:r < n:=by omega
     obtain ⟨a,ha,hA⟩:=((HM3.out.mk_ q4).mk_ hb5).rowAt hrn;obtain ⟨d0,_,_,_⟩:=hA;obtain ⟨cB0,cB1⟩:=xB5.c2;have hrn2:((r:Int) < (n:Int)):=by omega
     have htl:=be m.name;by_cases heq:a.name=m.name
     ·have h6:x=6:=HXZ.out 6 (by decide) (by
       unfold aR
       rw [HV.out,if_neg (by decide),if_pos (cZ ha hrl heq)])
      rw [heq] at d0;have hee:(m.name == m.name)=true:=by simp
      clear heq ha;go_wp2_with fail;go_quiet (fail);go_wp2;go_ret;exact ⟨by rw [h6];rfl,aa bw5 _⟩
     have hta:=be a.name;have HT2:=Qh (cF ha HT.out heq);have hee:(a.name == m.name)=false:=beq_eq_false_iff_ne.2 heq;clear heq ha HT;go_wp2_with fail;go_quiet (fail);go_wp2_with fail;go_roundw
     case rel=>exact ⟨r+1,by go_num,by omega,HT2,aa hb5 _⟩
     case measure=>simp [intOf];omega
    have hr1:((r:Int) < (p:Int))=False:=by simp;omega
    obtain rfl:r=p:=by omega
    have cD1:=x5.cell 1;have cD2:=x5.cell 2;have cD3:=x5.cell 3;obtain ⟨v1,hv1⟩:∃ v,m.x.ok=v:=⟨_,rfl⟩;obtain ⟨v2,hv2⟩:∃ v,m.y.ok=v:=⟨_,rfl⟩;have HV1:=Qh hv1;have HV2:=Qh hv2;clear hv1 hv2;go_wp2_with fail;(with_reducible refine (ee _ b1 A1 n1 c1 D1 m1 e1 m.x k v1 ((HQ1.out.belw q4).belw hb5) hk HV1.out).mono ?_);rintro e w6 ⟨rfl,hb6⟩;have x6:=x5.below hb6 x5.lt;have xB6:=xB5.below hb6 xB5.lt;have bw6:=bw5.trans (hb6.mono bw5.size);clear cD0 cD1 cD2 cD3
    have hE3:v1=false∨v2=false→aR (b.pts.take r) m=3:=fun hh=>by
     unfold aR;rw [HV.out,if_neg (by decide),HT.out,if_neg (by decide),HV1.out,HV2.out];rcases hh with e | e
     ·rw [e,if_pos rfl]
     rw [e];cases v1
     ·rfl
     rfl
    have HE3:=Qh hE3;clear hE3;cases v1
    ·have h3:x=3:=HXZ.out 3 (by decide) (HE3.out (.inl rfl))
     go_wp2;go_ret;exact ⟨by rw [h3];rfl,bw6⟩
    have cE4:=x6.cell 4;have cE5:=x6.cell 5;have cE6:=x6.cell 6;go_wp2_with fail;(with_reducible refine (ee _ b2 A2 n2 c2 D2 m2 e2 m.y k v2 (((HQ2.out.belw q4).belw hb5).belw hb6) hk HV2.out).mono ?_);rintro e w7 ⟨rfl,hb7⟩;have bw7:=bw6.trans (hb7.mono bw6.size);have xB7:=xB6.below hb7 xB6.lt;clear cE4 cE5 cE6;cases v2
    ·have h3:x=3:=HXZ.out 3 (by decide) (HE3.out (.inr rfl))
     go_wp2;go_ret;exact ⟨by rw [h3];rfl,bw7⟩
    have h0:aR (b.pts.take r) m=0:=by
     unfold aR;rw [HV.out,if_neg (by decide),HT.out,if_neg (by decide),HV1.out,HV2.out];rfl
    have HP2:Hid (aU aR (b.pts.take (r+1)) (b.pts.drop (r+1))=x):=Qh (by
     rcases HST.out with ⟨_,u⟩ | ⟨u,_⟩
     ·exact u
     exact absurd h0 u)
    clear h0;go_wp2_with fail;go_roundw
    case rel=>exact ⟨r+1,by go_num,by omega,HP2,xB7,bw7⟩
    case measure=>simp [intOf];omega
  have hp1:((p:Int) < (n:Int))=False:=by simp;omega
  have hx0:x=0:=cE HP.out (by rw [HLN.out];exact hpg);go_wp2;go_ret;exact ⟨by rw [hx0];rfl,hb3⟩
theorem pN (w:World) (A:Option Addr) (n c:Nat) (B:Option Addr) (p d:Nat) (C:Option Addr) (q e:Nat) (L:ay) (k:Nat) (h:LkS k w A n c B p d C q e L) (hk:k≤10000000) (hn:n≤8) (x:Int) (hx:aU aK [] L.bodies=x):Calls Tryz.prog 53 #[.agg #[ah L.name,.slice A n c,.slice B p d,.slice C q e]] w (ax w (.int .i64 x)):=by
 have HX:=Qh (bI hx);have hnc:=h.bodies.2.1;have HLN:=Qh h.bodies.1;clear hx;go_in;go_wp2_with fail;go_loopw [3] (fun iv wr=>∃ i:Nat,iv=.int .i64 (i:Nat)∧i≤n∧Hid (aU aK (L.bodies.take i) (L.bodies.drop i)=x)∧Blk wr w.heap.size 36 #[ah L.name,.slice A n c,.slice B p d,.slice C q e]∧Below w.heap.size w wr) (fun iv _=>n - (intOf iv).toNat)
 case atStart=>exact ⟨0,rfl,Nat.zero_le _,HX,aj _ _ _ (by simp),(ae w).alloc Qr _⟩
 case round =>
  clear HX;obtain ⟨i,rfl,hi,HX,xL,hb⟩:=hrel;rename World=>wa;have cL1:=xL.cell 1;rcases Nat.lt_or_ge i n with hlt | hge
  ·have hi1:((i:Int) < (n:Int))=True:=by simp;omega
   have hR:=(h.belw hb).bodies;obtain ⟨g,o,b,e1,hg,_,hbi,hB⟩:=hR.at_ hlt;subst e1;have hstep:=bT HX.out hbi;obtain ⟨A',n',c',c0,c1,hM,hnm⟩:=hB;have HR:=Qh hR;have HM:=Qh hM;have HS:=Qh hstep;have HN:=Qh hnm;have hin:((i:Int) < (n:Int)):=by omega
   obtain ⟨v,hv⟩:∃ v,aW b.name=v:=⟨_,rfl⟩;have HV:=Qh hv;clear h hR hM hstep hnm hbi hv HX;go_wp2_with fail;(with_reducible refine (g7 _ b.name HN.out v HV.out).mono ?_);rintro e' w1 ⟨rfl,hb1⟩;have xL1:=xL.below hb1 xL.lt;have bw1:=hb.trans (hb1.mono hb.size)
   have hxz:∀ z:Int,z≠0→aK (L.bodies.take i) b=z→x=z:=fun z hz hm=>by
    rcases HS.out with ⟨u,_⟩ | ⟨_,u⟩
    ·exact absurd (hm.symm.trans u) hz
    exact u.symm.trans hm
   have HXZ:=Qh hxz;clear hxz cL1;cases v
   ·have h5:x=5:=HXZ.out 5 (by decide) (if_pos HV.out)
    go_wp2;go_ret;exact ⟨by rw [h5];rfl,bw1⟩
   go_wp2_with fail;go_loopw [4] (fun jv wr=>∃ j:Nat,jv=.int .i64 (j:Nat)∧j≤i∧Hid (twN ((L.bodies.take j).map aA.name) b.name=false)∧Below w1.heap.size w1 wr) (fun jv _=>i - (intOf jv).toNat)
   case atStart=>exact ⟨0,rfl,Nat.zero_le _,Qh rfl,ae w1⟩
   case round =>
    obtain ⟨j,rfl,hj,HT,hb2⟩:=hrel;rename World=>w2;have xL2:=xL1.below hb2 xL1.lt;have bw2:=bw1.trans (hb2.mono bw1.size);have cL1:=xL2.cell 1;have c0:=aw (aw c0 hb1) hb2;rcases Nat.lt_or_ge j i with hjl | hjg
    ·have hj1:((j:Int) < (i:Int))=True:=by simp;omega
     have hjn:j < n:=by omega
     have hjn2:((j:Int) < (n:Int)):=by omega
     obtain ⟨a,ha,hA⟩:=((HR.out.bd hb1).bd hb2).rowAt hjn;obtain ⟨A2,n2,c2,d0,_,_,_⟩:=hA;have htl:=be b.name;by_cases heq:a.name=b.name
     ·have h6:x=6:=HXZ.out 6 (by decide) (by
       unfold aK
       rw [HV.out,if_neg (by decide),if_pos (cZ ha hjl heq)])
      rw [heq] at d0;have hee:(b.name == b.name)=true:=by simp
      clear heq ha;go_wp2_with fail;go_quiet (fail);go_wp2;go_ret;exact ⟨by rw [h6];rfl,aa bw2 _⟩
     have hta:=be a.name;have HT2:=Qh (cF ha HT.out heq);have hee:(a.name == b.name)=false:=beq_eq_false_iff_ne.2 heq;clear heq ha HT;go_wp2_with fail;go_quiet (fail);go_wp2_with fail;go_roundw
     case rel=>exact ⟨j+1,by go_num,by omega,HT2,aa hb2 _⟩
     case measure=>simp [intOf];omega
    have hj1:((j:Int) < (i:Int))=False:=by simp;omega
    obtain rfl:j=i:=by omega
    have c1:=aw (aw c1 hb1) hb2;obtain ⟨y,hy⟩:∃ y,(if 8 < b.pts.length then (4:Int) else aU aR [] b.pts)=y:=⟨_,rfl⟩
    have HE:Hid (aK (L.bodies.take j) b=y):=Qh (by
     unfold aK;rw [HV.out,if_neg (by decide),HT.out,if_neg (by decide)]
     exact hy)
    have HY:=Qh hy;clear hy;go_wp2_with fail;(with_reducible refine (pM _ A' n' c' b k ((HM.out.mk_ hb1).mk_ hb2) (by omega) y HY.out).mono ?_);rintro e' w3 ⟨rfl,hb3⟩;have bw3:=bw2.trans (hb3.mono bw2.size);have xL3:=xL2.below hb3 xL2.lt;clear cL1;by_cases hy0:y=0
    ·have HX2:Hid (aU aK (L.bodies.take (j+1)) (L.bodies.drop (j+1))=x):=Qh (by
      rcases HS.out with ⟨_,u⟩ | ⟨u,_⟩
      ·exact u
      exact absurd (HE.out.trans hy0) u)
     have e0:(y == 0)=true:=beq_iff_eq.2 hy0;have e1:(y != 0)=false:=by rw [hy0];rfl
     clear hy0;go_wp2_with fail;go_roundw
     case rel=>exact ⟨j+1,by go_num,by omega,HX2,xL3,bw3⟩
     case measure=>simp [intOf];omega
    have hxy:x=y:=HXZ.out y hy0 HE.out;have e0:(y == 0)=false:=beq_eq_false_iff_ne.2 hy0;have e1:(y != 0)=true:=bne_iff_ne.2 hy0;clear hy0;go_wp2;go_ret;exact ⟨by rw [hxy];rfl,bw3⟩
  have hi1:((i:Int) < (n:Int))=False:=by simp;omega
  have hx0:x=0:=cE HX.out (by rw [HLN.out];exact hge);go_wp2;go_ret;exact ⟨by rw [hx0];rfl,hb⟩
theorem pO (w:World) (A:Option Addr) (n c:Nat) (B:Option Addr) (p d:Nat) (C:Option Addr) (q e:Nat) (L:ay) (k:Nat) (h:LkS k w A n c B p d C q e L) (hk:k≤10000000) (hn:n≤8) (hq:q≤2) (i:Nat) (hi:i < q) (b:bq) (hbi:L.drivers[i]?=some b) (x:Int) (hx:ar n (L.drivers.take i) b=x):Calls Tryz.prog 55 #[.agg #[ah L.name,.slice A n c,.slice B p d,.slice C q e],.int .i64 (i:Nat)] w (ax w (.int .i64 x)):=by
 have hqc:=h.drivers.2.1;have hlb:=h.bodies.1;obtain ⟨g,o,b9,e1,hg,_,hb9,hB⟩:=h.drivers.at_ hi;subst e1;obtain rfl:b9=b:=Option.some.inj (hb9.symm.trans hbi);obtain ⟨c0,c1,hnm⟩:=hB;have HX:=Qh hx;have H:=Qh h;have HN:=Qh hnm;have hin:((i:Int) < (q:Int)):=by omega
 obtain ⟨v,hv⟩:∃ v,aW b9.name=v:=⟨_,rfl⟩;have HV:=Qh hv;have hwg:¬ g=w.heap.size:=by omega
 clear hx h hnm hv hb9 hlb hbi;go_in;go_wp2_with fail;(with_reducible refine (g7 _ b9.name HN.out v HV.out).mono ?_);rintro e' w1 ⟨rfl,hb1⟩;have q1:=hb1.q2;have xL:Blk w1 w.heap.size 36 #[ah L.name,.slice A n c,.slice B p d,.slice (some ⟨g,o,none⟩) q e]:=((aj _ _ _ (by simp)).alloc _).below hb1 (by simp <;> omega);have x1:Blk w1 (w.heap.size+1) 81 #[ah b9.name,.int .i64 b9.body]:=(aj _ _ _ (by simp)).below hb1 (by simp);clear hb1;cases v
 ·have h5:x=5:=HX.out.symm.trans (if_pos HV.out)
  go_wp2;go_ret;exact ⟨by rw [h5];rfl,q1⟩
 go_wp2_with fail;go_loopw [6] (fun jv wr=>∃ j:Nat,jv=.int .i64 (j:Nat)∧j≤i∧Hid (twN ((L.drivers.take j).map bq.name) b9.name=false)∧Below w1.heap.size w1 wr) (fun jv _=>i - (intOf jv).toNat)
 case atStart=>exact ⟨0,rfl,Nat.zero_le _,Qh rfl,ae w1⟩
 case round =>
  obtain ⟨j,rfl,hj,HT,hb2⟩:=hrel;rename World=>w2;have xL2:=xL.below hb2 xL.lt;have x2:=x1.below hb2 x1.lt;have bw2:=q1.trans (hb2.mono q1.size);rcases Nat.lt_or_ge j i with hjl | hjg
  ·have hj1:((j:Int) < (i:Int))=True:=by simp;omega
   have hjn:j < q:=by omega
   have hjn2:((j:Int) < (q:Int)):=by omega
   obtain ⟨a,ha,d0,_,_⟩:=(H.out.drivers.dr bw2).rowAt hjn;have cL3:=xL2.cell 3;have z0:=x2.cell 0;have htl:=be b9.name;by_cases heq:a.name=b9.name
   ·have h6:x=6:=by
     rw [← HX.out];unfold ar;rw [HV.out,if_neg (by decide),if_pos (cZ ha hjl heq)]
    rw [heq] at d0;have hee:(b9.name == b9.name)=true:=by simp
    clear heq ha;go_wp2_with fail;go_quiet (fail);go_wp2;go_ret;exact ⟨by rw [h6];rfl,aa bw2 _⟩
   have hta:=be a.name;have HT2:=Qh (cF ha HT.out heq);have hee:(a.name == b9.name)=false:=beq_eq_false_iff_ne.2 heq;clear heq ha HT;go_wp2_with fail;go_quiet (fail);go_wp2_with fail;go_roundw
   case rel=>exact ⟨j+1,by go_num,by omega,HT2,aa hb2 _⟩
   case measure=>simp [intOf];omega
  have hj1:((j:Int) < (i:Int))=False:=by simp;omega
  obtain rfl:j=i:=by omega
  have cL1:=xL2.cell 1;have z1:=x2.cell 1;obtain ⟨v1,hv1⟩:∃ v,inI b9.body n=v:=⟨_,rfl⟩;have HV1:=Qh hv1;clear hv1;go_wp2_with fail;(with_reducible refine (iJ _ b9.body n v1 HV1.out).mono ?_);rintro e' w3 ⟨rfl,hb3⟩;have bw3:=bw2.trans (hb3.mono bw2.size);have xL3:=xL2.below hb3 xL2.lt;have x3:=x2.below hb3 x2.lt;clear cL1 z1;cases v1
  ·have h9:x=9:=by
    rw [← HX.out];unfold ar;rw [HV.out,if_neg (by decide),HT.out,if_neg (by decide),if_pos HV1.out]
   go_wp2;go_ret;exact ⟨by rw [h9];rfl,bw3⟩
  have z1:=x3.cell 1;by_cases hb0:b9.body=0
  ·have e0:(b9.body == 0)=true:=beq_iff_eq.2 hb0
   have h7:x=7:=by
    rw [← HX.out];unfold ar;rw [HV.out,if_neg (by decide),HT.out,if_neg (by decide),HV1.out,if_neg (by decide),if_pos hb0]
   clear hb0;go_wp2;go_ret;exact ⟨by rw [h7];rfl,bw3⟩
  have e0:(b9.body == 0)=false:=beq_eq_false_iff_ne.2 hb0;have HB0:=Qh hb0;clear hb0;go_wp2_with fail;clear z1;go_loopw [7] (fun jv wr=>∃ r:Nat,jv=.int .i64 (r:Nat)∧r≤j∧Hid (((L.drivers.take r).any fun p=>p.body == b9.body)=false)∧Below w3.heap.size w3 wr) (fun jv _=>j - (intOf jv).toNat)
  case atStart=>exact ⟨0,rfl,Nat.zero_le _,Qh rfl,ae w3⟩
  case round =>
   obtain ⟨r,rfl,hr,HR,hb4⟩:=hrel;rename World=>w4;have x4:=x3.below hb4 x3.lt;have xL4:=xL3.below hb4 xL3.lt;have bw4:=bw3.trans (hb4.mono bw3.size);rcases Nat.lt_or_ge r j with hrl | hrg
   ·have hr1:((r:Int) < (j:Int))=True:=by simp;omega
    have hrn:r < q:=by omega
    have hrn2:((r:Int) < (q:Int)):=by omega
    obtain ⟨a,ha,d0,d1,_⟩:=(H.out.drivers.dr bw4).rowAt hrn;have ht4:L.drivers.take (r+1)=L.drivers.take r ++ [a]:=by rw [List.take_add_one,ha];rfl
    have cL3:=xL4.cell 3;have z1:=x4.cell 1;by_cases heq:a.body=b9.body
    ·have h6:x=6:=by
      rw [← HX.out];unfold ar;rw [HV.out,if_neg (by decide),HT.out,if_neg (by decide),HV1.out,if_neg (by decide),if_neg HB0.out,if_pos];rw [List.any_eq_true];exact ⟨a,List.mem_of_getElem? (i:=r) (by rw [List.getElem?_take,if_pos hrl];exact ha),by simpa using heq⟩
     have hee:(a.body == b9.body)=true:=beq_iff_eq.2 heq;clear heq ha ht4;go_wp2_with fail;go_quiet (fail);go_wp2;go_ret;exact ⟨by rw [h6];rfl,aa bw4 _⟩
    ·have HR2:Hid (((L.drivers.take (r+1)).any fun p=>p.body == b9.body)=false):=Qh (by
      rw [ht4,List.any_append,HR.out]
      simpa using heq)
     have hee:(a.body == b9.body)=false:=beq_eq_false_iff_ne.2 heq;clear heq ha ht4 HR;go_wp2_with fail;go_quiet (fail);go_wp2_with fail;go_roundw
     case rel=>exact ⟨r+1,by go_num,by omega,HR2,aa hb4 _⟩
     case measure=>simp [intOf];omega
   have hr1:((r:Int) < (j:Int))=False:=by simp;omega
   obtain rfl:r=j:=by omega
   have h0:x=0:=by
    rw [← HX.out];unfold ar;rw [HV.out,if_neg (by decide),HT.out,if_neg (by decide),HV1.out,if_neg (by decide),if_neg HB0.out,HR.out];rfl
   go_wp2;go_ret;exact ⟨by rw [h0];rfl,bw4⟩
theorem fT {i:Int}{n:Nat}(h:inI i n=true):∃ m:Nat,i=(m:Int)∧m < n:=by
 unfold inI at h;simp only [Bool.and_eq_true,decide_eq_true_eq] at h;exact ⟨i.toNat,by omega,by omega⟩
theorem sV (w:World) (k:Nat) (hk:k≤10000000) (hk1:0 < k) (nm nm2:List UInt8) (b1:Bool) (A1:Option Addr) (n1 c1:Nat) (D1:Option Addr) (m1 e1:Nat) (r1:RD) (h1:QD w b1 A1 n1 c1 D1 m1 e1 r1 k) (b2:Bool) (A2:Option Addr) (n2 c2:Nat) (D2:Option Addr) (m2 e2:Nat) (r2:RD) (h2:QD w b2 A2 n2 c2 D2 m2 e2 r2 k) (b3:Bool) (A3:Option Addr) (n3 c3:Nat) (D3:Option Addr) (m3 e3:Nat) (r3:RD) (h3:QD w b3 A3 n3 c3 D3 m3 e3 r3 k) (b4:Bool) (A4:Option Addr) (n4 c4:Nat) (D4:Option Addr) (m4 e4:Nat) (r4:RD) (h4:QD w b4 A4 n4 c4 D4 m4 e4 r4 k) (v:Bool) (hv:(decide (r1.q=r3.q) && decide (r2.q=r4.q))=v):Calls Tryz.prog 95 #[.agg #[ah nm,.bool b1,.slice A1 n1 c1,.slice D1 m1 e1,.bool b2,.slice A2 n2 c2,.slice D2 m2 e2],.agg #[ah nm2,.bool b3,.slice A3 n3 c3,.slice D3 m3 e3,.bool b4,.slice A4 n4 c4,.slice D4 m4 e4]] w (ax w (.bool v)):=by
 obtain ⟨s1,hs1⟩:∃ s,gf r1.q r3.q=s:=⟨_,rfl⟩;obtain ⟨s2,hs2⟩:∃ s,gf r2.q r4.q=s:=⟨_,rfl⟩;have HS1:=Qh hs1;have HS2:=Qh hs2;have HV:=Qh hv;have H1:=Qh h1;have H2:=Qh h2;have H3:=Qh h3;have H4:=Qh h4;clear hs1 hs2 hv h1 h2 h3 h4;go_in;go_wp2_with fail;(with_reducible refine (ma _ b1 A1 n1 c1 D1 m1 e1 r1.q k ?_ b3 A3 n3 c3 D3 m3 e3 r3.q k ?_ s1 HS1.out hk1 hk hk1 hk).mono ?_);(exact (H1.out.qz).belw (((ae w).alloc Qr _).alloc (by simp) _));(exact (H3.out.qz).belw (((ae w).alloc Qr _).alloc (by simp) _));rintro e' w1 ⟨rfl,hb1⟩;have q1:=hb1.q2;have xa:Blk w1 w.heap.size 67 #[ah nm,.bool b1,.slice A1 n1 c1,.slice D1 m1 e1,.bool b2,.slice A2 n2 c2,.slice D2 m2 e2]:=((aj _ _ _ (by simp)).alloc _).below hb1 (by simp <;> omega);have xb:Blk w1 (w.heap.size+1) 67 #[ah nm2,.bool b3,.slice A3 n3 c3,.slice D3 m3 e3,.bool b4,.slice A4 n4 c4,.slice D4 m4 e4]:=(aj _ _ _ (by simp)).below hb1 (by simp);clear hb1;by_cases hs1:s1=0
 ·have es:(s1 == 0)=true:=beq_iff_eq.2 hs1
  have hqx:r1.q=r3.q:=bo.1 (HS1.out.trans hs1);have HQX:=Qh hqx;have ca4:=xa.cell 4;have ca5:=xa.cell 5;have ca6:=xa.cell 6;have cb4:=xb.cell 4;have cb5:=xb.cell 5;have cb6:=xb.cell 6;clear hs1 hqx;go_wp2_with fail;(with_reducible refine (ma _ b2 A2 n2 c2 D2 m2 e2 r2.q k ?_ b4 A4 n4 c4 D4 m4 e4 r4.q k ?_ s2 HS2.out hk1 hk hk1 hk).mono ?_);(exact (H2.out.qz).belw q1);(exact (H4.out.qz).belw q1);rintro e' w2 ⟨rfl,hb2⟩;have q2:=q1.trans (hb2.mono q1.size);clear ca4 ca5 ca6 cb4 cb5 cb6;by_cases hs2:s2=0
  ·have es2:(s2 == 0)=true:=beq_iff_eq.2 hs2
   have hqy:r2.q=r4.q:=bo.1 (HS2.out.trans hs2);have hv1:v=true:=HV.out.symm.trans (by rw [decide_eq_true HQX.out,decide_eq_true hqy];rfl);clear hs2 hqy;go_wp2;go_ret;exact ⟨by rw [hv1];rfl,q2⟩
  have es2:(s2 == 0)=false:=beq_eq_false_iff_ne.2 hs2;have hv0:v=false:=HV.out.symm.trans (by rw [decide_eq_false (fun e=>hs2 (HS2.out.symm.trans (bo.2 e)))];simp);clear hs2;go_wp2;go_ret;exact ⟨by rw [hv0];rfl,q2⟩
 have es:(s1 == 0)=false:=beq_eq_false_iff_ne.2 hs1;have hv0:v=false:=HV.out.symm.trans (by rw [decide_eq_false (fun e=>hs1 (HS1.out.symm.trans (bo.2 e)))];rfl);clear hs1;go_wp2;go_ret;exact ⟨by rw [hv0];rfl,q1⟩
theorem ri (w:World) (A:Option Addr) (n c:Nat) (B:Option Addr) (p d:Nat) (C:Option Addr) (q e:Nat) (L:ay) (k:Nat) (h:LkS k w A n c B p d C q e L) (hk:k≤10000000) (hk1:0 < k) (hn:n≤8) (hp:p≤16) (i:Nat) (hi:i < p) (j:bi) (hji:L.joints[i]?=some j) (x:Int) (hx:aG L (L.joints.take i) j=x):Calls Tryz.prog 54 #[.agg #[ah L.name,.slice A n c,.slice B p d,.slice C q e],.int .i64 (i:Nat)] w (ax w (.int .i64 x)):=by
 have hpc:=h.joints.2.1;obtain ⟨g,o,j9,e1,hg,_,hj9,hB⟩:=h.joints.at_ hi;subst e1;obtain rfl:j9=j:=Option.some.inj (hj9.symm.trans hji);obtain ⟨c0,c1,c2,c3,c4,c5,c6,hnm⟩:=hB;have HX:=Qh hx;have H:=Qh h;have HL:=Qh h.bodies.1;have HN:=Qh hnm;have hin:((i:Int) < (p:Int)):=by omega
 obtain ⟨v,hv⟩:∃ v,aW j9.name=v:=⟨_,rfl⟩;have HV:=Qh hv;have hwg:¬ g=w.heap.size:=by omega
 clear hx h hnm hv hj9 hji;go_in;go_wp2_with fail;(with_reducible refine (g7 _ j9.name HN.out v HV.out).mono ?_);rintro e' w1 ⟨rfl,hb1⟩;have q1:=hb1.q2;have xL:Blk w1 w.heap.size 36 #[ah L.name,.slice A n c,.slice (some ⟨g,o,none⟩) p d,.slice C q e]:=((aj _ _ _ (by simp)).alloc _).below hb1 (by simp <;> omega);have x1:Blk w1 (w.heap.size+1) 79 #[ah j9.name,.int .i64 j9.kind,.int .i64 j9.a,.int .i64 j9.point,.int .i64 j9.b,.int .i64 j9.on,.int .i64 j9.to_]:=(aj _ _ _ (by simp)).below hb1 (by simp);clear hb1 c0 c1 c2 c3 c4 c5 c6;cases v
 ·have h5:x=5:=HX.out.symm.trans (if_pos HV.out)
  go_wp2;go_ret;exact ⟨by rw [h5];rfl,q1⟩
 go_wp2_with fail;go_loopw [6] (fun jv wr=>∃ r:Nat,jv=.int .i64 (r:Nat)∧r≤i∧Hid (twN ((L.joints.take r).map bi.name) j9.name=false)∧Below w1.heap.size w1 wr) (fun jv _=>i - (intOf jv).toNat)
 case atStart=>exact ⟨0,rfl,Nat.zero_le _,Qh rfl,ae w1⟩
 case round =>
  obtain ⟨r,rfl,hr,HT,hb2⟩:=hrel;rename World=>w2;have xL2:=xL.below hb2 xL.lt;have x2:=x1.below hb2 x1.lt;have bw2:=q1.trans (hb2.mono q1.size);rcases Nat.lt_or_ge r i with hrl | hrg
  ·have hr1:((r:Int) < (i:Int))=True:=by simp;omega
   have hrn:r < p:=by omega
   have hrn2:((r:Int) < (p:Int)):=by omega
   obtain ⟨a,ha,d0,_⟩:=(H.out.joints.jt bw2).rowAt hrn;have cL2:=xL2.cell 2;have z0:=x2.cell 0;have htl:=be j9.name;by_cases heq:a.name=j9.name
   ·have h6:x=6:=by
     rw [← HX.out];unfold aG;rw [HV.out,if_neg (by decide),if_pos (cZ ha hrl heq)]
    rw [heq] at d0;have hee:(j9.name == j9.name)=true:=by simp
    clear heq ha;go_wp2_with fail;go_quiet (fail);go_wp2;go_ret;exact ⟨by rw [h6];rfl,aa bw2 _⟩
   have hta:=be a.name;have HT2:=Qh (cF ha HT.out heq);have hee:(a.name == j9.name)=false:=beq_eq_false_iff_ne.2 heq;clear heq ha HT;go_wp2_with fail;go_quiet (fail);go_wp2_with fail;go_roundw
   case rel=>exact ⟨r+1,by go_num,by omega,HT2,aa hb2 _⟩
   case measure=>simp [intOf];omega
  have hr1:((r:Int) < (i:Int))=False:=by simp;omega
  obtain rfl:r=i:=by omega
  have hxE:aN L j9=x:=by
   rw [← HX.out];unfold aG;rw [HV.out,if_neg (by decide),HT.out,if_neg (by decide)]
  have HE:=Qh hxE;clear hxE;by_cases hkk:j9.kind≠0∧j9.kind≠1
  ·have e0:(j9.kind == 0)=false:=beq_eq_false_iff_ne.2 hkk.1
   have e1:(j9.kind == 1)=false:=beq_eq_false_iff_ne.2 hkk.2;have e2:(j9.kind != 0)=true:=bne_iff_ne.2 hkk.1;have e3:(j9.kind != 1)=true:=bne_iff_ne.2 hkk.2;have h7:x=7:=by rw [← HE.out];exact if_pos hkk
   have z1:=x2.cell 1;clear hkk;go_wp2;go_ret;exact ⟨by rw [h7];rfl,bw2⟩
  have HKK:=Qh hkk;by_cases hk0:j9.kind=0
  ·have e0:(j9.kind == 0)=true:=beq_iff_eq.2 hk0
   have e2:(j9.kind != 0)=false:=by rw [hk0];rfl
   have HK0:=Qh hk0;clear hk0 hkk;have z1:=x2.cell 1;have z2:=x2.cell 2;have cL1:=xL2.cell 1;obtain ⟨v1,hv1⟩:∃ v,inI j9.a n=v:=⟨_,rfl⟩;obtain ⟨v2,hv2⟩:∃ v,inI j9.b n=v:=⟨_,rfl⟩;have HV1:=Qh hv1;have HV2:=Qh hv2;clear hv1 hv2;go_wp2_with fail;(with_reducible refine (iJ _ j9.a n v1 HV1.out).mono ?_);rintro e' w3 ⟨rfl,hb3⟩;have bw3:=bw2.trans (hb3.mono bw2.size);have xL3:=xL2.below hb3 xL2.lt;have x3:=x2.below hb3 x2.lt;clear z1 z2 cL1 hb3;cases v1
   ·have h9:x=9:=by rw [← HE.out];unfold aN;rw [if_neg HKK.out,HL.out,if_pos HV1.out]
    go_wp2;go_ret;exact ⟨by rw [h9];rfl,bw3⟩
   have z4:=x3.cell 4;have cL1:=xL3.cell 1;go_wp2_with fail;(with_reducible refine (iJ _ j9.b n v2 HV2.out).mono ?_);rintro e' w4 ⟨rfl,hb4⟩;have bw4:=bw3.trans (hb4.mono bw3.size);have xL4:=xL3.below hb4 xL3.lt;have x4:=x3.below hb4 x3.lt;clear z4 cL1 hb4;cases v2
   ·have h9:x=9:=by rw [← HE.out];unfold aN;rw [if_neg HKK.out,HL.out,if_neg (by rw [HV1.out];decide),if_pos HV2.out]
    go_wp2;go_ret;exact ⟨by rw [h9];rfl,bw4⟩
   obtain ⟨an,han,hal⟩:=fT HV1.out;obtain ⟨bn,hbn,hbl⟩:=fT HV2.out;have HA:=Qh han;have HBN:=Qh hbn;have cL1:=xL4.cell 1;have z2:=x4.cell 2;have z4:=x4.cell 4;rw [han] at z2;rw [hbn] at z4;clear han hbn;by_cases hab:an=bn
   ·have h13:x=13:=by
     rw [← HE.out];unfold aN;rw [if_neg HKK.out,HL.out,if_neg (by rw [HV1.out];decide),if_neg (by rw [HV2.out];decide),if_pos (by rw [HA.out,HBN.out,hab])]
    subst hab;go_wp2;go_ret;exact ⟨by rw [h13];rfl,bw4⟩
   have eab:((an:Int) == (bn:Int))=false:=beq_eq_false_iff_ne.2 (by omega);obtain ⟨g2,o2,bb,e1',hg2,hnc,hbb,hBb⟩:=(H.out.bodies.bd bw4).at_ hbl;subst e1';obtain ⟨ab,hab',hAb⟩:=(H.out.bodies.bd bw4).rowAt hal;obtain ⟨Ab,nb,cb,k0,k1,hMb,_⟩:=hBb;obtain ⟨Aa,na,ca,l0,l1,hMa,_⟩:=hAb;have hpa:bM L j9.a=ab.pts:=by unfold bM;rw [HA.out];show (match L.bodies[an]? with | some b=>b.pts | none=>[])=_;rw [hab']
   have hpb:bM L j9.b=bb.pts:=by unfold bM;rw [HBN.out];show (match L.bodies[bn]? with | some b=>b.pts | none=>[])=_;rw [hbb]
   have HLA:=Qh hMa.1;have HLB:=Qh hMb.1;have hbn2:((bn:Nat):Int) < ((n:Nat):Int):=by omega
   have han2:((an:Nat):Int) < ((n:Nat):Int):=by omega
   obtain ⟨v3,hv3⟩:∃ v,inI j9.point na=v:=⟨_,rfl⟩;obtain ⟨v4,hv4⟩:∃ v,inI j9.on nb=v:=⟨_,rfl⟩;have HV3:=Qh hv3;have HV4:=Qh hv4;have HMB:=Qh hMb;have HPA:=Qh hpa;have HPB:=Qh hpb;have HAB:=Qh (show ¬ j9.a=j9.b by rw [HA.out,HBN.out];omega);have z3:=x4.cell 3;clear hv3 hv4 hMb hMa hpa hpb hbb hab' hab;go_wp2_with fail;go_quiet (fail);go_wp2_with fail;(with_reducible refine (iJ _ j9.point na v3 HV3.out).mono ?_);rintro e' w5 ⟨rfl,hb5⟩;have q45:Below w4.heap.size w4 w5:=af (aa (ae w4) _) hb5;have bw5:=bw4.trans (q45.mono bw4.size);have x5:=x4.below q45 x4.lt;clear z2 z3 z4 cL1 k0 k1 l0 l1 hb5;cases v3
   ·have h9:x=9:=by
     rw [← HE.out];unfold aN;rw [if_neg HKK.out,HL.out,if_neg (by rw [HV1.out];decide),if_neg (by rw [HV2.out];decide),if_neg HAB.out,HPA.out,HLA.out,if_pos HV3.out]
    go_wp2;go_ret;exact ⟨by rw [h9];rfl,bw5⟩
   have z5:=x5.cell 5;go_wp2_with fail;(with_reducible refine (iJ _ j9.on nb v4 HV4.out).mono ?_);rintro e' w6 ⟨rfl,hb6⟩;have q46:=q45.trans (hb6.mono q45.size);have bw6:=bw5.trans (hb6.mono bw5.size);have x6:=x5.below hb6 x5.lt;clear z5 hb6;cases v4
   ·have h9:x=9:=by
     rw [← HE.out];unfold aN;rw [if_neg HKK.out,HL.out,if_neg (by rw [HV1.out];decide),if_neg (by rw [HV2.out];decide),if_neg HAB.out,HPA.out,HLA.out,if_neg (by rw [HV3.out];decide),HPB.out,HLB.out,if_pos HV4.out]
    go_wp2;go_ret;exact ⟨by rw [h9];rfl,bw6⟩
   have hX2:x=(if j9.kind=0 then (if j9.to_=0 then 0 else 2) else if inI j9.to_ nb=false then 9 else if cM bb.pts j9.on j9.to_=true then 8 else 0):=by
    rw [← HE.out];unfold aN;rw [if_neg HKK.out,HL.out,if_neg (by rw [HV1.out];decide),if_neg (by rw [HV2.out];decide),if_neg HAB.out,HPA.out,HLA.out,if_neg (by rw [HV3.out];decide),HPB.out,HLB.out,if_neg (by rw [HV4.out];decide)]
   have HX2:=Qh hX2;clear hX2;have z1:=x6.cell 1;have z6:=x6.cell 6;by_cases hto:j9.to_=0
   ·have hx:x=0:=by rw [HX2.out,if_pos HK0.out,if_pos hto]
    have t0:(j9.to_ == 0)=true:=beq_iff_eq.2 hto;have t1:(j9.to_ != 0)=false:=by rw [hto];rfl
    clear hto;go_wp2;go_ret;exact ⟨by rw [hx];rfl,bw6⟩
   have hx:x=2:=by rw [HX2.out,if_pos HK0.out,if_neg hto]
   have t0:(j9.to_ == 0)=false:=beq_eq_false_iff_ne.2 hto;have t1:(j9.to_ != 0)=true:=bne_iff_ne.2 hto;clear hto;go_wp2;go_ret;exact ⟨by rw [hx];rfl,bw6⟩
  have e0:(j9.kind == 0)=false:=beq_eq_false_iff_ne.2 hk0;have e2:(j9.kind != 0)=true:=bne_iff_ne.2 hk0;have hk2:j9.kind=1:=by omega
  have e1:(j9.kind == 1)=true:=beq_iff_eq.2 hk2;have e3:(j9.kind != 1)=false:=by rw [hk2];rfl
  have HK0:=Qh hk0;clear hk0 hkk hk2;have z1:=x2.cell 1;have z2:=x2.cell 2;have cL1:=xL2.cell 1;obtain ⟨v1,hv1⟩:∃ v,inI j9.a n=v:=⟨_,rfl⟩;obtain ⟨v2,hv2⟩:∃ v,inI j9.b n=v:=⟨_,rfl⟩;have HV1:=Qh hv1;have HV2:=Qh hv2;clear hv1 hv2;go_wp2_with fail;(with_reducible refine (iJ _ j9.a n v1 HV1.out).mono ?_);rintro e' w3 ⟨rfl,hb3⟩;have bw3:=bw2.trans (hb3.mono bw2.size);have xL3:=xL2.below hb3 xL2.lt;have x3:=x2.below hb3 x2.lt;clear z1 z2 cL1 hb3;cases v1
  ·have h9:x=9:=by rw [← HE.out];unfold aN;rw [if_neg HKK.out,HL.out,if_pos HV1.out]
   go_wp2;go_ret;exact ⟨by rw [h9];rfl,bw3⟩
  have z4:=x3.cell 4;have cL1:=xL3.cell 1;go_wp2_with fail;(with_reducible refine (iJ _ j9.b n v2 HV2.out).mono ?_);rintro e' w4 ⟨rfl,hb4⟩;have bw4:=bw3.trans (hb4.mono bw3.size);have xL4:=xL3.below hb4 xL3.lt;have x4:=x3.below hb4 x3.lt;clear z4 cL1 hb4;cases v2
  ·have h9:x=9:=by rw [← HE.out];unfold aN;rw [if_neg HKK.out,HL.out,if_neg (by rw [HV1.out];decide),if_pos HV2.out]
   go_wp2;go_ret;exact ⟨by rw [h9];rfl,bw4⟩
  obtain ⟨an,han,hal⟩:=fT HV1.out;obtain ⟨bn,hbn,hbl⟩:=fT HV2.out;have HA:=Qh han;have HBN:=Qh hbn;have cL1:=xL4.cell 1;have z2:=x4.cell 2;have z4:=x4.cell 4;rw [han] at z2;rw [hbn] at z4;clear han hbn;by_cases hab:an=bn
  ·have h13:x=13:=by
    rw [← HE.out];unfold aN;rw [if_neg HKK.out,HL.out,if_neg (by rw [HV1.out];decide),if_neg (by rw [HV2.out];decide),if_pos (by rw [HA.out,HBN.out,hab])]
   subst hab;go_wp2;go_ret;exact ⟨by rw [h13];rfl,bw4⟩
  have eab:((an:Int) == (bn:Int))=false:=beq_eq_false_iff_ne.2 (by omega);obtain ⟨g2,o2,bb,e1',hg2,hnc,hbb,hBb⟩:=(H.out.bodies.bd bw4).at_ hbl;subst e1';obtain ⟨ab,hab',hAb⟩:=(H.out.bodies.bd bw4).rowAt hal;obtain ⟨Ab,nb,cb,k0,k1,hMb,_⟩:=hBb;obtain ⟨Aa,na,ca,l0,l1,hMa,_⟩:=hAb;have hpa:bM L j9.a=ab.pts:=by unfold bM;rw [HA.out];show (match L.bodies[an]? with | some b=>b.pts | none=>[])=_;rw [hab']
  have hpb:bM L j9.b=bb.pts:=by unfold bM;rw [HBN.out];show (match L.bodies[bn]? with | some b=>b.pts | none=>[])=_;rw [hbb]
  have HLA:=Qh hMa.1;have HLB:=Qh hMb.1;have hbn2:((bn:Nat):Int) < ((n:Nat):Int):=by omega
  have han2:((an:Nat):Int) < ((n:Nat):Int):=by omega
  obtain ⟨v3,hv3⟩:∃ v,inI j9.point na=v:=⟨_,rfl⟩;obtain ⟨v4,hv4⟩:∃ v,inI j9.on nb=v:=⟨_,rfl⟩;have HV3:=Qh hv3;have HV4:=Qh hv4;have HMB:=Qh hMb;have HPA:=Qh hpa;have HPB:=Qh hpb;have HAB:=Qh (show ¬ j9.a=j9.b by rw [HA.out,HBN.out];omega);have z3:=x4.cell 3;clear hv3 hv4 hMb hMa hpa hpb hbb hab' hab;go_wp2_with fail;go_quiet (fail);go_wp2_with fail;(with_reducible refine (iJ _ j9.point na v3 HV3.out).mono ?_);rintro e' w5 ⟨rfl,hb5⟩;have q45:Below w4.heap.size w4 w5:=af (aa (ae w4) _) hb5;have bw5:=bw4.trans (q45.mono bw4.size);have x5:=x4.below q45 x4.lt;clear z2 z3 z4 cL1 k0 k1 l0 l1 hb5;cases v3
  ·have h9:x=9:=by
    rw [← HE.out];unfold aN;rw [if_neg HKK.out,HL.out,if_neg (by rw [HV1.out];decide),if_neg (by rw [HV2.out];decide),if_neg HAB.out,HPA.out,HLA.out,if_pos HV3.out]
   go_wp2;go_ret;exact ⟨by rw [h9];rfl,bw5⟩
  have z5:=x5.cell 5;go_wp2_with fail;(with_reducible refine (iJ _ j9.on nb v4 HV4.out).mono ?_);rintro e' w6 ⟨rfl,hb6⟩;have q46:=q45.trans (hb6.mono q45.size);have bw6:=bw5.trans (hb6.mono bw5.size);have x6:=x5.below hb6 x5.lt;clear z5 hb6;cases v4
  ·have h9:x=9:=by
    rw [← HE.out];unfold aN;rw [if_neg HKK.out,HL.out,if_neg (by rw [HV1.out];decide),if_neg (by rw [HV2.out];decide),if_neg HAB.out,HPA.out,HLA.out,if_neg (by rw [HV3.out];decide),HPB.out,HLB.out,if_pos HV4.out]
   go_wp2;go_ret;exact ⟨by rw [h9];rfl,bw6⟩
  have hX2:x=(if j9.kind=0 then (if j9.to_=0 then 0 else 2) else if inI j9.to_ nb=false then 9 else if cM bb.pts j9.on j9.to_=true then 8 else 0):=by
   rw [← HE.out];unfold aN;rw [if_neg HKK.out,HL.out,if_neg (by rw [HV1.out];decide),if_neg (by rw [HV2.out];decide),if_neg HAB.out,HPA.out,HLA.out,if_neg (by rw [HV3.out];decide),HPB.out,HLB.out,if_neg (by rw [HV4.out];decide)]
  have HX2:=Qh hX2;clear hX2;have z1:=x6.cell 1;have z6:=x6.cell 6;obtain ⟨v5,hv5⟩:∃ v,inI j9.to_ nb=v:=⟨_,rfl⟩;have HV5:=Qh hv5;clear hv5;go_wp2_with fail;(with_reducible refine (iJ _ j9.to_ nb v5 HV5.out).mono ?_);rintro e' w7 ⟨rfl,hb7⟩;have q47:=q46.trans (hb7.mono q46.size);have bw7:=bw6.trans (hb7.mono bw6.size);have x7:=x6.below hb7 x6.lt;clear z1 z6 hb7;cases v5
  ·have hx:x=9:=by rw [HX2.out,if_neg HK0.out,if_pos HV5.out]
   go_wp2;go_ret;exact ⟨by rw [hx];rfl,bw7⟩
  obtain ⟨on,hon,honl⟩:=fT HV4.out;obtain ⟨tn,htn,htnl⟩:=fT HV5.out;have z5:w7.cell? ⟨w.heap.size+1,5,none⟩=some (.int .i64 (on:Nat)):=by have:=x7.cell 5;rw [hon] at this;exact this
  have z6:w7.cell? ⟨w.heap.size+1,6,none⟩=some (.int .i64 (tn:Nat)):=by have:=x7.cell 6;rw [htn] at this;exact this
  have hlx:w.heap.size+1 < w7.heap.size:=x7.lt;obtain ⟨g3,o3,m,e2',hg3,hnc3,hm,hM⟩:=(HMB.out.mk_ q47).at_ honl;subst e2';obtain ⟨m',hm',hM'⟩:=(HMB.out.mk_ q47).rowAt htnl;obtain ⟨d0,⟨b1,A1,n1,c1,D1,m1,f1,d1,d2,d3,hQ1⟩,⟨b2,A2,n2,c2,D2,m2,f2,d4,d5,d6,hQ2⟩,_⟩:=hM;obtain ⟨y0,⟨b3,A3,n3,c3,D3,m3,f3,y1,y2,y3,hQ3⟩,⟨b4,A4,n4,c4,D4,m4,f4,y4,y5,y6,hQ4⟩,_⟩:=hM';have d2:w7.cell? ⟨g3,o3+on * 7+2,none⟩=some (.slice A1 n1 c1):=d2;have d3:w7.cell? ⟨g3,o3+on * 7+3,none⟩=some (.slice D1 m1 f1):=d3;have d5:w7.cell? ⟨g3,o3+on * 7+5,none⟩=some (.slice A2 n2 c2):=d5;have d6:w7.cell? ⟨g3,o3+on * 7+6,none⟩=some (.slice D2 m2 f2):=d6;have y2:w7.cell? ⟨g3,o3+tn * 7+2,none⟩=some (.slice A3 n3 c3):=y2;have y3:w7.cell? ⟨g3,o3+tn * 7+3,none⟩=some (.slice D3 m3 f3):=y3;have y5:w7.cell? ⟨g3,o3+tn * 7+5,none⟩=some (.slice A4 n4 c4):=y5;have y6:w7.cell? ⟨g3,o3+tn * 7+6,none⟩=some (.slice D4 m4 f4):=y6
  have hpe:cM bb.pts j9.on j9.to_=(decide (m.x.q=m'.x.q) && decide (m.y.q=m'.y.q)):=by
   unfold cM;rw [hon,htn];show (match bb.pts[on]?,bb.pts[tn]? with | some p,some q=>decide (p.x.q=q.x.q) && decide (p.y.q=q.y.q) | _,_=>false)=_;rw [hm,hm']
  have HPE:=Qh hpe;have HQ1:=Qh hQ1;have HQ2:=Qh hQ2;have HQ3:=Qh hQ3;have HQ4:=Qh hQ4;have hon2:((on:Nat):Int) < ((nb:Nat):Int):=by omega
  have htn2:((tn:Nat):Int) < ((nb:Nat):Int):=by omega
  obtain ⟨vs,hvs⟩:∃ v,(decide (m.x.q=m'.x.q) && decide (m.y.q=m'.y.q))=v:=⟨_,rfl⟩;have HVS:=Qh hvs;have hx8:x=if vs=true then 8 else 0:=by rw [HX2.out,if_neg HK0.out,if_neg (by rw [HV5.out];decide),HPE.out,hvs]
  have HX8:=Qh hx8;clear hpe hQ1 hQ2 hQ3 hQ4 hm hm' hon htn hvs hx8;go_wp2_with fail
  go_region_held3 (fun w'=>Sees w7.heap.size w7 w') (first | with_reducible exact Sees.of Qr (by assumption) | with_reducible exact Sees.of Qr (ae _).drew | exact Sees.of Qr (aa (ae _) 1) | exact Sees.of Qr (aa (by assumption) _))
   (first
    | (go_at_call 95;(with_reducible refine (sV _ k hk hk1 m.name m'.name b1 A1 n1 c1 D1 m1 f1 m.x ?_ b2 A2 n2 c2 D2 m2 f2 m.y ?_ b3 A3 n3 c3 D3 m3 f3 m'.x ?_ b4 A4 n4 c4 D4 m4 f4 m'.y ?_ vs HVS.out).mono ?_);(exact HQ1.out);(exact HQ2.out);(exact HQ3.out);(exact HQ4.out);rintro e' w8 ⟨rfl,hb8⟩;replace hb8:=af (aa (ae _) 1) hb8;have q8:Below w7.heap.size w7 w8:=af (ae w7) hb8))
  have bw8:=bw7.trans (q8.mono bw7.size);cases vs
  ·have hx:x=0:=HX8.out
   go_wp2;go_ret;exact ⟨by first | rfl | (rw [hx];rfl),bw8⟩
  have hx:x=8:=HX8.out;go_wp2;go_ret;exact ⟨by first | rfl | (rw [hx];rfl),bw8⟩
theorem ml (w:World) (A:Option Addr) (n c:Nat) (B:Option Addr) (p d:Nat) (C:Option Addr) (q e:Nat) (L:ay) (k:Nat) (h:LkS k w A n c B p d C q e L) (hk:k≤10000000) (hk1:0 < k) (x:Int) (hx:bN L=x) :
 Calls Tryz.prog 19 #[.agg #[ah L.name,.slice A n c,.slice B p d,.slice C q e]] w (ax w (.int .i64 x)):=by
 have hln:=h.bodies.1;obtain ⟨v,hv⟩:∃ v,aW L.name=v:=⟨_,rfl⟩;have HV:=Qh hv;have HX:=Qh hx;have HL:=Qh hln;have HLJ:=Qh h.joints.1;have HLD:=Qh h.drivers.1;have H:=Qh h;clear hv hx hln h;go_in;go_wp2_with fail;(with_reducible refine (g7 _ L.name H.out.name v HV.out).mono ?_);rintro e' w1 ⟨rfl,hb1⟩;have q1:=hb1.q1;have x1:Blk w1 w.heap.size 36 #[ah L.name,.slice A n c,.slice B p d,.slice C q e]:=(aj _ _ _ (by simp)).below hb1 (by simp);clear hb1;cases v
 ·have h5:x=5:=by rw [← HX.out];unfold bN;rw [if_pos HV.out]
  go_wp2;go_ret;exact ⟨by rw [h5];rfl,q1⟩
 have hX1:x=if n=0 then 10 else if 8 < n then 4 else if aU aK [] L.bodies≠0 then aU aK [] L.bodies
  else if 16 < p then 4 else if aU (aG L) [] L.joints≠0 then aU (aG L) [] L.joints
  else if 2 < q then 4 else aU (ar n) [] L.drivers:=by
  rw [← HX.out];unfold bN;rw [if_neg (by rw [HV.out];decide),HL.out,HLJ.out,HLD.out]
 obtain ⟨y1,hy1⟩:∃ y,aU aK [] L.bodies=y:=⟨_,rfl⟩;obtain ⟨y2,hy2⟩:∃ y,aU (aG L) [] L.joints=y:=⟨_,rfl⟩;obtain ⟨y3,hy3⟩:∃ y,aU (ar n) [] L.drivers=y:=⟨_,rfl⟩;rw [hy1,hy2,hy3] at hX1;have HX2:=Qh hX1;have HY1:=Qh hy1;have HY2:=Qh (bI hy2);have HY3:=Qh (bI hy3);clear hX1 hy1 hy2 hy3;have cx1:=x1.cell 1;by_cases h0:n=0
 ·have e0:((n:Int) == 0)=true:=beq_iff_eq.2 (by omega)
  have e00:((n:Int)=0)=True:=eq_true (by omega);have h10:x=10:=by rw [HX2.out,if_pos h0]
  clear h0;go_wp2;go_ret;exact ⟨by rw [h10];rfl,q1⟩
 have e0:((n:Int) == 0)=false:=beq_eq_false_iff_ne.2 (by omega);have e00:((n:Int)=0)=False:=eq_false (by omega);by_cases h8:8 < n
 ·have e8:((8:Int) < (n:Int))=True:=eq_true (by omega)
  have h4:x=4:=by rw [HX2.out,if_neg h0,if_pos h8]
  go_wp2;go_ret;exact ⟨by rw [h4];rfl,q1⟩
 have e8:((8:Int) < (n:Int))=False:=eq_false (by omega);have hX3:=HX2.out;rw [if_neg h0,if_neg h8] at hX3;have HX3:=Qh hX3;have hn8:n≤8:=by omega
 have cx0:=x1.cell 0;have cx2:=x1.cell 2;have cx3:=x1.cell 3;clear hX3 h0 h8;go_wp2_with fail;(with_reducible refine (pN _ A n c B p d C q e L k (H.out.belw q1) hk hn8 y1 HY1.out).mono ?_);rintro e' w2 ⟨rfl,hb2⟩;have q2:=q1.trans (hb2.mono q1.size);have x2:=x1.below hb2 x1.lt;clear cx0 cx1 cx2 cx3;by_cases h1:y1=0
 case neg =>
  have hxy:x=y1:=by rw [HX3.out,if_pos h1]
  have f0:(y1 == 0)=false:=beq_eq_false_iff_ne.2 h1;have f1:(y1 != 0)=true:=bne_iff_ne.2 h1;clear h1;go_wp2;go_ret;exact ⟨by rw [hxy];rfl,q2⟩
 have hX4:=HX3.out;rw [if_neg (by simp [h1])] at hX4;have HX4:=Qh hX4;have f0:(y1 == 0)=true:=beq_iff_eq.2 h1;have f1:(y1 != 0)=false:=by rw [h1];rfl
 have cx2:=x2.cell 2;clear hX4 h1;by_cases h16:16 < p
 ·have e16:((16:Int) < (p:Int))=True:=eq_true (by omega)
  have h4:x=4:=by rw [HX4.out,if_pos h16]
  go_wp2;go_ret;exact ⟨by rw [h4];rfl,q2⟩
 have e16:((16:Int) < (p:Int))=False:=eq_false (by omega);have hp16:p≤16:=by omega
 have hX5:=HX4.out;rw [if_neg h16] at hX5;have HX5:=Qh hX5;clear hX5 h16;go_wp2_with fail;clear cx2;go_loopw [4] (fun iv wr=>∃ i:Nat,iv=.int .i64 (i:Nat)∧i≤p∧Hid (aU (aG L) (L.joints.take i) (L.joints.drop i)=y2)∧Below w2.heap.size w2 wr) (fun iv _=>p - (intOf iv).toNat)
 case atStart=>exact ⟨0,rfl,Nat.zero_le _,HY2,ae w2⟩
 case round =>
  clear HY2;obtain ⟨i,rfl,hi,HP,hb3⟩:=hrel;rename World=>w3;have x3:=x2.below hb3 x2.lt;have q3:=q2.trans (hb3.mono q2.size);have cx0:=x3.cell 0;have cx1:=x3.cell 1;have cx2:=x3.cell 2;have cx3:=x3.cell 3;rcases Nat.lt_or_ge i p with hlt | hge
  ·have hi1:((i:Int) < (p:Int))=True:=by simp;omega
   obtain ⟨j,hj⟩:∃ j,L.joints[i]?=some j:=⟨_,List.getElem?_eq_getElem (by rw [HLJ.out];exact hlt)⟩;have hst:=bT HP.out hj;obtain ⟨z,hz⟩:∃ z,aG L (L.joints.take i) j=z:=⟨_,rfl⟩;rw [hz] at hst;have HZ:=Qh hz;have HST:=Qh hst;have HJ:=Qh hj;clear hj hst hz HP;go_wp2_with fail;(with_reducible refine (ri _ A n c B p d C q e L k (H.out.belw q3) hk hk1 hn8 hp16 i hlt j HJ.out z HZ.out).mono ?_);rintro e' w4 ⟨rfl,hb4⟩;have q4:=q3.trans (hb4.mono q3.size);clear cx0 cx1 cx2 cx3;by_cases hz0:z=0
   ·have HP2:Hid (aU (aG L) (L.joints.take (i+1)) (L.joints.drop (i+1))=y2):=Qh (by
     rcases HST.out with ⟨_,u⟩ | ⟨u,_⟩
     ·exact u
     exact absurd hz0 u)
    have g0:(z == 0)=true:=beq_iff_eq.2 hz0;have g1:(z != 0)=false:=by rw [hz0];rfl
    clear hz0;go_wp2_with fail;go_roundw
    case rel=>exact ⟨i+1,by go_num,by omega,HP2,hb3.trans (hb4.mono hb3.size)⟩
    case measure=>simp [intOf];omega
   ·have hxz:x=z:=by
     rcases HST.out with ⟨u,_⟩ | ⟨_,u⟩
     ·exact absurd u hz0
     rw [HX5.out,← u,if_pos hz0]
    have g0:(z == 0)=false:=beq_eq_false_iff_ne.2 hz0;have g1:(z != 0)=true:=bne_iff_ne.2 hz0;clear hz0;go_wp2;go_ret;exact ⟨by rw [hxz];rfl,q4⟩
  have hi1:((i:Int) < (p:Int))=False:=by simp;omega
  have hy0:y2=0:=cE HP.out (by rw [HLJ.out];exact hge);have hX6:=HX5.out;rw [if_neg (by simp [hy0])] at hX6;have HX6:=Qh hX6;clear hX6 hy0 HX5;by_cases h2:2 < q
  ·have e2:((2:Int) < (q:Int))=True:=eq_true (by omega)
   have h4:x=4:=by rw [HX6.out,if_pos h2]
   go_wp2;go_ret;exact ⟨by rw [h4];rfl,q3⟩
  have e2:((2:Int) < (q:Int))=False:=eq_false (by omega);have hq2:q≤2:=by omega
  have hX7:x=y3:=by rw [HX6.out,if_neg h2]
  subst hX7;clear h2;go_wp2_with fail;clear cx0 cx1 cx2 cx3;go_loopw [6] (fun iv wr=>∃ i:Nat,iv=.int .i64 (i:Nat)∧i≤q∧Hid (aU (ar n) (L.drivers.take i) (L.drivers.drop i)=x)∧Below w3.heap.size w3 wr) (fun iv _=>q - (intOf iv).toNat)
  case atStart=>exact ⟨0,rfl,Nat.zero_le _,HY3,ae w3⟩
  case round =>
   clear HY3;obtain ⟨s,rfl,hs,HP3,hb5⟩:=hrel;rename World=>w5;have x5:=x3.below hb5 x3.lt;have q5:=q3.trans (hb5.mono q3.size);have cx0:=x5.cell 0;have cx1:=x5.cell 1;have cx2:=x5.cell 2;have cx3:=x5.cell 3;rcases Nat.lt_or_ge s q with hlt | hgs
   ·have hs1:((s:Int) < (q:Int))=True:=by simp;omega
    obtain ⟨b,hb⟩:∃ b,L.drivers[s]?=some b:=⟨_,List.getElem?_eq_getElem (by rw [HLD.out];exact hlt)⟩;have hst:=bT HP3.out hb;obtain ⟨z,hz⟩:∃ z,ar n (L.drivers.take s) b=z:=⟨_,rfl⟩;rw [hz] at hst;have HZ:=Qh hz;have HST:=Qh hst;have HB:=Qh hb;clear hb hst hz HP3;go_wp2_with fail;(with_reducible refine (pO _ A n c B p d C q e L k (H.out.belw q5) hk hn8 hq2 s hlt b HB.out z HZ.out).mono ?_);rintro e' w6 ⟨rfl,hb6⟩;have q6:=q5.trans (hb6.mono q5.size);clear cx0 cx1 cx2 cx3;by_cases hz0:z=0
    ·have HP2:Hid (aU (ar n) (L.drivers.take (s+1)) (L.drivers.drop (s+1))=x):=Qh (by
      rcases HST.out with ⟨_,u⟩ | ⟨u,_⟩
      ·exact u
      exact absurd hz0 u)
     have g0:(z == 0)=true:=beq_iff_eq.2 hz0;have g1:(z != 0)=false:=by rw [hz0];rfl
     clear hz0;go_wp2_with fail;go_roundw
     case rel=>exact ⟨s+1,by go_num,by omega,HP2,hb5.trans (hb6.mono hb5.size)⟩
     case measure=>simp [intOf];omega
    ·have hxz:x=z:=by
      rcases HST.out with ⟨u,_⟩ | ⟨_,u⟩
      ·exact absurd u hz0
      exact u.symm
     have g0:(z == 0)=false:=beq_eq_false_iff_ne.2 hz0;have g1:(z != 0)=true:=bne_iff_ne.2 hz0;clear hz0;go_wp2;go_ret;exact ⟨by rw [hxz];rfl,q6⟩
   have hs1:((s:Int) < (q:Int))=False:=by simp;omega
   have hx0:x=0:=cE HP3.out (by rw [HLD.out];exact hgs);go_wp2;go_ret;exact ⟨by rw [hx0];rfl,q5⟩
theorem sW (w:World) (A:Option Addr) (n c:Nat) (b:aA) (h:SlS (dw 40) 7 w A n c b.pts) (hn:n≤1000) (hnm:b.name.length≤1000) (hms:∀ m∈b.pts,m.name.length≤1000) (T:List UInt8) (hT:dy b=T) :
 Calls Tryz.prog 66 #[.agg #[ah b.name,.slice A n c]] w (ax w (ah T)):=by
 have HM:=Qh (h.short hms);have HF:=Qh (em (h.short hms));have hlen:=h.1;have hnc:=h.2.1;have hsn:=ag b.name;obtain ⟨h1,eh1⟩:∃ t,[98,111,100,121,32] ++ b.name=t:=⟨_,rfl⟩;have ah1:=av ([98,111,100,121,32]) (b.name);rw [eh1] at ah1;have lh1:h1.length=5+b.name.length:=by rw [← eh1,List.length_append];try simp
 have kh1:(9223372036854775807 < 5+b.name.length)=False:=eq_false (by omega);have zh1:=ag h1;obtain ⟨h2,eh2⟩:∃ t,h1 ++ [32,123]=t:=⟨_,rfl⟩;have ah2:=av (h1) ([32,123]);rw [eh2] at ah2;have lh2:h2.length=h1.length+2:=by rw [← eh2,List.length_append];try simp
 have kh2:(9223372036854775807 < h1.length+2)=False:=eq_false (by omega);have zh2:=ag h2;have HE:Hid (T=h2 ++ b.pts.flatMap aH ++ [32,125]):=Qh (by rw [← hT,← eh2,← eh1];rfl);have HLN:=Qh hlen;have H:=Qh h;have hl2:h2.length≤1007:=by omega
 clear h hms hT hlen eh1 eh2 lh1 lh2;go_in;go_wp2_with fail;go_loopw [3,4] (fun ov iv wr=>∃ (i:Nat) (O:List UInt8),ov=ah O∧iv=.int .i64 (i:Nat)∧i≤n∧Hid (h2 ++ (b.pts.take i).flatMap aH=O)∧Blk wr w.heap.size 62 #[ah b.name,.slice A n c]∧Below w.heap.size w wr) (fun _ iv _=>n - (intOf iv).toNat)
 case atStart=>exact ⟨0,h2,rfl,rfl,Nat.zero_le _,Qh (by simp),aj _ _ _ (by simp),(ae w).alloc Qr _⟩
 case round =>
  obtain ⟨i,O,rfl,rfl,hi,HO,xa,hb⟩:=hrel;rename World=>wa;have hla:w.heap.size < wa.heap.size:=xa.lt;obtain ⟨cA0,cA1⟩:=xa.c2;have hfl:=bC aH b.pts i;have hsO:=ag O
  have hlO:O.length≤1007+3010 * n:=by
   rw [← HO.out,List.length_append];have h9:=HF.out;rw [HLN.out] at h9;omega
  rcases Nat.lt_or_ge i n with hlt | hge
  ·have hi1:((i:Int) < (n:Int))=True:=by simp;omega
   obtain ⟨g,o,m,e1,hg,_,hbi,hM⟩:=(H.out.mk_ hb).at_ hlt;subst e1;have hsh:=HM.out m (List.mem_of_getElem? hbi);obtain ⟨hm1,hm2,hm3⟩:=hsh;have hfs:=bE aH hbi;obtain ⟨d0,⟨b1,A1,n1,c1,D1,m1,e1,d1,d2,d3,hQ1⟩,⟨b2,A2,n2,c2,D2,m2,e2,d4,d5,d6,hQ2⟩,hmn⟩:=hM;have d2:wa.cell? ⟨g,o+i * 7+2,none⟩=some (.slice A1 n1 c1):=d2;have d3:wa.cell? ⟨g,o+i * 7+3,none⟩=some (.slice D1 m1 e1):=d3;have d5:wa.cell? ⟨g,o+i * 7+5,none⟩=some (.slice A2 n2 c2):=d5;have d6:wa.cell? ⟨g,o+i * 7+6,none⟩=some (.slice D2 m2 e2):=d6;have hsm:=ag m.name;obtain ⟨X,hX⟩:∃ X,aQ m.x.q=X:=⟨_,rfl⟩;obtain ⟨Y,hY⟩:∃ Y,aQ m.y.q=Y:=⟨_,rfl⟩;have hsX:=ag X;have hsY:=ag Y;have hlX:X.length≤1000:=by rw [← hX];exact cj hm2 Qr
   have hlY:Y.length≤1000:=by rw [← hY];exact cj hm3 Qr
   obtain ⟨s1,es1⟩:∃ t,[32] ++ m.name=t:=⟨_,rfl⟩;have as1:=av ([32]) (m.name);rw [es1] at as1;have ls1:s1.length=1+m.name.length:=by rw [← es1,List.length_append];try simp
   have ks1:(9223372036854775807 < 1+m.name.length)=False:=eq_false (by omega);have zs1:=ag s1;obtain ⟨s2,es2⟩:∃ t,s1 ++ [32]=t:=⟨_,rfl⟩;have as2:=av (s1) ([32]);rw [es2] at as2;have ls2:s2.length=s1.length+1:=by rw [← es2,List.length_append];try simp
   have ks2:(9223372036854775807 < s1.length+1)=False:=eq_false (by omega);have zs2:=ag s2;obtain ⟨s3,es3⟩:∃ t,s2 ++ X=t:=⟨_,rfl⟩;have as3:=av (s2) (X);rw [es3] at as3;have ls3:s3.length=s2.length+X.length:=by rw [← es3,List.length_append];try simp
   have ks3:(9223372036854775807 < s2.length+X.length)=False:=eq_false (by omega);have zs3:=ag s3;obtain ⟨s4,es4⟩:∃ t,s3 ++ [32]=t:=⟨_,rfl⟩;have as4:=av (s3) ([32]);rw [es4] at as4;have ls4:s4.length=s3.length+1:=by rw [← es4,List.length_append];try simp
   have ks4:(9223372036854775807 < s3.length+1)=False:=eq_false (by omega);have zs4:=ag s4;obtain ⟨s5,es5⟩:∃ t,s4 ++ Y=t:=⟨_,rfl⟩;have as5:=av (s4) (Y);rw [es5] at as5;have ls5:s5.length=s4.length+Y.length:=by rw [← es5,List.length_append];try simp
   have ks5:(9223372036854775807 < s4.length+Y.length)=False:=eq_false (by omega);have zs5:=ag s5;obtain ⟨s6,es6⟩:∃ t,s5 ++ [59]=t:=⟨_,rfl⟩;have as6:=av (s5) ([59]);rw [es6] at as6;have ls6:s6.length=s5.length+1:=by rw [← es6,List.length_append];try simp
   have ks6:(9223372036854775807 < s5.length+1)=False:=eq_false (by omega);have zs6:=ag s6
   have hmt:aH m=s6:=by
    rw [← es6,← es5,← es4,← es3,← es2,← es1,← hX,← hY];unfold aH;simp
   rw [hmt] at hfs;obtain ⟨O2,eO2⟩:∃ t,O ++ s6=t:=⟨_,rfl⟩;have aO2:=av O s6;rw [eO2] at aO2;have kO2:(9223372036854775807 < O.length+s6.length)=False:=eq_false (by omega);have HX:=Qh hX;have HY:=Qh hY;have HQ1:=Qh hQ1;have HQ2:=Qh hQ2;have HO2:Hid (h2 ++ (b.pts.take (i+1)).flatMap aH=O2):=Qh (by rw [hfs,← List.append_assoc,HO.out,eO2]);have hga:g < wa.heap.size:=hg;clear hX hY hQ1 hQ2 hmt hfl hbi hm1 hm2 hm3 eO2 hfs es1 es2 es3 es4 es5 es6 ls1 ls2 ls3 ls4 ls5 ls6;go_wp2_with fail
   go_region_held3 (fun w'=>Sees wa.heap.size wa w') (first | with_reducible exact Sees.of Qr (by assumption) | with_reducible exact Sees.of Qr (ae _).drew | exact Sees.of Qr (aa (ae _) 1) | exact Sees.of Qr (aa (by assumption) _))
    (first
     | (go_at_call 106;(with_reducible refine (fA _ b1 A1 n1 c1 D1 m1 e1 m.x 40 ?_ (by decide) (by decide) X HX.out).mono ?_);(exact HQ1.out.belw (by first | exact qwy | exact ae _ | exact (ae wa).drew | exact aa (ae wa) _));rintro e' wx ⟨rfl,hwx⟩;have qwx:Below wa.heap.size wa wx:=(by first | exact af qwy hwx | exact af (ae wa) hwx | exact af (aa (ae wa) _) hwx))
     | (go_at_call 106;(with_reducible refine (fA _ b2 A2 n2 c2 D2 m2 e2 m.y 40 ?_ (by decide) (by decide) Y HY.out).mono ?_);(exact HQ2.out.belw (by first | exact qwx | exact ae _ | exact (ae wa).drew | exact aa (ae wa) _));rintro e' wy ⟨rfl,hwy⟩;have qwy:Below wa.heap.size wa wy:=(by first | exact af qwx hwy | exact af (ae wa) hwy | exact af (aa (ae wa) _) hwy)))
   all_goals
    clear cA0 cA1 d0 d1 d2 d3 d4 d5 d6;go_wp2_with fail;go_roundw
    case rel =>
     first
      | exact ⟨i+1,O2,rfl,by go_num,by omega,HO2,xa.below qwy xa.lt,hb.trans (qwy.mono hb.size)⟩
      | exact ⟨i+1,O2,rfl,by go_num,by omega,HO2,xa.below qwx xa.lt,hb.trans (qwx.mono hb.size)⟩
    case measure=>simp [intOf];omega
  have hi1:((i:Int) < (n:Int))=False:=by simp;omega
  have hin:b.pts.take i=b.pts:=List.take_of_length_le (by rw [HLN.out];exact hge);rw [hin] at HO;obtain ⟨O2,eO2⟩:∃ t,O ++ [32,125]=t:=⟨_,rfl⟩;have aO2:=av O [32,125];rw [eO2] at aO2;have kO2:(9223372036854775807 < O.length+2)=False:=eq_false (by omega);have hTT:O2=T:=by rw [← eO2,← HO.out];exact HE.out.symm
  subst hTT;clear eO2 hin;go_wp2;go_ret;exact ⟨rfl,hb⟩
theorem pQ (w:World) (A:Option Addr) (n c:Nat) (B:Option Addr) (p d:Nat) (C:Option Addr) (q e:Nat) (L:ay) (h:LkS 40 w A n c B p d C q e L) (he:bN L≠0):Calls Tryz.prog 33 #[.agg #[ah L.name,.slice A n c,.slice B p d,.slice C q e]] w (fun e' w'=>e'=.returned (.tuple #[ah [],.int .i64 (bN L)])∧Below w.heap.size w w'):=by
 obtain ⟨x,hx⟩:∃ x,bN L=x:=⟨_,rfl⟩;rw [hx] at he ⊢;have HX:=Qh hx;have H:=Qh h;have hx0:(x == 0)=false:=by simpa using he
 clear h hx;go_in;go_wp2_with fail;have q0:Below w.heap.size w (w.alloc (.cells #[ah L.name,.slice A n c,.slice B p d,.slice C q e] 36)):=(ae w).alloc Qr _;(with_reducible refine (ml _ A n c B p d C q e L 40 (H.out.belw q0) (by decide) (by decide) x HX.out).mono ?_);rintro e' w1 ⟨rfl,hb1⟩;have q1:=q0.trans (hb1.mono q0.size);clear hb1;go_wp2_with fail;go_ret2;exact ⟨rfl,q1⟩
theorem rj (w:World) (A:Option Addr) (n c:Nat) (B:Option Addr) (p d:Nat) (C:Option Addr) (q e:Nat) (L:ay) (h:LkS 40 w A n c B p d C q e L) (hc:bN L=0):Calls Tryz.prog 33 #[.agg #[ah L.name,.slice A n c,.slice B p d,.slice C q e]] w (fun e' w'=>e'=.returned (.tuple #[ah (aY L),.int .i64 (aO L)])∧Below w.heap.size w w'):=by
 have hk:=kN hc;have hln:=h.bodies.1;have hlj:=h.joints.1;have hld:=h.drivers.1;have hnb:=hk.nb;have hnj:=hk.nj;have hnd:=hk.nd;have hb0:=hk.b0;have hnc:=h.bodies.2.1;have hpc:=h.joints.2.1;have hqc:=h.drivers.2.1;have hnm:L.name.length≤24:=hk.name;have hsn:=ag L.name;rw [hln] at hnb hb0;rw [hlj] at hnj;rw [hld] at hnd;have hfb:=bR aL 30000 L.bodies (h.bodies.lineLen hk.body);have hfj:=bR (am L.bodies) 200 L.joints fun j hj=>de hk.body (hk.joint j hj).1
 have hfd:=bR (az L.bodies) 60 L.drivers fun d hd=>dR hk.body (hk.driver d hd).1
 rw [hln] at hfb;rw [hlj] at hfj;rw [hld] at hfd;obtain ⟨h1,eh1⟩:∃ t,[108,105,110,107,97,103,101,32] ++ L.name=t:=⟨_,rfl⟩;have ah1:=av ([108,105,110,107,97,103,101,32]) (L.name);rw [eh1] at ah1;have lh1:h1.length=8+L.name.length:=by rw [← eh1,List.length_append];try simp
 have kh1:(9223372036854775807 < 8+L.name.length)=False:=eq_false (by omega);have zh1:=ag h1;obtain ⟨h2,eh2⟩:∃ t,h1 ++ [59,10]=t:=⟨_,rfl⟩;have ah2:=av (h1) ([59,10]);rw [eh2] at ah2;have lh2:h2.length=h1.length+2:=by rw [← eh2,List.length_append];try simp
 have kh2:(9223372036854775807 < h1.length+2)=False:=eq_false (by omega);have zh2:=ag h2;have hl2:h2.length≤34:=by omega
 obtain ⟨S1,hS1⟩:∃ S,h2 ++ L.bodies.flatMap aL=S:=⟨_,rfl⟩;obtain ⟨S2,hS2⟩:∃ S,S1 ++ L.joints.flatMap (am L.bodies)=S:=⟨_,rfl⟩;obtain ⟨S3,hS3⟩:∃ S,S2 ++ L.drivers.flatMap (az L.bodies)=S:=⟨_,rfl⟩;have hlS1:S1.length≤34+30000 * n:=by rw [← hS1,List.length_append];omega
 have hlS2:S2.length≤34+30000 * n+200 * p:=by rw [← hS2,List.length_append];omega
 have hlS3:S3.length≤34+30000 * n+200 * p+60 * q:=by rw [← hS3,List.length_append];omega
 have hT3:cH L=S3:=by
  rw [← hS3,← hS2,← hS1,← eh2,← eh1];unfold cH ii;simp
 have H:=Qh h;have HK:=Qh hk;have HC:=Qh hc;have HS1:=Qh hS1;have HS2:=Qh hS2;have HS3:=Qh hS3;have HT3:=Qh hT3;have HFB:=Qh hfb;have HFJ:=Qh hfj;have HFD:=Qh hfd;have HLB:=Qh hln;have HLJ:=Qh hlj;have HLD:=Qh hld;have HL1:=Qh hlS1;have HL2:=Qh hlS2;have HL3:=Qh hlS3;clear h hk hc hS1 hS2 hS3 hT3 hfb hfj hfd hln hlj hld eh1 eh2 lh1 lh2 hlS1 hlS2 hlS3;go_in;go_wp2_with fail;have q0:Below w.heap.size w (w.alloc (.cells #[ah L.name,.slice A n c,.slice B p d,.slice C q e] 36)):=(ae w).alloc Qr _;have x0:Blk (w.alloc (.cells #[ah L.name,.slice A n c,.slice B p d,.slice C q e] 36)) w.heap.size 36 #[ah L.name,.slice A n c,.slice B p d,.slice C q e]:=aj _ _ _ rfl;(with_reducible refine (ml _ A n c B p d C q e L 40 (H.out.belw q0) (by decide) (by decide) 0 HC.out).mono ?_);rintro e' w1 ⟨rfl,hb1⟩;have q1:=q0.trans (hb1.mono q0.size);have x1:=x0.below hb1 x0.lt;have hlw1:w.heap.size < w1.heap.size:=x1.lt;have cx0:=x1.cell 0;clear hb1 q0 x0;go_wp2_with fail;clear cx0;go_loopw [5,6] (fun ov iv wr=>∃ (i:Nat) (O:List UInt8),ov=ah O∧iv=.int .i64 (i:Nat)∧i≤n∧Hid (h2 ++ (L.bodies.take i).flatMap aL=O)∧Below w1.heap.size w1 wr) (fun _ iv _=>n - (intOf iv).toNat)
 case atStart=>exact ⟨0,h2,rfl,rfl,Nat.zero_le _,Qh (by simp),ae w1⟩
 case round =>
  obtain ⟨i,O,rfl,rfl,hi,HO,hb⟩:=hrel;rename World=>wa;have xa:=x1.below hb hlw1;have bwa:=q1.trans (hb.mono q1.size);have cA1:=xa.cell 1;have hfl:=bC aL L.bodies i;have hsO:=ag O
  have hlO:O.length≤34+30000 * n:=by
   rw [← HO.out,List.length_append];have h9:=HFB.out;omega
  rcases Nat.lt_or_ge i n with hlt | hge
  ·have hi1:((i:Int) < (n:Int))=True:=by simp;omega
   obtain ⟨g,o,b,e1,hg,_,hbi,hBd⟩:=(H.out.bodies.bd bwa).at_ hlt;subst e1;have hok:=HK.out.body b (List.mem_of_getElem? hbi);obtain ⟨A',n',c',d0,d1,hM,_⟩:=hBd;have hfs:=bE aL hbi;have hfl2:=bC aL L.bodies (i+1);rw [hfs,List.length_append] at hfl2;obtain ⟨T,hT⟩:∃ T,dy b=T:=⟨_,rfl⟩;obtain ⟨T1,hT1⟩:∃ t,T ++ [10]=t:=⟨_,rfl⟩;have hlt1:aL b=T1:=by rw [← hT1,← hT];rfl
   rw [hlt1] at hfs hfl2;have aT1:=av T [10];rw [hT1] at aT1;have hlT:T1.length=T.length+1:=by rw [← hT1,List.length_append];rfl
   have h9:=HFB.out;have kT1:(9223372036854775807 < T.length+1)=False:=eq_false (by omega);have hsT:=ag T;have hsT1:=ag T1;obtain ⟨O2,eO2⟩:∃ t,O ++ T1=t:=⟨_,rfl⟩;have aO2:=av O T1;rw [eO2] at aO2;have kO2:(9223372036854775807 < O.length+T1.length)=False:=eq_false (by omega);have HO2:Hid (h2 ++ (L.bodies.take (i+1)).flatMap aL=O2):=Qh (by rw [hfs,← List.append_assoc,HO.out,eO2]);have HT:=Qh hT;have HM:=Qh hM;have HOK:=Qh hok;have hlen9:=hok.2.1;rw [hM.1] at hlen9;have hga:g < wa.heap.size:=hg;clear hbi hok hM hfs hfl hfl2 hT hT1 hlt1 hlT h9 eO2;go_wp2_with fail;(with_reducible refine (sW _ A' n' c' b HM.out (by omega) HOK.out.nm HOK.out.mks T HT.out).mono ?_);rintro e' wc ⟨rfl,qc⟩;clear cA1 d0 d1;go_wp2_with fail;go_roundw
   case rel=>exact ⟨i+1,O2,rfl,by go_num,by omega,HO2,hb.trans (qc.mono hb.size)⟩
   case measure=>simp [intOf];omega
  have hi1:((i:Int) < (n:Int))=False:=by simp;omega
  have hin:L.bodies.take i=L.bodies:=List.take_of_length_le (by rw [HLB.out];exact hge);rw [hin,HS1.out] at HO;obtain rfl:=HO.out;have cx2:=xa.cell 2;have HL1':=HL1.out;clear hin HO hfl;go_wp2_with fail;clear cx2 cA1;go_loopw [5,7] (fun ov iv wr=>∃ (i2:Nat) (O:List UInt8),ov=ah O∧iv=.int .i64 (i2:Nat)∧i2≤p∧Hid (S1 ++ (L.joints.take i2).flatMap (am L.bodies)=O)∧Below w1.heap.size w1 wr) (fun _ iv _=>p - (intOf iv).toNat)
  case atStart=>exact ⟨0,S1,rfl,rfl,Nat.zero_le _,Qh (by simp),hb⟩
  case round =>
   clear hb xa bwa hsO;obtain ⟨i2,O,rfl,rfl,hi2,HO,hb⟩:=hrel;rename World=>wj;have xa:=x1.below hb hlw1;have bwa:=q1.trans (hb.mono q1.size);obtain ⟨cA0,cA1,cA2,cA3⟩:=xa.c4;have hfl:=bC (am L.bodies) L.joints i2;have hsO:=ag O
   have hlO:O.length≤34+30000 * n+200 * p:=by
    rw [← HO.out,List.length_append];have h9:=HFJ.out;omega
   rcases Nat.lt_or_ge i2 p with hlt2 | hge2
   ·have hi3:((i2:Int) < (p:Int))=True:=by simp;omega
    obtain ⟨g,o,j,e1,hg,_,hbi,hJt⟩:=(H.out.joints.jt bwa).at_ hlt2;subst e1;have hok:=HK.out.joint j (List.mem_of_getElem? hbi);obtain ⟨hjn,ja,jb,jp,jo,x,y,m1,m2,ea,eb,ep,eo,hx,hy,hm1,hm2,hkd⟩:=hok;obtain ⟨d0,d1,d2,d3,d4,d5,d6,_⟩:=hJt;obtain ⟨F1,hF1⟩:∃ F,x.name ++ 46 :: m1.name=F:=⟨_,rfl⟩;obtain ⟨F2,hF2⟩:∃ F,y.name ++ 46 :: m2.name=F:=⟨_,rfl⟩;have hbx:=HK.out.body x (List.mem_of_getElem? hx);have hby:=HK.out.body y (List.mem_of_getElem? hy);have hlF1:F1.length≤1000:=by rw [← hF1,List.length_append,List.length_cons];have:=hbx.1;have:=(hbx.2.2 m1 (List.mem_of_getElem? hm1)).1;omega
    have hlF2:F2.length≤1000:=by rw [← hF2,List.length_append,List.length_cons];have:=hby.1;have:=(hby.2.2 m2 (List.mem_of_getElem? hm2)).1;omega
    have HJ1:=Qh (And.intro hx (And.intro hm1 (And.intro hbx.nm (And.intro (hbx.mks m1 (List.mem_of_getElem? hm1)) hF1))));have HJ2:=Qh (And.intro hy (And.intro hm2 (And.intro hby.nm (And.intro (hby.mks m2 (List.mem_of_getElem? hm2)) hF2))));have hf1:dA L.bodies j.a j.point=F1:=by rw [ea,ep,eu hx hm1,hF1]
    have hf2:dA L.bodies j.b j.on=F2:=by rw [eb,eo,eu hy hm2,hF2]
    have hfs:=bE (am L.bodies) hbi;have hfl2:=bC (am L.bodies) L.joints (i2+1);rw [hfs,List.length_append] at hfl2;have hsj:=ag j.name;have hsF1:=ag F1;have hsF2:=ag F2;have hga:g < wj.heap.size:=hg;have h9:=HFJ.out;have hlw:(am L.bodies j).length≤200 * p:=by omega
    have HW:=Qh hlw;have HFS:Hid (S1 ++ (L.joints.take (i2+1)).flatMap (am L.bodies)=S1 ++ (L.joints.take i2).flatMap (am L.bodies) ++ am L.bodies j):=Qh (by rw [hfs,List.append_assoc]);have HBY:=Qh (And.intro hy hby);have HEB:=Qh eb;have HF12:=Qh (And.intro hf1 hf2);have HA:=Qh (And.intro ea (And.intro ep (And.intro eb eo)));have HD:=Qh (And.intro d0 (And.intro d1 (And.intro d2 (And.intro d3 (And.intro d4 (And.intro d5 d6))))));have HKD:=Qh hkd;clear hF1 hF2 hx hy hm1 hm2 hbx hby hf1 hf2 hfs hfl hfl2 hbi h9 hlw hkd d0 d1 d2 d3 d4 d5 d6;rcases HKD.out with ⟨hk0,ht0⟩ | ⟨hk1,jt,m3,et,hm3⟩
    ·have hjk:(j.kind == 0)=true:=by rw [hk0];rfl
     have hw0:bt L.bodies j=[[112,105,110],j.name,F1,F2]:=by
      unfold bt;rw [if_neg (by omega),HF12.out.1,HF12.out.2]
     obtain ⟨d0,d1,d2,d3,d4,d5,d6⟩:=HD.out;rw [HA.out.1] at d2;rw [HA.out.2.1] at d3;rw [HA.out.2.2.1] at d4;rw [HA.out.2.2.2] at d5;clear hk0 ea ep eb eo ht0;go_wp2_with fail;have xp:Blk (wj.alloc (.cells #[ah j.name,.int .i64 j.kind,.int .i64 (ja:Nat),.int .i64 (jp:Nat),.int .i64 (jb:Nat),.int .i64 (jo:Nat),.int .i64 j.to_] 79)) wj.heap.size 79 #[ah j.name,.int .i64 j.kind,.int .i64 (ja:Nat),.int .i64 (jp:Nat),.int .i64 (jb:Nat),.int .i64 (jo:Nat),.int .i64 j.to_]:=aj _ _ _ rfl;have qb:Below wj.heap.size wj (wj.alloc (.cells #[ah j.name,.int .i64 j.kind,.int .i64 (ja:Nat),.int .i64 (jp:Nat),.int .i64 (jb:Nat),.int .i64 (jo:Nat),.int .i64 j.to_] 79)):=(ae wj).alloc Qr _;have HBod:=Qh ((H.out.bodies.bd bwa).bd qb);have xb:=xa.below qb xa.lt;clear d0 d1 d2 d3 d4 d5 d6 cA0 cA1 cA2 cA3;generalize (wj.alloc (.cells #[ah j.name,.int .i64 j.kind,.int .i64 (ja:Nat),.int .i64 (jp:Nat),.int .i64 (jb:Nat),.int .i64 (jo:Nat),.int .i64 j.to_] 79))=wb at xp qb HBod xb ⊢;have hlb:wj.heap.size < wb.heap.size:=xp.lt;have hlb2:w.heap.size < wb.heap.size:=xb.lt;obtain ⟨cp0,cp1,cp2,cp3,cp4,cp5,cp6⟩:=xp.c7;obtain ⟨cb0,cb1,cb2,cb3⟩:=xb.c4;obtain ⟨t1,et1⟩:∃ t,[112,105,110,32] ++ j.name=t:=⟨_,rfl⟩;have at1:=av ([112,105,110,32]) (j.name);rw [et1] at at1;have lt1:t1.length=4+j.name.length:=by rw [← et1,List.length_append];try simp
     have kt1:(9223372036854775807 < 4+j.name.length)=False:=eq_false (by omega);have zt1:=ag t1;obtain ⟨t2,et2⟩:∃ t,t1 ++ [32]=t:=⟨_,rfl⟩;have at2:=av (t1) ([32]);rw [et2] at at2;have lt2:t2.length=t1.length+1:=by rw [← et2,List.length_append];try simp
     have kt2:(9223372036854775807 < t1.length+1)=False:=eq_false (by omega);have zt2:=ag t2;obtain ⟨t3,et3⟩:∃ t,t2 ++ F1=t:=⟨_,rfl⟩;have at3:=av (t2) (F1);rw [et3] at at3;have lt3:t3.length=t2.length+F1.length:=by rw [← et3,List.length_append];try simp
     have kt3:(9223372036854775807 < t2.length+F1.length)=False:=eq_false (by omega);have zt3:=ag t3;obtain ⟨t4,et4⟩:∃ t,t3 ++ [32]=t:=⟨_,rfl⟩;have at4:=av (t3) ([32]);rw [et4] at at4;have lt4:t4.length=t3.length+1:=by rw [← et4,List.length_append];try simp
     have kt4:(9223372036854775807 < t3.length+1)=False:=eq_false (by omega);have zt4:=ag t4;obtain ⟨t5,et5⟩:∃ t,t4 ++ F2=t:=⟨_,rfl⟩;have at5:=av (t4) (F2);rw [et5] at at5;have lt5:t5.length=t4.length+F2.length:=by rw [← et5,List.length_append];try simp
     have kt5:(9223372036854775807 < t4.length+F2.length)=False:=eq_false (by omega);have zt5:=ag t5;obtain ⟨t6,et6⟩:∃ t,t5 ++ [59,10]=t:=⟨_,rfl⟩;have at6:=av (t5) ([59,10]);rw [et6] at at6;have lt6:t6.length=t5.length+2:=by rw [← et6,List.length_append];try simp
     have kt6:(9223372036854775807 < t5.length+2)=False:=eq_false (by omega);have zt6:=ag t6
     have hTT:am L.bodies j=t6:=by
      unfold am;rw [hw0,← et6,← et5,← et4,← et3,← et2,← et1];simp [dG]
     have hlW:=HW.out;rw [hTT] at hlW;have hFS:=HFS.out;rw [hTT] at hFS;obtain ⟨O2,eO2⟩:∃ t,O ++ t6=t:=⟨_,rfl⟩;have aO2:=av O t6;rw [eO2] at aO2;have kO2:(9223372036854775807 < O.length+t6.length)=False:=eq_false (by omega);have HO2:Hid (S1 ++ (L.joints.take (i2+1)).flatMap (am L.bodies)=O2):=Qh (by rw [hFS,HO.out,eO2]);clear hTT hlW hFS hw0 eO2 et1 et2 et3 et4 et5 et6 lt1 lt2 lt3 lt4 lt5 lt6;go_wp2_with fail
     go_region_held3 (fun w'=>Sees wb.heap.size wb w') (first | with_reducible exact Sees.of Qr (by assumption) | with_reducible exact Sees.of Qr (ae _).drew | with_reducible exact Sees.al (by assumption) _ | exact Sees.of Qr (aa (ae _) 1) | exact Sees.of Qr (aa (by assumption) _))
      (first
       | (go_at_call 67;(with_reducible refine (ib _ _ _ _ _ _ _ _ _ _ _ L.bodies 40 ?_ ja jp x m1 HJ1.out.1 HJ1.out.2.1 HJ1.out.2.2.1 HJ1.out.2.2.2.1 F1 HJ1.out.2.2.2.2).mono ?_);(exact HBod.out.bd (by first | with_reducible exact qwf2 | with_reducible exact ae _ | exact (ae wb).drew | exact aa (ae wb) _));rintro e' wf1 ⟨rfl,hwf1⟩;have qwf1:Below wb.heap.size wb wf1:=(by first | with_reducible exact af qwf2 hwf1 | exact af (ae wb) hwf1 | exact af (aa (ae wb) _) hwf1))
       | (go_at_call 67;(with_reducible refine (ib _ _ _ _ _ _ _ _ _ _ _ L.bodies 40 ?_ jb jo y m2 HJ2.out.1 HJ2.out.2.1 HJ2.out.2.2.1 HJ2.out.2.2.2.1 F2 HJ2.out.2.2.2.2).mono ?_);(exact HBod.out.bd (by first | with_reducible exact qwf1 | with_reducible exact ae _ | exact (ae wb).drew | exact aa (ae wb) _));rintro e' wf2 ⟨rfl,hwf2⟩;have qwf2:Below wb.heap.size wb wf2:=(by first | with_reducible exact af qwf1 hwf2 | exact af (ae wb) hwf2 | exact af (aa (ae wb) _) hwf2)))
     all_goals
      rename_i hHeld;clear hHeld
      first
       | (have q9:Below wj.heap.size wj wf1:=af qb qwf1
          clear cp0 cp1 cp2 cp3 cp4 cp5 cp6 cb0 cb1 cb2 cb3;go_wp2_with fail;go_roundw
          case rel=>exact ⟨i2+1,O2,rfl,by go_num,by omega,HO2,hb.trans (q9.mono hb.size)⟩
          case measure=>simp [intOf];omega)
       | (have q9:Below wj.heap.size wj wf2:=af qb qwf2
          clear cp0 cp1 cp2 cp3 cp4 cp5 cp6 cb0 cb1 cb2 cb3;go_wp2_with fail;go_roundw
          case rel=>exact ⟨i2+1,O2,rfl,by go_num,by omega,HO2,hb.trans (q9.mono hb.size)⟩
          case measure=>simp [intOf];omega)
    have hjk:(j.kind == 0)=false:=by rw [hk1];rfl
    obtain ⟨F3,hF3⟩:∃ F,y.name ++ 46 :: m3.name=F:=⟨_,rfl⟩;have hby:=HBY.out.2;have hlF3:F3.length≤1000:=by rw [← hF3,List.length_append,List.length_cons];have:=hby.1;have:=(hby.2.2 m3 (List.mem_of_getElem? hm3)).1;omega
    have hsF3:=ag F3;have HJ3:=Qh (And.intro HBY.out.1 (And.intro hm3 (And.intro hby.nm (And.intro (hby.mks m3 (List.mem_of_getElem? hm3)) hF3))))
    have hw0:bt L.bodies j=[[115,108,105,100,101],j.name,F1,F2,F3]:=by
     unfold bt;have hf3:=eu HBY.out.1 hm3;rw [if_pos hk1,HF12.out.1,HF12.out.2,HEB.out,et,hf3,hF3]
    obtain ⟨d0,d1,d2,d3,d4,d5,d6⟩:=HD.out;rw [HA.out.1] at d2;rw [HA.out.2.1] at d3;rw [HA.out.2.2.1] at d4;rw [HA.out.2.2.2] at d5;rw [et] at d6;clear hk1 ea ep eb eo hF3 hby hm3 et;go_wp2_with fail;have xp:Blk (wj.alloc (.cells #[ah j.name,.int .i64 j.kind,.int .i64 (ja:Nat),.int .i64 (jp:Nat),.int .i64 (jb:Nat),.int .i64 (jo:Nat),.int .i64 (jt:Nat)] 79)) wj.heap.size 79 #[ah j.name,.int .i64 j.kind,.int .i64 (ja:Nat),.int .i64 (jp:Nat),.int .i64 (jb:Nat),.int .i64 (jo:Nat),.int .i64 (jt:Nat)]:=aj _ _ _ rfl;have qb:Below wj.heap.size wj (wj.alloc (.cells #[ah j.name,.int .i64 j.kind,.int .i64 (ja:Nat),.int .i64 (jp:Nat),.int .i64 (jb:Nat),.int .i64 (jo:Nat),.int .i64 (jt:Nat)] 79)):=(ae wj).alloc Qr _;have HBod:=Qh ((H.out.bodies.bd bwa).bd qb);have xb:=xa.below qb xa.lt;clear d0 d1 d2 d3 d4 d5 d6 cA0 cA1 cA2 cA3;generalize (wj.alloc (.cells #[ah j.name,.int .i64 j.kind,.int .i64 (ja:Nat),.int .i64 (jp:Nat),.int .i64 (jb:Nat),.int .i64 (jo:Nat),.int .i64 (jt:Nat)] 79))=wb at xp qb HBod xb ⊢;have hlb:wj.heap.size < wb.heap.size:=xp.lt;have hlb2:w.heap.size < wb.heap.size:=xb.lt;obtain ⟨cp0,cp1,cp2,cp3,cp4,cp5,cp6⟩:=xp.c7;obtain ⟨cb0,cb1,cb2,cb3⟩:=xb.c4;obtain ⟨t1,et1⟩:∃ t,[115,108,105,100,101,32] ++ j.name=t:=⟨_,rfl⟩;have at1:=av ([115,108,105,100,101,32]) (j.name);rw [et1] at at1;have lt1:t1.length=6+j.name.length:=by rw [← et1,List.length_append];try simp
    have kt1:(9223372036854775807 < 6+j.name.length)=False:=eq_false (by omega);have zt1:=ag t1;obtain ⟨t2,et2⟩:∃ t,t1 ++ [32]=t:=⟨_,rfl⟩;have at2:=av (t1) ([32]);rw [et2] at at2;have lt2:t2.length=t1.length+1:=by rw [← et2,List.length_append];try simp
    have kt2:(9223372036854775807 < t1.length+1)=False:=eq_false (by omega);have zt2:=ag t2;obtain ⟨t3,et3⟩:∃ t,t2 ++ F1=t:=⟨_,rfl⟩;have at3:=av (t2) (F1);rw [et3] at at3;have lt3:t3.length=t2.length+F1.length:=by rw [← et3,List.length_append];try simp
    have kt3:(9223372036854775807 < t2.length+F1.length)=False:=eq_false (by omega);have zt3:=ag t3;obtain ⟨t4,et4⟩:∃ t,t3 ++ [32]=t:=⟨_,rfl⟩;have at4:=av (t3) ([32]);rw [et4] at at4;have lt4:t4.length=t3.length+1:=by rw [← et4,List.length_append];try simp
    have kt4:(9223372036854775807 < t3.length+1)=False:=eq_false (by omega);have zt4:=ag t4;obtain ⟨t5,et5⟩:∃ t,t4 ++ F2=t:=⟨_,rfl⟩;have at5:=av (t4) (F2);rw [et5] at at5;have lt5:t5.length=t4.length+F2.length:=by rw [← et5,List.length_append];try simp
    have kt5:(9223372036854775807 < t4.length+F2.length)=False:=eq_false (by omega);have zt5:=ag t5;obtain ⟨t6,et6⟩:∃ t,t5 ++ [32]=t:=⟨_,rfl⟩;have at6:=av (t5) ([32]);rw [et6] at at6;have lt6:t6.length=t5.length+1:=by rw [← et6,List.length_append];try simp
    have kt6:(9223372036854775807 < t5.length+1)=False:=eq_false (by omega);have zt6:=ag t6;obtain ⟨t7,et7⟩:∃ t,t6 ++ F3=t:=⟨_,rfl⟩;have at7:=av (t6) (F3);rw [et7] at at7;have lt7:t7.length=t6.length+F3.length:=by rw [← et7,List.length_append];try simp
    have kt7:(9223372036854775807 < t6.length+F3.length)=False:=eq_false (by omega);have zt7:=ag t7;obtain ⟨t8,et8⟩:∃ t,t7 ++ [59,10]=t:=⟨_,rfl⟩;have at8:=av (t7) ([59,10]);rw [et8] at at8;have lt8:t8.length=t7.length+2:=by rw [← et8,List.length_append];try simp
    have kt8:(9223372036854775807 < t7.length+2)=False:=eq_false (by omega);have zt8:=ag t8
    have hTT:am L.bodies j=t8:=by
     unfold am;rw [hw0,← et8,← et7,← et6,← et5,← et4,← et3,← et2,← et1];simp [dG]
    have hlW:=HW.out;rw [hTT] at hlW;have hFS:=HFS.out;rw [hTT] at hFS;obtain ⟨O2,eO2⟩:∃ t,O ++ t8=t:=⟨_,rfl⟩;have aO2:=av O t8;rw [eO2] at aO2;have kO2:(9223372036854775807 < O.length+t8.length)=False:=eq_false (by omega);have HO2:Hid (S1 ++ (L.joints.take (i2+1)).flatMap (am L.bodies)=O2):=Qh (by rw [hFS,HO.out,eO2]);clear hTT hlW hFS hw0 eO2 et1 et2 et3 et4 et5 et6 et7 et8 lt1 lt2 lt3 lt4 lt5 lt6 lt7 lt8;go_wp2_with fail
    go_region_held3 (fun w'=>Sees wb.heap.size wb w') (first | with_reducible exact Sees.of Qr (by assumption) | with_reducible exact Sees.of Qr (ae _).drew | with_reducible exact Sees.al (by assumption) _ | exact Sees.of Qr (aa (ae _) 1) | exact Sees.of Qr (aa (by assumption) _))
     (first
      | (go_at_call 67;(with_reducible refine (ib _ _ _ _ _ _ _ _ _ _ _ L.bodies 40 ?_ ja jp x m1 HJ1.out.1 HJ1.out.2.1 HJ1.out.2.2.1 HJ1.out.2.2.2.1 F1 HJ1.out.2.2.2.2).mono ?_);(exact HBod.out.bd (by first | with_reducible exact qwf2 | with_reducible exact qwf3 | with_reducible exact ae _ | exact (ae wb).drew | exact aa (ae wb) _));rintro e' wf1 ⟨rfl,hwf1⟩;have qwf1:Below wb.heap.size wb wf1:=(by first | with_reducible exact af qwf2 hwf1 | with_reducible exact af qwf3 hwf1 | exact af (ae wb) hwf1 | exact af (aa (ae wb) _) hwf1))
      | (go_at_call 67;(with_reducible refine (ib _ _ _ _ _ _ _ _ _ _ _ L.bodies 40 ?_ jb jo y m2 HJ2.out.1 HJ2.out.2.1 HJ2.out.2.2.1 HJ2.out.2.2.2.1 F2 HJ2.out.2.2.2.2).mono ?_);(exact HBod.out.bd (by first | with_reducible exact qwf1 | with_reducible exact qwf3 | with_reducible exact ae _ | exact (ae wb).drew | exact aa (ae wb) _));rintro e' wf2 ⟨rfl,hwf2⟩;have qwf2:Below wb.heap.size wb wf2:=(by first | with_reducible exact af qwf1 hwf2 | with_reducible exact af qwf3 hwf2 | exact af (ae wb) hwf2 | exact af (aa (ae wb) _) hwf2))
      | (go_at_call 67;(with_reducible refine (ib _ _ _ _ _ _ _ _ _ _ _ L.bodies 40 ?_ jb jt y m3 HJ3.out.1 HJ3.out.2.1 HJ3.out.2.2.1 HJ3.out.2.2.2.1 F3 HJ3.out.2.2.2.2).mono ?_);(exact HBod.out.bd (by first | with_reducible exact qwf1 | with_reducible exact qwf2 | with_reducible exact ae _ | exact (ae wb).drew | exact aa (ae wb) _));rintro e' wf3 ⟨rfl,hwf3⟩;have qwf3:Below wb.heap.size wb wf3:=(by first | with_reducible exact af qwf1 hwf3 | with_reducible exact af qwf2 hwf3 | exact af (ae wb) hwf3 | exact af (aa (ae wb) _) hwf3)))
    all_goals
     rename_i hHeld;clear hHeld
     first
      | (have q9:Below wj.heap.size wj wf1:=af qb qwf1
         clear cp0 cp1 cp2 cp3 cp4 cp5 cp6 cb0 cb1 cb2 cb3;go_wp2_with fail;go_roundw
         case rel=>exact ⟨i2+1,O2,rfl,by go_num,by omega,HO2,hb.trans (q9.mono hb.size)⟩
         case measure=>simp [intOf];omega)
      | (have q9:Below wj.heap.size wj wf2:=af qb qwf2
         clear cp0 cp1 cp2 cp3 cp4 cp5 cp6 cb0 cb1 cb2 cb3;go_wp2_with fail;go_roundw
         case rel=>exact ⟨i2+1,O2,rfl,by go_num,by omega,HO2,hb.trans (q9.mono hb.size)⟩
         case measure=>simp [intOf];omega)
      | (have q9:Below wj.heap.size wj wf3:=af qb qwf3
         clear cp0 cp1 cp2 cp3 cp4 cp5 cp6 cb0 cb1 cb2 cb3;go_wp2_with fail;go_roundw
         case rel=>exact ⟨i2+1,O2,rfl,by go_num,by omega,HO2,hb.trans (q9.mono hb.size)⟩
         case measure=>simp [intOf];omega)
   have hi3:((i2:Int) < (p:Int))=False:=by simp;omega
   have hin:L.joints.take i2=L.joints:=List.take_of_length_le (by rw [HLJ.out];exact hge2);rw [hin,HS2.out] at HO;obtain rfl:=HO.out;have HL2':=HL2.out;clear hin HO hfl cA0 cA1 cA3;go_wp2_with fail;clear cA2;go_loopw [5,9] (fun ov iv wr=>∃ (i3:Nat) (O:List UInt8),ov=ah O∧iv=.int .i64 (i3:Nat)∧i3≤q∧Hid (S2 ++ (L.drivers.take i3).flatMap (az L.bodies)=O)∧Below w1.heap.size w1 wr) (fun _ iv _=>q - (intOf iv).toNat)
   case atStart=>exact ⟨0,S2,rfl,rfl,Nat.zero_le _,Qh (by simp),hb⟩
   case round =>
    clear hb xa bwa hsO;obtain ⟨i3,O,rfl,rfl,hi3',HO,hb⟩:=hrel;rename World=>wk;have xa:=x1.below hb hlw1;have bwa:=q1.trans (hb.mono q1.size);obtain ⟨cA0,cA1,cA2,cA3⟩:=xa.c4;have hfl:=bC (az L.bodies) L.drivers i3;have hsO:=ag O
    have hlO:O.length≤34+30000 * n+200 * p+60 * q:=by
     rw [← HO.out,List.length_append];have h9:=HFD.out;omega
    rcases Nat.lt_or_ge i3 q with hlt3 | hge3
    ·have hi4:((i3:Int) < (q:Int))=True:=by simp;omega
     obtain ⟨g,o,dv,e1,hg,_,hbi,hDr⟩:=(H.out.drivers.dr bwa).at_ hlt3;subst e1;obtain ⟨hdn,di,y,ei,hy⟩:=HK.out.driver dv (List.mem_of_getElem? hbi);have hil:di < n:=by rw [← HLB.out];exact (List.getElem?_eq_some_iff.1 hy).1
     obtain ⟨gb,ob,y',e1,hgb,_,hy',hBy⟩:=(H.out.bodies.bd bwa).at_ hil;rw [hy] at hy';injection hy' with hy';subst hy' e1;obtain ⟨A',n',c',k0,k1,hM,_⟩:=hBy;have hby:=HK.out.body y (List.mem_of_getElem? hy);have hyn:=hby.nm;obtain ⟨d0,d1,_⟩:=hDr;rw [ei] at d1;have hsd:=ag dv.name;have hsy:=ag y.name;obtain ⟨g1,eg1⟩:∃ t,[100,114,105,118,101,114,32] ++ dv.name=t:=⟨_,rfl⟩;have ag1:=av ([100,114,105,118,101,114,32]) (dv.name);rw [eg1] at ag1;have lg1:g1.length=7+dv.name.length:=by rw [← eg1,List.length_append];try simp
     have kg1:(9223372036854775807 < 7+dv.name.length)=False:=eq_false (by omega);have zg1:=ag g1;obtain ⟨g2,eg2⟩:∃ t,g1 ++ [32]=t:=⟨_,rfl⟩;have ag2:=av (g1) ([32]);rw [eg2] at ag2;have lg2:g2.length=g1.length+1:=by rw [← eg2,List.length_append];try simp
     have kg2:(9223372036854775807 < g1.length+1)=False:=eq_false (by omega);have zg2:=ag g2;obtain ⟨g3,eg3⟩:∃ t,g2 ++ y.name=t:=⟨_,rfl⟩;have ag3:=av (g2) (y.name);rw [eg3] at ag3;have lg3:g3.length=g2.length+y.name.length:=by rw [← eg3,List.length_append];try simp
     have kg3:(9223372036854775807 < g2.length+y.name.length)=False:=eq_false (by omega);have zg3:=ag g3;obtain ⟨g4,eg4⟩:∃ t,g3 ++ [59,10]=t:=⟨_,rfl⟩;have ag4:=av (g3) ([59,10]);rw [eg4] at ag4;have lg4:g4.length=g3.length+2:=by rw [← eg4,List.length_append];try simp
     have kg4:(9223372036854775807 < g3.length+2)=False:=eq_false (by omega);have zg4:=ag g4
     have hdt:az L.bodies dv=g4:=by
      rw [← eg4,← eg3,← eg2,← eg1];unfold az;rw [ei,mg hy]
     have hfs:=bE (az L.bodies) hbi;have hfl2:=bC (az L.bodies) L.drivers (i3+1);rw [hfs,List.length_append,hdt] at hfl2;rw [hdt] at hfs;have h9:=HFD.out;obtain ⟨O2,eO2⟩:∃ t,O ++ g4=t:=⟨_,rfl⟩;have aO2:=av O g4;rw [eO2] at aO2;have kO2:(9223372036854775807 < O.length+g4.length)=False:=eq_false (by omega);have HO2:Hid (S2 ++ (L.drivers.take (i3+1)).flatMap (az L.bodies)=O2):=Qh (by rw [hfs,← List.append_assoc,HO.out,eO2]);have f1:((di:Int) < (n:Int)):=by omega
     have f2:((i3:Int) < (q:Int)):=by omega
     have hga:g < wk.heap.size:=hg;have hgb':gb < wk.heap.size:=hgb;clear hM k1 hby hy ei hdt hfs hfl hfl2 h9 hbi eO2 lg1 lg2 lg3 lg4 eg1 eg2 eg3 eg4;go_wp2_with fail;go_quiet (fail);go_wp2_with fail;go_roundw
     case rel=>first | exact ⟨i3+1,O2,rfl,by go_num,by omega,HO2,hb⟩ | exact ⟨i3+1,O2,rfl,by go_num,by omega,HO2,aa hb _⟩
     case measure=>simp [intOf];omega
    have hi4:((i3:Int) < (q:Int))=False:=by simp;omega
    have hin:L.drivers.take i3=L.drivers:=List.take_of_length_le (by rw [HLD.out];exact hge3);rw [hin,HS3.out] at HO;obtain rfl:=HO.out;obtain ⟨v,hv⟩:∃ v,eI L.bodies=v:=⟨_,rfl⟩;have HV:=Qh hv;clear hin hv hfl;go_wp2_with fail;(with_reducible refine (sR _ A n c B p d C q e L.name L.bodies (H.out.bodies.bd bwa) (by omega) (fun b hb=>by have:=(HK.out.body b hb).np;omega) v HV.out).mono ?_);rintro e' wz ⟨rfl,qz⟩;have bz:=bwa.trans (qz.mono bwa.size);clear cA0 cA1 cA2 cA3;by_cases h65:65536 < S3.length
    ·have f65:((65536:Int) < (S3.length:Int))=True:=eq_true (by omega)
     have hoE:aO L=4:=by unfold aO;rw [if_neg (by rw [HC.out];decide),if_pos (Or.inr (by rw [HT3.out];exact h65))]
     have hoT:aY L=[]:=by unfold aY;rw [if_neg (by rw [hoE];decide)]
     have HOE:=Qh (And.intro hoE hoT);clear hoE hoT;cases v
     all_goals
      go_wp2_with fail;go_ret2;exact ⟨by rw [HOE.out.1,HOE.out.2];rfl,bz⟩
    have f65:((65536:Int) < (S3.length:Int))=False:=eq_false (by omega);have H65:=Qh h65;cases v
    ·have hoE:aO L=0:=by
      unfold aO;rw [if_neg (by rw [HC.out];decide),if_neg (by rw [HT3.out,HV.out];intro hh;rcases hh with hh | hh;exact absurd hh (by decide);exact H65.out hh)]
     have hoT:aY L=S3:=by unfold aY;rw [if_pos hoE,HT3.out]
     have HOE:=Qh (And.intro hoE hoT);clear hoE hoT;go_wp2_with fail;go_ret2;exact ⟨by rw [HOE.out.1,HOE.out.2];rfl,bz⟩
    have hoE:aO L=4:=by unfold aO;rw [if_neg (by rw [HC.out];decide),if_pos (Or.inl HV.out)]
    have hoT:aY L=[]:=by unfold aY;rw [if_neg (by rw [hoE];decide)]
    have HOE:=Qh (And.intro hoE hoT);clear hoE hoT;go_wp2_with fail;go_ret2;exact ⟨by rw [HOE.out.1,HOE.out.2];rfl,bz⟩
theorem wrap_i64 {u:Int}(h1:-9223372036854775808≤u) (h2:u≤9223372036854775807):IntKind.i64.wrap u=u:=by rw [IntKind.wrap_i64];omega
theorem mm {n:Nat}(h:n≤reachBytes):n≤140737488355328:=by unfold reachBytes at h;omega
theorem du.words {k:Nat}{w:World}{g o:Nat}{r:RD}(h:du w g o r k):RdW r:=by
 obtain ⟨b,A,n,c,D,m,e,_,_,_,hQ⟩:=h;exact ⟨hQ.2.1.1,hQ.2.2.1.1⟩
theorem SlS.markW {k:Nat}{w:World}{A:Option Addr}{n c:Nat}{l:List aX}(h:SlS (dw k) 7 w A n c l):∀ m∈l,MkW m:=by
 intro m hm;obtain ⟨i,hi,e⟩:=List.getElem_of_mem hm;obtain ⟨g,o,a,_,_,_,ha,hp⟩:=h.at_ (i:=i) (by rw [← h.1];exact hi);rw [List.getElem?_eq_getElem hi] at ha;injection ha with ha;rw [← ha,e] at hp;exact ⟨hp.2.1.words,hp.2.2.1.words⟩
theorem LkS.words {k:Nat}{w:World}{A B C:Option Addr}{n c p d q e:Nat}{L:ay}(h:LkS k w A n c B p d C q e L):LkW L:=by
 intro b hb;obtain ⟨i,hi,e1⟩:=List.getElem_of_mem hb;obtain ⟨g,o,a,_,_,_,ha,hp⟩:=h.bodies.at_ (i:=i) (by rw [← h.bodies.1];exact hi);rw [List.getElem?_eq_getElem hi] at ha;injection ha with ha;rw [← ha,e1] at hp;obtain ⟨A',n',c',_,_,hM,_⟩:=hp;exact hM.markW
theorem du.small {K k:Nat}{w:World}{g o:Nat}{r:RD}(h:du w g o r K) (h1:r.num.length≤k) (h2:r.den.length≤k):du w g o r k:=by
 obtain ⟨b,A,n,c,D,m,e,c1,c2,c3,hQ⟩:=h;refine ⟨b,A,n,c,D,m,e,c1,c2,c3,hQ.1,hQ.2.1,hQ.2.2.1,?_,?_⟩
 ·rw [hQ.2.1.2.1];exact h1
 rw [hQ.2.2.1.2.1];exact h2
theorem SlS.mono_ {α:Type}{P P':World→Nat→Nat→α→Prop}{s:Nat}{w:World}{A:Option Addr}{n c:Nat}{l:List α}(h:SlS P s w A n c l) (hP:∀ g o a,a∈l→P w g o a→P' w g o a):SlS P' s w A n c l:=by
 refine ⟨h.1,h.2.1,fun hn=>?_⟩;obtain ⟨g,o,e,hg,h3⟩:=h.2.2 hn;exact ⟨g,o,e,hg,fun i a ha=>hP _ _ _ (List.mem_of_getElem? ha) (h3 i a ha)⟩
section
variable {P:Program}{ops:Array Oper}{Q:Exit→Act→World→Prop}{fr:(Nat→Value)→Act}{R:Nat→Value→World→Prop}{id:Nat}{w:World}{x0:Nat→Value}
end
def Grw (p:Value→World→Prop):Prop:=∀ v w w',p v w→Below w.heap.size w w'→p v w'
def lJ:List (Value→World→Prop)→Prop
  | []=>True
  | p :: l=>Grw p∧lJ l
theorem lJ.get:∀ (l:List (Value→World→Prop)),lJ l→∀ i v w w',l.getD i (fun _ _=>True) v w→Below w.heap.size w w'→l.getD i (fun _ _=>True) v w':=by
 intro l
 induction l with
 | nil=>intro _ i v w w' _ _;simp
 | cons p l ih =>
  intro h i v w w' hp hk
  cases i with
  | zero=>exact h.1 v w w' hp hk
  | succ i=>exact ih h.2 i v w w' hp hk
def cI (w:World) (g0:Nat):Prop:=∀ o v,w.cell? ⟨g0,o,none⟩=some v→v=ah []∨v=.slice none 0 0∨v=.bool false
def Off (g0:Nat) (w w':World):Prop:=(∀ g,g≠g0→w'.heap[g]?=w.heap[g]?)∧w'.heap.size=w.heap.size
theorem Off.refl (g0:Nat) (w:World):Off g0 w w:=⟨fun _ _=>rfl,rfl⟩
theorem Off.set {g0:Nat}{w w':World}(h:Off g0 w w') (i:Nat) (u:Value):Off g0 w (w'.setCell ⟨g0,i,none⟩ u) :=
 ⟨fun g hg=>(Below.heap_setCell w' ⟨g0,i,none⟩ u g hg).trans (h.1 g hg),by simp [World.setCell,h.2]⟩
section
variable {g0:Nat}{w w':World}
theorem cI.str {g o:Nat}{s:List UInt8}(z:cI w g0) (h:w.cell? ⟨g,o,none⟩=some (ah s)) (hs:s≠[]):g≠g0:=by
 rintro rfl;rcases z o _ h with e | e | e
 ·injection e with e
  injection e with e;injection e with e;exact hs e
 ·cases e
 cases e
theorem bj {g o:Nat}(hg:g≠g0) (h:Off g0 w w'):w'.cell? ⟨g,o,none⟩=w.cell? ⟨g,o,none⟩:=by
 unfold World.cell?;rw [h.1 g hg]
theorem Wd.off {A:Option Addr}{n c:Nat}{l:List Nat}(x:Wd w A n c l) (z:cI w g0) (h:Off g0 w w'):Wd w' A n c l:=by
 refine ⟨x.1,x.2.1,x.2.2.1,fun hn=>?_⟩;obtain ⟨g,o,cur,fr,e,hr,hc⟩:=x.2.2.2 hn
 have hne:g≠g0:=by
  rintro rfl;have h0:=hc 0 hn;rw [← hr.cell] at h0;rcases z _ _ h0 with e | e | e <;> cases e
 exact ⟨g,o,cur,fr,e,hr.same (h.1 g hne),hc⟩
theorem QD.off {b:Bool}{A D:Option Addr}{n c m e k:Nat}{r:RD}(x:QD w b A n c D m e r k) (z:cI w g0) (h:Off g0 w w'):QD w' b A n c D m e r k:=⟨x.1,x.2.1.off z h,x.2.2.1.off z h,x.2.2.2⟩
theorem du.off {g o k:Nat}{r:RD}(hg:g≠g0) (x:du w g o r k) (z:cI w g0) (h:Off g0 w w'):du w' g o r k:=by
 obtain ⟨b,A,n,c,D,m,e,h1,h2,h3,h4⟩:=x;exact ⟨b,A,n,c,D,m,e,(bj hg h).trans h1,(bj hg h).trans h2,(bj hg h).trans h3,h4.off z h⟩
theorem dw.off {g o k:Nat}{m:aX}(hm:m.name≠[]) (x:dw k w g o m) (z:cI w g0) (h:Off g0 w w'):dw k w' g o m:=by
 have hg:=z.str x.1 hm;exact ⟨(bj hg h).trans x.1,x.2.1.off hg z h,x.2.2.1.off hg z h,x.2.2.2⟩
theorem SlS.off {α:Type}{P:World→Nat→Nat→α→Prop}{s:Nat}{A:Option Addr}{n c:Nat}{l:List α}(x:SlS P s w A n c l) (hP:∀ g o a,a∈l→P w g o a→P w' g o a) (h:Off g0 w w'):SlS P s w' A n c l:=by
 refine ⟨x.1,x.2.1,fun hn=>?_⟩;obtain ⟨g,o,e,hg,h3⟩:=x.2.2 hn;exact ⟨g,o,e,by rw [h.2];exact hg,fun i a ha=>hP _ _ _ (List.mem_of_getElem? ha) (h3 i a ha)⟩
theorem SlS.offM {k:Nat}{A:Option Addr}{n c:Nat}{l:List aX}(hm:∀ m∈l,m.name≠[]) (x:SlS (dw k) 7 w A n c l) (z:cI w g0) (h:Off g0 w w'):SlS (dw k) 7 w' A n c l:=x.off (fun _ _ a ha y=>y.off (hm a ha) z h) h
theorem dd.off {g o k:Nat}{b:aA}(hb:b.name≠[]) (hm:∀ m∈b.pts,m.name≠[]) (x:dd k w g o b) (z:cI w g0) (h:Off g0 w w'):dd k w' g o b:=by
 obtain ⟨A,n,c,h1,h2,h3,h4⟩:=x;have hg:=z.str h1 hb;exact ⟨A,n,c,(bj hg h).trans h1,(bj hg h).trans h2,h3.offM hm z h,h4⟩
theorem g9.off {g o:Nat}{j:bi}(hj:j.name≠[]) (x:g9 w g o j) (z:cI w g0) (h:Off g0 w w'):g9 w' g o j:=by
 have hg:=z.str x.1 hj;exact ⟨(bj hg h).trans x.1,(bj hg h).trans x.2.1,(bj hg h).trans x.2.2.1,(bj hg h).trans x.2.2.2.1,(bj hg h).trans x.2.2.2.2.1,(bj hg h).trans x.2.2.2.2.2.1,(bj hg h).trans x.2.2.2.2.2.2.1,x.2.2.2.2.2.2.2⟩
theorem hH.off {g o:Nat}{d:bq}(hd:d.name≠[]) (x:hH w g o d) (z:cI w g0) (h:Off g0 w w'):hH w' g o d:=by
 have hg:=z.str x.1 hd;exact ⟨(bj hg h).trans x.1,(bj hg h).trans x.2.1,x.2.2⟩
structure tY (L:ay):Prop where
  bodies:∀ b∈L.bodies,b.name≠[]∧∀ m∈b.pts,m.name≠[]
  joints:∀ j∈L.joints,j.name≠[]
  drivers:∀ d∈L.drivers,d.name≠[]
theorem LkS.off {k:Nat}{A B C:Option Addr}{n c p d q e:Nat}{L:ay}(hL:tY L) (x:LkS k w A n c B p d C q e L) (z:cI w g0) (h:Off g0 w w'):LkS k w' A n c B p d C q e L :=
 ⟨x.name,x.bodies.off (fun _ _ a ha y=>y.off (hL.bodies a ha).1 (hL.bodies a ha).2 z h) h,x.joints.off (fun _ _ a ha y=>y.off (hL.joints a ha) z h) h,x.drivers.off (fun _ _ a ha y=>y.off (hL.drivers a ha) z h) h⟩
theorem Blk.zero {g t:Nat}{cs:Array Value}(x:Blk w g t cs) (h:cs.toList.all (fun v=>match v with | .string s=>s.data.isEmpty | .slice none 0 0=>true | .bool false=>true | _=>false)=true):cI w g:=by
 intro o v hv;rw [x.cell] at hv;have hm:v∈cs.toList:=by rw [Array.mem_toList_iff];exact Array.mem_of_getElem? hv
 have:=List.all_eq_true.1 h v hm;split at this
 ·rename_i s
  left;obtain ⟨d⟩:=s;have e:d=#[]:=by simpa using this
  subst e;rfl
 ·exact .inr (.inl rfl)
 ·exact .inr (.inr rfl)
 cases this
end
theorem ux (w:World) (A:Option Addr) (n c:Nat) (B:Option Addr) (p d:Nat) (C:Option Addr) (q e:Nat) (L:ay) (h:LkS 40 w A n c B p d C q e L) (htab:Tab w):Calls Tryz.prog 29 #[.agg #[ah L.name,.slice A n c,.slice B p d,.slice C q e]] w (fun e' w'=>e'=.returned (.tuple #[ah (aY L),cS (aO L)])∧Below w.heap.size w w'):=by
 by_cases hc:bN L=0
 ·exact rh w A n c B p d C q e L h htab hc
 have h1:aO L=bN L:=if_pos hc;have h2:aY L=[]:=if_neg (by rw [h1];exact hc);rw [h1,h2];exact pL w A n c B p d C q e L h hc
theorem uy (w:World) (A:Option Addr) (n c:Nat) (B:Option Addr) (p d:Nat) (C:Option Addr) (q e:Nat) (L:ay) (h:LkS 40 w A n c B p d C q e L):Calls Tryz.prog 33 #[.agg #[ah L.name,.slice A n c,.slice B p d,.slice C q e]] w (fun e' w'=>e'=.returned (.tuple #[ah (aY L),.int .i64 (aO L)])∧Below w.heap.size w w'):=by
 by_cases hc:bN L=0
 ·exact rj w A n c B p d C q e L h hc
 have h1:aO L=bN L:=if_pos hc;have h2:aY L=[]:=if_neg (by rw [h1];exact hc);rw [h1,h2];exact pQ w A n c B p d C q e L h hc
def eT (k:Nat) (w:World) (g o:Nat) (L:ay):Prop:=∃ A n c B p d C q e,w.cell? ⟨g,o,none⟩=some (ah L.name)∧w.cell? ⟨g,o+1,none⟩=some (.slice A n c)∧w.cell? ⟨g,o+2,none⟩=some (.slice B p d)∧w.cell? ⟨g,o+3,none⟩=some (.slice C q e)∧LkS k w A n c B p d C q e L
theorem eT.belw {k:Nat}{w w':World}{g o:Nat}{L:ay}(h:eT k w g o L) (hb:Below w.heap.size w w'):eT k w' g o L:=by
 obtain ⟨A,n,c,B,p,d,C,q,e,h0,h1,h2,h3,h4⟩:=h;exact ⟨A,n,c,B,p,d,C,q,e,aw h0 hb,aw h1 hb,aw h2 hb,aw h3 hb,h4.belw hb⟩
theorem SlS.lk {k:Nat}{w w':World}{A:Option Addr}{n c:Nat}{l:List ay}(h:SlS (eT k) 4 w A n c l) (hb:Below w.heap.size w w'):SlS (eT k) 4 w' A n c l:=h.belw (fun _ _ _ h=>h.belw hb) hb
theorem mn:∀ (Ls:List ay),cf Ls=0→(Ls.flatMap pkL).length≤65600 * Ls.length
 | [],_=>by simp
 | L :: r,h=>by
  unfold cf at h;split at h
  ·rename_i h0
   have h1:=mn r h;have h2:(pkL L).length≤65600:=nJ (eS h0);simp only [List.flatMap_cons,List.length_append,List.length_cons];omega
  rename_i h0;exact absurd h h0
theorem mo {Ls:List ay}{i:Nat}(h:cf (Ls.take i)=0) (hi:i≤16):((Ls.take i).flatMap pkL).length≤1049600:=by
 have h1:=mn _ h;have h2:(Ls.take i).length≤i:=by rw [List.length_take];omega
 have:=Nat.mul_le_mul_left 65600 h2;omega
theorem pR (w:World) (A:Option Addr) (n c:Nat) (Ls:List ay) (h:SlS (eT 40) 4 w A n c Ls) (htab:Tab w) (ht6:T64 w) (hn:n≤1000000):Calls Tryz.prog 11 #[.slice A n c] w (fun e' w'=>e'=.returned (.tuple #[ah (eR Ls),cS (cK Ls)])∧Below w.heap.size w w'):=by
 have hln:=h.1;have hnc:=h.2.1;have H:=Qh h;have HTab:=Qh htab;have HT6:=Qh ht6;clear h htab ht6;by_cases h16:16 < n
 ·have f16:((16:Int) < (n:Int))=True:=eq_true (by omega)
  have hp:=f7 (Ls:=Ls) (by omega);rw [hp.1,hp.2];clear hp;go_in;go_wp2_with fail;go_ret2;exact ⟨rfl,ae w⟩
 have f16:((16:Int) < (n:Int))=False:=eq_false (by omega);obtain ⟨I,hI⟩:∃ I,Lib.itoa (n:Int)=I:=⟨_,rfl⟩;have hlI:I.length≤11:=by rw [← hI];exact dS (n:=n) (k:=0) (by omega)
 have hsI:=ag I;obtain ⟨h1,eh1⟩:∃ t,[108,105,110,107,119,111,114,107,32,49,32] ++ I=t:=⟨_,rfl⟩;have ah1:=av ([108,105,110,107,119,111,114,107,32,49,32]) (I);rw [eh1] at ah1;have lh1:h1.length=11+I.length:=by rw [← eh1,List.length_append];try simp
 have kh1:(9223372036854775807 < 11+I.length)=False:=eq_false (by omega);have zh1:=ag h1;obtain ⟨h2,eh2⟩:∃ t,h1 ++ [10]=t:=⟨_,rfl⟩;have ah2:=av (h1) ([10]);rw [eh2] at ah2;have lh2:h2.length=h1.length+1:=by rw [← eh2,List.length_append];try simp
 have kh2:(9223372036854775807 < h1.length+1)=False:=eq_false (by omega);have zh2:=ag h2;have hh2:im n=h2:=by unfold im;rw [hI,eh1,eh2]
 have HH:=Qh hh2;have HI:=Qh hI;have HLN:=Qh hln;have hl2:h2.length≤23:=by omega
 clear eh1 eh2 hI hh2 hln lh1 lh2 hlI;go_in;go_wp2_with fail;have B0:Bu w.heap.size w.heap.size (w.alloc (.cells #[.pointer none,.slice none 0 0] 70)) []:=Bu.new;have q0:Below w.heap.size w (w.alloc (.cells #[.pointer none,.slice none 0 0] 70)):=(ae w).alloc Qr _;generalize (w.alloc (.cells #[.pointer none,.slice none 0 0] 70))=w1 at B0 q0 ⊢;(with_reducible refine (gI w1 (n:Int) (by omega) (by omega) (HTab.out.belw q0)).mono ?_);rintro e' w2 ⟨rfl,hb2⟩;rw [HI.out];have B2:=B0.belw hb2;have q2:=q0.trans (hb2.mono q0.size);clear B0 hb2 q0;go_wp2_with fail;(with_reducible refine (bP _ _ _ _ h2 B2 (by simp only [List.length_nil];omega)).mono ?_);rintro e' w3 ⟨rfl,B3,q3,_⟩;rw [List.nil_append] at B3;have q3:=q2.trans q3;have HB3:=Qh B3;clear B2 B3 q2;go_wp2_with fail;go_loopw [21] (fun iv wr=>∃ i:Nat,iv=.int .i64 (i:Nat)∧i≤n∧Hid (cf (Ls.take i)=0)∧Hid (Bu w.heap.size w.heap.size wr (h2 ++ (Ls.take i).flatMap pkL))∧Below w.heap.size w wr) (fun iv _=>n - (intOf iv).toNat)
 case atStart=>exact ⟨0,rfl,Nat.zero_le _,Qh rfl,by simpa using HB3,q3⟩
 case round =>
  clear HB3;obtain ⟨i,rfl,hi,HE,HB,hb⟩:=hrel;rename World=>wa;rcases Nat.lt_or_ge i n with hlt | hge
  ·have hi1:((i:Int) < (n:Int))=True:=by simp;omega
   obtain ⟨g,o,L,e1,hg,_,hbi,hLk⟩:=(H.out.lk hb).at_ hlt;subst e1;obtain ⟨A1,n1,c1,B1,p1,d1,C1,q1,e1,c00,c01,c02,c03,hK⟩:=hLk;have hga:g < wa.heap.size:=hg;have HK:=Qh hK;have HBI:=Qh hbi;have hBl:w.heap.size < wa.heap.size:=HB.out.lt;clear hK hbi;go_wp2_with fail;have xp:Blk (wa.alloc (.cells #[ah L.name,.slice A1 n1 c1,.slice B1 p1 d1,.slice C1 q1 e1] 36)) wa.heap.size 36 #[ah L.name,.slice A1 n1 c1,.slice B1 p1 d1,.slice C1 q1 e1]:=aj _ _ _ rfl;have qb:Below wa.heap.size wa (wa.alloc (.cells #[ah L.name,.slice A1 n1 c1,.slice B1 p1 d1,.slice C1 q1 e1] 36)):=(ae wa).alloc Qr _;have HBb:=Qh (HB.out.belw qb);have HTb:=Qh ((HTab.out.belw hb).belw qb);have HSb:=Qh ((HT6.out.belw hb).belw qb);have HKb:=Qh (HK.out.belw qb);clear HB HK c00 c01 c02 c03;generalize (wa.alloc (.cells #[ah L.name,.slice A1 n1 c1,.slice B1 p1 d1,.slice C1 q1 e1] 36))=wb at xp qb HBb HTb HSb HKb ⊢;(with_reducible refine (ux wb A1 n1 c1 B1 p1 d1 C1 q1 e1 L HKb.out HTb.out).mono ?_);rintro e' wc ⟨rfl,qc⟩;have qbc:=af qb qc;by_cases hE:aO L=0
   ·have hT0:aY L=cH L:=if_pos hE
    have hlT:=eS hE;have hst:=bE pkL HBI.out;have HE1:Hid (cf (Ls.take (i+1))=0):=Qh (by rw [fS HBI.out HE.out];exact hE);rw [hT0,hE];obtain ⟨T,hT⟩:∃ T,cH L=T:=⟨_,rfl⟩;rw [hT] at hlT ⊢;obtain ⟨J,hJ⟩:∃ J,Lib.itoa (T.length:Int)=J:=⟨_,rfl⟩;have hlJ:J.length≤11:=by rw [← hJ];exact dS (n:=T.length) (k:=0) (by omega)
    have hsJ:=ag J;have hsT:=ag T;obtain ⟨X,hX⟩:∃ X,lH (ij T)=X:=⟨_,rfl⟩;have hlX:X.length=8:=by rw [← hX];exact ik _
    have hsX:=ag X;obtain ⟨s1,es1⟩:∃ t,J ++ [32]=t:=⟨_,rfl⟩;have as1:=av (J) ([32]);rw [es1] at as1;have ls1:s1.length=J.length+1:=by rw [← es1,List.length_append];try simp
    have ks1:(9223372036854775807 < J.length+1)=False:=eq_false (by omega);have zs1:=ag s1;obtain ⟨s2,es2⟩:∃ t,s1 ++ X=t:=⟨_,rfl⟩;have as2:=av (s1) (X);rw [es2] at as2;have ls2:s2.length=s1.length+X.length:=by rw [← es2,List.length_append];try simp
    have ks2:(9223372036854775807 < s1.length+X.length)=False:=eq_false (by omega);have zs2:=ag s2;obtain ⟨s3,es3⟩:∃ t,s2 ++ [10]=t:=⟨_,rfl⟩;have as3:=av (s2) ([10]);rw [es3] at as3;have ls3:s3.length=s2.length+1:=by rw [← es3,List.length_append];try simp
    have ks3:(9223372036854775807 < s2.length+1)=False:=eq_false (by omega);have zs3:=ag s3;obtain ⟨s4,es4⟩:∃ t,s3 ++ T=t:=⟨_,rfl⟩;have as4:=av (s3) (T);rw [es4] at as4;have ls4:s4.length=s3.length+T.length:=by rw [← es4,List.length_append];try simp
    have ks4:(9223372036854775807 < s3.length+T.length)=False:=eq_false (by omega);have zs4:=ag s4;have hpk:pkL L=s4:=by unfold pkL kV;rw [hT,hJ,hX,es1,es2,es3,es4]
    rw [hpk] at hst;have HFS:Hid (h2 ++ (Ls.take (i+1)).flatMap pkL=h2 ++ (Ls.take i).flatMap pkL ++ s4):=Qh (by rw [hst,List.append_assoc])
    have hlw:(h2 ++ (Ls.take i).flatMap pkL).length+s4.length≤140737488355328:=by
     have:=mo HE.out (by omega);rw [List.length_append];omega
    have HW:=Qh hlw;have HJ:=Qh hJ;have HX:=Qh hX;have hev:cS 0=.nilIface:=if_pos rfl;rw [hev];clear hev hT0 hE hst hT hJ hX hlX es1 es2 es3 es4 hpk hlw ls1 ls2 ls3 ls4;go_wp2_with fail;(with_reducible refine (gI wc (T.length:Int) (by omega) (by omega) (HTb.out.belw qc)).mono ?_);rintro e' wd ⟨rfl,qd⟩;rw [HJ.out];have qcd:=af qbc qd;have qbd:=af qc qd;go_wp2_with fail;(with_reducible refine (rG wd T (by omega)).mono ?_);rintro e' we ⟨rfl,qe⟩;have qce:=af qcd qe;have qbe:=af qbd qe;go_wp2_with fail;(with_reducible refine (tW we (ij T) (mh T) (HSb.out.belw qbe)).mono ?_);rintro e' wf ⟨rfl,qf⟩;rw [HX.out];have qcf:=af qce qf;have qbf:=af qbe qf;go_wp2_with fail;(with_reducible refine (bP _ _ _ _ s4 (HBb.out.belw qbf) HW.out).mono ?_);rintro e' wg ⟨rfl,Bg,qg,_⟩;have HBg:Hid (Bu w.heap.size w.heap.size wg (h2 ++ (Ls.take (i+1)).flatMap pkL)):=Qh (by rw [HFS.out];exact Bg);have bg:=(hb.trans (qcf.mono (Nat.le_of_lt hBl))).trans qg;clear Bg HFS;go_wp2_with fail;go_roundw
    case rel=>exact ⟨i+1,by go_num,by omega,HE1,HBg,bg⟩
    case measure=>simp [intOf];omega
   have hp:=f9 (Ls:=Ls) (by rw [HLN.out];exact h16) (by rw [fC HBI.out HE.out hE];exact hE);rw [fC HBI.out HE.out hE] at hp;rw [eVp hE];have HP:=Qh (And.intro hp (eVp hE));clear hp;go_wp2_with fail;go_ret2;exact ⟨by rw [HP.out.1.1,HP.out.1.2,HP.out.2];rfl,hb.trans (qbc.mono hb.size)⟩
  have hi1:((i:Int) < (n:Int))=False:=by simp;omega
  have hin:Ls.take i=Ls:=List.take_of_length_le (by rw [HLN.out];exact hge);rw [hin] at HB HE;have hbd:h2 ++ Ls.flatMap pkL=df Ls:=by unfold df;rw [HLN.out,HH.out]
  rw [hbd] at HB;have HP:Hid (¬ 16 < Ls.length):=Qh (by rw [HLN.out];exact h16);obtain ⟨S,hS⟩:∃ S,df Ls=S:=⟨_,rfl⟩;rw [hS] at HB;have HS:=Qh hS;clear hin hbd hS;go_wp2_with fail;(with_reducible refine (pD _ _ _ _ HB.out).mono ?_);rintro e' wl ⟨rfl,rfl⟩;by_cases h65:65536 < S.length
  ·have f65:((65536:Int) < (S.length:Int))=True:=eq_true (by omega)
   have hp:=ip HP.out HE.out (by rw [HS.out];exact h65);have HQ:=Qh hp;clear hp;go_wp2_with fail;go_ret2;exact ⟨by rw [HQ.out.1,HQ.out.2];rfl,hb⟩
  have f65:((65536:Int) < (S.length:Int))=False:=eq_false (by omega);have hp:=kW HP.out HE.out (by rw [HS.out];exact h65);rw [HS.out] at hp;have HQ:=Qh hp;clear hp;go_wp2_with fail;(with_reducible refine (lC _ _ _ _ HB.out).mono ?_);rintro e' wm ⟨rfl,qm⟩;go_wp2_with fail;go_ret2;exact ⟨by rw [HQ.out.1,HQ.out.2];rfl,hb.trans qm⟩
theorem sX (w:World) (A:Option Addr) (n c:Nat) (Ls:List ay) (h:SlS (eT 40) 4 w A n c Ls) (htab:Tab w) (hn:n≤1000000):Calls Tryz.prog 12 #[.slice A n c] w (fun e' w'=>e'=.returned (.tuple #[ah (eR Ls),.int .i64 (cK Ls)])∧Below w.heap.size w w'):=by
 have hln:=h.1;have hnc:=h.2.1;have H:=Qh h;have HTab:=Qh htab;clear h htab;by_cases h16:16 < n
 ·have f16:((16:Int) < (n:Int))=True:=eq_true (by omega)
  have hp:=f7 (Ls:=Ls) (by omega);rw [hp.1,hp.2];clear hp;go_in;go_wp2_with fail;go_ret2;exact ⟨rfl,ae w⟩
 have f16:((16:Int) < (n:Int))=False:=eq_false (by omega);obtain ⟨I,hI⟩:∃ I,Lib.itoa (n:Int)=I:=⟨_,rfl⟩;have hlI:I.length≤11:=by rw [← hI];exact dS (n:=n) (k:=0) (by omega)
 have hsI:=ag I;obtain ⟨h1,eh1⟩:∃ t,[108,105,110,107,119,111,114,107,32,49,32] ++ I=t:=⟨_,rfl⟩;have ah1:=av ([108,105,110,107,119,111,114,107,32,49,32]) (I);rw [eh1] at ah1;have lh1:h1.length=11+I.length:=by rw [← eh1,List.length_append];try simp
 have kh1:(9223372036854775807 < 11+I.length)=False:=eq_false (by omega);have zh1:=ag h1;obtain ⟨h2,eh2⟩:∃ t,h1 ++ [10]=t:=⟨_,rfl⟩;have ah2:=av (h1) ([10]);rw [eh2] at ah2;have lh2:h2.length=h1.length+1:=by rw [← eh2,List.length_append];try simp
 have kh2:(9223372036854775807 < h1.length+1)=False:=eq_false (by omega);have zh2:=ag h2;have hh2:im n=h2:=by unfold im;rw [hI,eh1,eh2]
 have HH:=Qh hh2;have HI:=Qh hI;have HLN:=Qh hln;have hl2:h2.length≤23:=by omega
 clear eh1 eh2 hI hh2 hln lh1 lh2 hlI;go_in;go_wp2_with fail;(with_reducible refine (gI w (n:Int) (by omega) (by omega) HTab.out).mono ?_);rintro e' w2 ⟨rfl,hb2⟩;rw [HI.out];go_wp2_with fail;go_loopw [4,5] (fun ov iv wr=>∃ (i:Nat) (O:List UInt8),ov=ah O∧iv=.int .i64 (i:Nat)∧i≤n∧Hid (cf (Ls.take i)=0)∧Hid (h2 ++ (Ls.take i).flatMap pkL=O)∧Below w.heap.size w wr) (fun _ iv _=>n - (intOf iv).toNat)
 case atStart=>exact ⟨0,h2,rfl,rfl,Nat.zero_le _,Qh rfl,Qh (by simp),hb2⟩
 case round =>
  obtain ⟨i,O,rfl,rfl,hi,HE,HO,hb⟩:=hrel;rename World=>wa
  have hlO:O.length≤1049700:=by
   rw [← HO.out,List.length_append];have:=mo HE.out (by omega);omega
  have zO:=ag O;rcases Nat.lt_or_ge i n with hlt | hge
  ·have hi1:((i:Int) < (n:Int))=True:=by simp;omega
   obtain ⟨g,o,L,e1,hg,_,hbi,hLk⟩:=(H.out.lk hb).at_ hlt;subst e1;obtain ⟨A1,n1,c1,B1,p1,d1,C1,q1,e1,c00,c01,c02,c03,hK⟩:=hLk;have hga:g < wa.heap.size:=hg;have HK:=Qh hK;have HBI:=Qh hbi;clear hK hbi;go_wp2_with fail;(with_reducible refine (uy wa A1 n1 c1 B1 p1 d1 C1 q1 e1 L HK.out).mono ?_);rintro e' wc ⟨rfl,qbc⟩;clear c00 c01 c02 c03 HK;by_cases hE:aO L=0
   ·have hT0:aY L=cH L:=if_pos hE
    have hlT:=eS hE;have hst:=bE pkL HBI.out;have HE1:Hid (cf (Ls.take (i+1))=0):=Qh (by rw [fS HBI.out HE.out];exact hE);rw [hT0,hE];obtain ⟨T,hT⟩:∃ T,cH L=T:=⟨_,rfl⟩;rw [hT] at hlT ⊢;obtain ⟨J,hJ⟩:∃ J,Lib.itoa (T.length:Int)=J:=⟨_,rfl⟩;have hlJ:J.length≤11:=by rw [← hJ];exact dS (n:=T.length) (k:=0) (by omega)
    have hsJ:=ag J;have hsT:=ag T;obtain ⟨X,hX⟩:∃ X,lH (ij T)=X:=⟨_,rfl⟩;have hlX:X.length=8:=by rw [← hX];exact ik _
    have hsX:=ag X;obtain ⟨s1,es1⟩:∃ t,J ++ [32]=t:=⟨_,rfl⟩;have as1:=av (J) ([32]);rw [es1] at as1;have ls1:s1.length=J.length+1:=by rw [← es1,List.length_append];try simp
    have ks1:(9223372036854775807 < J.length+1)=False:=eq_false (by omega);have zs1:=ag s1;obtain ⟨s2,es2⟩:∃ t,s1 ++ X=t:=⟨_,rfl⟩;have as2:=av (s1) (X);rw [es2] at as2;have ls2:s2.length=s1.length+X.length:=by rw [← es2,List.length_append];try simp
    have ks2:(9223372036854775807 < s1.length+X.length)=False:=eq_false (by omega);have zs2:=ag s2;obtain ⟨s3,es3⟩:∃ t,s2 ++ [10]=t:=⟨_,rfl⟩;have as3:=av (s2) ([10]);rw [es3] at as3;have ls3:s3.length=s2.length+1:=by rw [← es3,List.length_append];try simp
    have ks3:(9223372036854775807 < s2.length+1)=False:=eq_false (by omega);have zs3:=ag s3;obtain ⟨s4,es4⟩:∃ t,s3 ++ T=t:=⟨_,rfl⟩;have as4:=av (s3) (T);rw [es4] at as4;have ls4:s4.length=s3.length+T.length:=by rw [← es4,List.length_append];try simp
    have ks4:(9223372036854775807 < s3.length+T.length)=False:=eq_false (by omega);have zs4:=ag s4;have hpk:pkL L=s4:=by unfold pkL kV;rw [hT,hJ,hX,es1,es2,es3,es4]
    rw [hpk] at hst;obtain ⟨O2,eO2⟩:∃ t,O ++ s4=t:=⟨_,rfl⟩;have aO2:=av O s4;rw [eO2] at aO2;have kO2:(9223372036854775807 < O.length+s4.length)=False:=eq_false (by omega);have HO2:Hid (h2 ++ (Ls.take (i+1)).flatMap pkL=O2):=Qh (by rw [hst,← List.append_assoc,HO.out,eO2]);have HJ:=Qh hJ;have HX:=Qh hX;clear hT0 hE hst hT hJ hX hlX es1 es2 es3 es4 hpk ls1 ls2 ls3 ls4 eO2 HO;go_wp2_with fail;(with_reducible refine (gI wc (T.length:Int) (by omega) (by omega) (HTab.out.belw (hb.trans (qbc.mono hb.size)))).mono ?_);rintro e' wd ⟨rfl,qd⟩;rw [HJ.out];have qcd:=af qbc qd;go_wp2_with fail;(with_reducible refine (tR wd T (by omega)).mono ?_);rintro e' we ⟨rfl,qe⟩;have qce:=af qcd qe;go_wp2_with fail;(with_reducible refine (tT we (ij T) (mh T)).mono ?_);rintro e' wf ⟨rfl,qf⟩;rw [HX.out];have qcf:=af qce qf;go_wp2_with fail;go_roundw
    case rel=>exact ⟨i+1,O2,rfl,by go_num,by omega,HE1,HO2,hb.trans (qcf.mono hb.size)⟩
    case measure=>simp [intOf];omega
   have hp:=f9 (Ls:=Ls) (by rw [HLN.out];exact h16) (by rw [fC HBI.out HE.out hE];exact hE);rw [fC HBI.out HE.out hE] at hp;obtain ⟨x,hx⟩:∃ x,aO L=x:=⟨_,rfl⟩;rw [hx] at hE hp ⊢;have HP:=Qh hp;have hx0:(x == 0)=false:=by simpa using hE
   clear hp hx;go_wp2_with fail;go_ret2;exact ⟨by rw [HP.out.1,HP.out.2];rfl,hb.trans (qbc.mono hb.size)⟩
  have hi1:((i:Int) < (n:Int))=False:=by simp;omega
  have hin:Ls.take i=Ls:=List.take_of_length_le (by rw [HLN.out];exact hge);rw [hin] at HO HE;have hbd:df Ls=O:=by unfold df;rw [HLN.out,HH.out,HO.out]
  have HP:Hid (¬ 16 < Ls.length):=Qh (by rw [HLN.out];exact h16);have HS:=Qh hbd;clear hin hbd;by_cases h65:65536 < O.length
  ·have f65:((65536:Int) < (O.length:Int))=True:=eq_true (by omega)
   have hp:=ip HP.out HE.out (by rw [HS.out];exact h65);have HQ:=Qh hp;clear hp;go_wp2_with fail;go_ret2;exact ⟨by rw [HQ.out.1,HQ.out.2];rfl,hb⟩
  have f65:((65536:Int) < (O.length:Int))=False:=eq_false (by omega);have hp:=kW HP.out HE.out (by rw [HS.out];exact h65);rw [HS.out] at hp;have HQ:=Qh hp;clear hp;go_wp2_with fail;go_ret2;exact ⟨by rw [HQ.out.1,HQ.out.2];rfl,hb⟩
def okM (m:aX):Prop:=m.x.num.length≤40∧m.x.den.length≤40∧m.y.num.length≤40∧m.y.den.length≤40
def okB (b:aA):Prop:=∀ m∈b.pts,okM m
def okL (L:ay):Prop:=∀ b∈L.bodies,okB b
theorem iq {α:Type}{P:α→Prop}{l:List α}{i:Nat}{a:α}(h:l[i]?=some a) (h0:∀ x∈l.take i,P x) (ha:P a):∀ x∈l.take (i+1),P x:=by
 intro x hx;rw [List.take_add_one,h] at hx;rcases List.mem_append.1 hx with hx | hx
 ·exact h0 x hx
 simp at hx;rw [hx];exact ha
theorem LkS.ok40 {K:Nat}{w:World}{A B C:Option Addr}{n c p d q e:Nat}{L:ay}(h:LkS K w A n c B p d C q e L) (hl:okL L):LkS 40 w A n c B p d C q e L:=by
 refine ⟨h.name,h.bodies.mono_ fun g o b hb hp=>?_,h.joints,h.drivers⟩;obtain ⟨A',n',c',c0,c1,hM,hn⟩:=hp;refine ⟨A',n',c',c0,c1,hM.mono_ fun g o m hm hp=>?_,hn⟩;have:=hl b hb m hm;exact ⟨hp.1,hp.2.1.small this.1 this.2.1,hp.2.2.1.small this.2.2.1 this.2.2.2,hp.2.2.2⟩
theorem SlS.ok40 {K:Nat}{w:World}{A:Option Addr}{n c:Nat}{Ls:List ay}(h:SlS (eT K) 4 w A n c Ls) (hl:∀ L∈Ls,okL L):SlS (eT 40) 4 w A n c Ls :=
 h.mono_ fun g o L hL hp=>by
  obtain ⟨A,n,c,B,p,d,C,q,e,h0,h1,h2,h3,h4⟩:=hp;exact ⟨A,n,c,B,p,d,C,q,e,h0,h1,h2,h3,h4.ok40 (hl L hL)⟩
theorem nM (w:World) (A:Option Addr) (n c:Nat) (Ls:List ay) (h:SlS (eT reachBytes) 4 w A n c Ls) :
 Calls Tryz.prog 10 #[.slice A n c] w (fun e w'=>(∃ v,e=.returned (.bool v)∧(v=false→n≤40∧∀ L∈Ls,okL L))∧Below w.heap.size w w'):=by
 have hnc:=h.2.1;have HLN:=Qh h.1;have H:=Qh h;clear h;by_cases ha:40 < n
 ·have fa:((40:Int) < (n:Int))=True:=eq_true (by omega)
  go_in;go_wp2;go_ret;exact ⟨⟨true,rfl,fun h=>by cases h⟩,ae w⟩
 have fa:((40:Int) < (n:Int))=False:=eq_false (by omega);go_in;go_wp2_with fail;go_loopw [3] (fun iv wr=>∃ i:Nat,iv=.int .i64 (i:Nat)∧i≤n∧Hid (∀ L∈Ls.take i,okL L)∧Below w.heap.size w wr) (fun iv _=>n - (intOf iv).toNat)
 case atStart=>exact ⟨0,rfl,Nat.zero_le _,Qh (fun L hL=>by simp at hL),ae w⟩
 case round =>
  obtain ⟨i,rfl,hi,HI,hb⟩:=hrel;rename World=>wa;rcases Nat.lt_or_ge i n with hlt | hge
  ·have hi1:((i:Int) < (n:Int))=True:=by simp;omega
   obtain ⟨g,o,L,e1,hg,_,hbi,hLk⟩:=(H.out.lk hb).at_ hlt;subst e1;obtain ⟨A1,n1,c1,B1,p1,d1,C1,q1,e1,c00,c01,c02,c03,hK⟩:=hLk;have hga:g < wa.heap.size:=hg;have HK:=Qh hK;have HBI:=Qh hbi;have hnc1:=hK.bodies.2.1;have hln1:=hK.bodies.1;have HLN1:=Qh hln1;clear hK hbi hln1;have qb:Below wa.heap.size wa (wa.alloc (.cells #[ah L.name,.slice A1 n1 c1,.slice B1 p1 d1,.slice C1 q1 e1] 36)):=(ae wa).alloc Qr _;by_cases hb1:20 < n1
   ·have fb:((20:Int) < (n1:Int))=True:=eq_true (by omega)
    go_wp2;go_ret;exact ⟨⟨true,rfl,fun h=>by cases h⟩,hb.trans (qb.mono hb.size)⟩
   have fb:((20:Int) < (n1:Int))=False:=eq_false (by omega);by_cases hb2:40 < p1
   ·have fc:((40:Int) < (p1:Int))=True:=eq_true (by omega)
    go_wp2;go_ret;exact ⟨⟨true,rfl,fun h=>by cases h⟩,hb.trans (qb.mono hb.size)⟩
   have fc:((40:Int) < (p1:Int))=False:=eq_false (by omega);by_cases hb3:20 < q1
   ·have fd:((20:Int) < (q1:Int))=True:=eq_true (by omega)
    go_wp2;go_ret;exact ⟨⟨true,rfl,fun h=>by cases h⟩,hb.trans (qb.mono hb.size)⟩
   have fd:((20:Int) < (q1:Int))=False:=eq_false (by omega);by_cases hb4:6≤i∧n≤16
   ·have fe:((6:Int)≤(i:Int))=True:=eq_true (by omega)
    have ff:((n:Int)≤16)=True:=eq_true (by omega);go_wp2;go_ret;exact ⟨⟨true,rfl,fun h=>by cases h⟩,hb.trans (qb.mono hb.size)⟩
   obtain ⟨v6,hv6⟩:∃ v,decide ((6:Int)≤(i:Int))=v:=⟨_,rfl⟩;have xL0:Blk (wa.alloc (.cells #[ah L.name,.slice A1 n1 c1,.slice B1 p1 d1,.slice C1 q1 e1] 36)) wa.heap.size 36 #[ah L.name,.slice A1 n1 c1,.slice B1 p1 d1,.slice C1 q1 e1]:=aj _ _ _ rfl;have go2:∀ (v:Bool),(v=true→((n:Int)≤16)=False)→decide ((6:Int)≤(i:Int))=v→True:=fun _ _ _=>trivial
   clear go2
   have hs6:(((6:Int)≤(i:Int))=True∧((n:Int)≤16)=False)∨((6:Int)≤(i:Int))=False:=by
    by_cases h6:6≤i
    ·exact .inl ⟨eq_true (by omega),eq_false (by omega)⟩
    exact .inr (eq_false (by omega))
   clear hv6 v6 hb4;have HX:=Qh xL0;have HKb:=Qh (HK.out.belw qb);have hbb:=hb.trans (qb.mono hb.size);clear xL0 HK;rcases hs6 with ⟨fe,ff⟩ | fe
   all_goals
    go_wp2_with fail;generalize (wa.alloc (.cells #[ah L.name,.slice A1 n1 c1,.slice B1 p1 d1,.slice C1 q1 e1] 36))=w1 at HX HKb hbb qb ⊢;have hlL:wa.heap.size < w1.heap.size:=HX.out.lt;clear c00 c01 c02 c03;go_loopw [5] (fun jv w2=>∃ j:Nat,jv=.int .i64 (j:Nat)∧j≤n1∧Hid (∀ b∈L.bodies.take j,okB b)∧Below w1.heap.size w1 w2) (fun jv _=>n1 - (intOf jv).toNat)
    case atStart=>exact ⟨0,rfl,Nat.zero_le _,Qh (fun b hb=>by simp at hb),ae w1⟩
    case round =>
     obtain ⟨j,rfl,hj,HJ,hb2⟩:=hrel;rename World=>w2;have xL:=HX.out.below hb2 hlL;have cL:=xL.cell 1;have hlL2:wa.heap.size < w2.heap.size:=xL.lt;rcases Nat.lt_or_ge j n1 with hjl | hjg
     ·have hj1:((j:Int) < (n1:Int))=True:=by simp;omega
      obtain ⟨g,o,b,e2,hg2,_,hbj,hB⟩:=(HKb.out.bodies.bd hb2).at_ hjl;subst e2;obtain ⟨A',n',c',k0,k1,hM,hnm⟩:=hB;have hnc':=hM.2.1;have HM:=Qh hM;have HBJ:=Qh hbj;have hg3:g < w2.heap.size:=hg2;clear hM hbj;by_cases hp4:20 < n'
      ·have fp:((20:Int) < (n':Int))=True:=eq_true (by omega)
       go_wp2;go_ret;exact ⟨⟨true,rfl,fun h=>by cases h⟩,hbb.trans (hb2.mono hbb.size)⟩
      have fp:((20:Int) < (n':Int))=False:=eq_false (by omega);go_wp2_with fail;clear cL k0;go_loopw [6] (fun kv w3=>∃ k:Nat,kv=.int .i64 (k:Nat)∧k≤n'∧Hid (∀ m∈b.pts.take k,okM m)∧Below w2.heap.size w2 w3) (fun kv _=>n' - (intOf kv).toNat)
      case atStart=>exact ⟨0,rfl,Nat.zero_le _,Qh (fun m hm=>by simp at hm),ae w2⟩
      case round =>
       obtain ⟨k,rfl,hk,HKk,hb3⟩:=hrel;rename World=>w3;have xL3:=xL.below hb3 xL.lt;have cL3:=xL3.cell 1;have hlL3:wa.heap.size < w3.heap.size:=xL3.lt;have bw3:=(hbb.trans (hb2.mono hbb.size)).trans (hb3.mono (hbb.trans (hb2.mono hbb.size)).size);have k1:=aw k1 hb3;have hg4:g < w3.heap.size:=Nat.lt_of_lt_of_le hg3 hb3.size;rcases Nat.lt_or_ge k n' with hkl | hkg
       ·have hk1:((k:Int) < (n':Int))=True:=by simp;omega
        obtain ⟨g',o',m,e3,hg',_,hmk,hM⟩:=(HM.out.mk_ hb3).at_ hkl;subst e3;have HMK:=Qh hmk;obtain ⟨d0,⟨b1,Ax,nx,cx,Dx,mx,ex,d1,d2,d3,hQ1⟩,⟨b2,Ay,ny,cy,Dy,my,ey,d4,d5,d6,hQ2⟩,hmn⟩:=hM;have d2:w3.cell? ⟨g',o'+k * 7+2,none⟩=some (.slice Ax nx cx):=d2;have d3:w3.cell? ⟨g',o'+k * 7+3,none⟩=some (.slice Dx mx ex):=d3;have d5:w3.cell? ⟨g',o'+k * 7+5,none⟩=some (.slice Ay ny cy):=d5;have d6:w3.cell? ⟨g',o'+k * 7+6,none⟩=some (.slice Dy my ey):=d6;have HQ:=Qh (And.intro hQ1.2.1.2.1 (And.intro hQ1.2.2.1.2.1 (And.intro hQ2.2.1.2.1 hQ2.2.2.1.2.1)));have s1:=mm hQ1.2.2.2.1;have s2:=mm hQ1.2.2.2.2;have s3:=mm hQ2.2.2.2.1;have s4:=mm hQ2.2.2.2.2;have u1:IntKind.i64.wrap ((nx:Int)+(mx:Int))=(nx:Int)+(mx:Int):=wrap_i64 (by omega) (by omega);have u2:IntKind.i64.wrap ((nx:Int)+(mx:Int)+(ny:Int))=(nx:Int)+(mx:Int)+(ny:Int):=wrap_i64 (by omega) (by omega);have u3:IntKind.i64.wrap ((nx:Int)+(mx:Int)+(ny:Int)+(my:Int))=(nx:Int)+(mx:Int)+(ny:Int)+(my:Int):=wrap_i64 (by omega) (by omega);have hgm:g' < w3.heap.size:=hg';clear hmk hQ1 hQ2;by_cases h40:20 < nx+mx+ny+my
        ·have f4:((20:Int) < (nx:Int)+(mx:Int)+(ny:Int)+(my:Int))=True:=eq_true (by omega)
         clear s1 s2 s3 s4;go_wp2;go_ret;exact ⟨⟨true,rfl,fun h=>by cases h⟩,bw3.alloc (by have:=bw3.size;omega) _⟩
        have f4:((20:Int) < (nx:Int)+(mx:Int)+(ny:Int)+(my:Int))=False:=eq_false (by omega)
        have hm6:okM m:=by
         refine ⟨?_,?_,?_,?_⟩
         ·rw [← HQ.out.1];omega
         ·rw [← HQ.out.2.1];omega
         ·rw [← HQ.out.2.2.1];omega
         rw [← HQ.out.2.2.2];omega
        have HJ2:=Qh (iq HMK.out HKk.out hm6);clear hm6 s1 s2 s3 s4;go_wp2_with fail;go_roundw
        case rel=>exact ⟨k+1,by go_num,by omega,HJ2,hb3.alloc hb3.size _⟩
        case measure=>simp [intOf];omega
       have hk1:((k:Int) < (n':Int))=False:=by simp;omega
       have hkn:b.pts.take k=b.pts:=List.take_of_length_le (by rw [HM.out.1];exact hkg);rw [hkn] at HKk;have HJ2:=Qh (iq HBJ.out HJ.out (fun m hm=>HKk.out m hm:okB b));clear hkn;go_wp2_with fail;go_roundw
       case rel=>exact ⟨j+1,by go_num,by omega,HJ2,hb2.trans (hb3.mono hb2.size)⟩
       case measure=>simp [intOf];omega
     have hj1:((j:Int) < (n1:Int))=False:=by simp;omega
     have hjn:L.bodies.take j=L.bodies:=List.take_of_length_le (by rw [HLN1.out];exact hjg);rw [hjn] at HJ;have HI2:=Qh (iq HBI.out HI.out (fun b hb=>HJ.out b hb:okL L));clear hjn;go_wp2_with fail;go_roundw
     case rel=>exact ⟨i+1,by go_num,by omega,HI2,hbb.trans (hb2.mono hbb.size)⟩
     case measure=>simp [intOf];omega
  have hi1:((i:Int) < (n:Int))=False:=by simp;omega
  have hin:Ls.take i=Ls:=List.take_of_length_le (by rw [HLN.out];exact hge);rw [hin] at HI;have hn40:n≤40:=by omega
  clear hin;go_wp2;go_ret;exact ⟨⟨false,rfl,fun _=>⟨hn40,HI.out⟩⟩,hb⟩
theorem tZ:ij [97]=3826002220:=by decide +kernel
theorem jq (w:World) (htab:Tab w) (ht:T64 w):Calls Tryz.prog 9 #[] w (ax w (.bool true)):=by
 have hnil:SlS (eT 40) 4 w none 0 0 []:=⟨rfl,Qr,fun h=>absurd h (by omega)⟩;have hE:cK []=0:=by decide +kernel
 have hT:eR []=[108,105,110,107,119,111,114,107,32,49,32,48,10]:=by decide +kernel
 have HTab:=Qh htab;have HT:=Qh ht;clear htab ht;go_in;go_wp2_with fail;(with_reducible refine (pR w none 0 0 [] hnil HTab.out HT.out (by omega)).mono ?_);rintro e' w1 ⟨rfl,hb1⟩;rw [hE,hT,show cS 0=.nilIface from if_pos rfl];clear hE hT;go_wp2_with fail;(with_reducible refine (rG w1 [97] (by decide)).mono ?_);rintro e' w2 ⟨rfl,hb2⟩;rw [tZ];have hb:=af hb1 hb2;go_wp2;go_ret;exact ⟨rfl,hb⟩
theorem rk (w:World) (A:Option Addr) (n c:Nat) (Ls:List ay) (h:SlS (eT reachBytes) 4 w A n c Ls) (htab:Tab w) (ht:T64 w):Calls Tryz.prog 3 #[.slice A n c] w (ax w (.bool true)):=by
 have H:=Qh h;have HTab:=Qh htab;have HT:=Qh ht;clear h htab ht;go_in;go_wp2_with fail;(with_reducible refine (jq w HTab.out HT.out).mono ?_);rintro e' w1 ⟨rfl,q1⟩;go_wp2_with fail;(with_reducible refine (nM w1 A n c Ls (H.out.lk q1)).mono ?_);rintro e' w2 ⟨⟨v,rfl,hv⟩,hb2⟩;have q2:=af q1 hb2;have HV:=Qh hv;clear hv hb2;cases v
 ·obtain ⟨hn,hL⟩:=HV.out rfl
  have H40:=Qh ((H.out.lk q2).ok40 hL);clear hL;go_wp2_with fail;(with_reducible refine (pR w2 A n c Ls H40.out (HTab.out.belw q2) (HT.out.belw q2) (by omega)).mono ?_);rintro e' w3 ⟨rfl,hb3⟩;have q3:=af q2 hb3;go_wp2_with fail;(with_reducible refine (sX w3 A n c Ls (H40.out.lk hb3) (HTab.out.belw q3) (by omega)).mono ?_);rintro e' w4 ⟨rfl,hb4⟩;have q4:=af q3 hb4;go_wp2_with fail;(with_reducible refine (ra w4 (cK Ls)).mono ?_);rintro e' w5 ⟨rfl,hb5⟩;have q5:=af q4 hb5;go_wp2;go_ret;exact ⟨rfl,q5⟩
 go_wp2_with fail;(with_reducible refine (jq w2 (HTab.out.belw q2) (HT.out.belw q2)).mono ?_);rintro e' w3 ⟨rfl,hb3⟩;have q3:=af q2 hb3;go_wp2;go_ret;exact ⟨rfl,q3⟩
end Go.Proofs.YtfilnhompchciaaGreatDoor
namespace Go.Proofs.YtfilnhompchciaaGreatDoor
open Go Go.RowKit Bn Go.ChangeShapes Go.WideShapes
attribute [local go_sem ↓] Go.wp_at_zero Go.wp_at_succ
theorem rH : Tryz.prog.globalNamed "math/bits.deBruijn64tab" = some 7 := by kernel_rfl
theorem sY:(Tryz.prog.globals[7]?).map (·.type)=some 265:=by kernel_rfl
theorem nN:Tryz.prog.cellsOf 265=64:=by kernel_rfl
theorem pS:Tryz.prog.cellsOf 5=1:=by kernel_rfl
theorem pT {H:Type}:(Rows.laid_math_bits_deBruijn64tab:DataW H)=Lib.tabData .u8 (Lib.deBruijn64tab.map fun z:Nat=>(z:Int)):=by kernel_rfl
theorem kY {rest : List (String × DataW Unit)} {W : World} (h : laidMet Tryz.prog (("math/bits.deBruijn32tab", Rows.laid_math_bits_deBruijn32tab) :: ("math/bits.deBruijn64tab", Rows.laid_math_bits_deBruijn64tab) :: rest) W) : T64 W := by
 obtain ⟨ps,⟨_,_,_,_,_,_,_,_,_,_,⟨g,t,cs,f,p,q,hg,ht,hv,hd,_,_⟩,_⟩,_,_⟩:=h;obtain rfl:=Option.some.inj (rH.symm.trans hg);obtain rfl:=Option.some.inj (sY.symm.trans ht);rw [pT] at hd
 have h9 : Lib.TabIs Tryz.prog W "math/bits.deBruijn64tab" .u8 (Lib.deBruijn64tab.map fun z : Nat => (z : Int)) := by
  unfold Lib.TabIs;rw [hv,← Lib.cells_of_tab Tryz.underlying265 Tryz.underlying5 pS nN hd]
 exact h9.cell rH 15 (by decide)
section
variable {H:Type}{enc:TypeId × Value→H}{W:World}
instance:Inhabited ay:=⟨⟨[],[],[],[]⟩⟩
theorem pU (fuel:Nat) (cs:List Value) (y:DataW H × List MemPlace) (g o:Nat) (hl:cs.length=4) (hc:∀ i,i < 4→W.cell? ⟨g,o+i,none⟩=cs[i]?) (ht:DataW.trod enc Tryz.prog W 0 (fun _=>true) true fuel 36 cs=some y) (hz:Szd 36 y.1):∃ a,eT reachBytes W g o a:=by
 match cs,hl with
 | [v0,v1,v2,v3],_ =>
  obtain ⟨A,n,c,B,p,d,C,q,e,L,rfl,rfl,rfl,rfl,hk⟩:=nt ht hz;have k0:=hc 0 (by omega);have k1:=hc 1 (by omega);have k2:=hc 2 (by omega);have k3:=hc 3 (by omega);exact ⟨L,A,n,c,B,p,d,C,q,e,k0,k1,k2,k3,hk⟩
variable {base:Nat}
theorem lK {v:Value}{d:DataW H}{p:List MemPlace}(hok:Value.okWide Tryz.prog W .any base 22 v) (h:DataW.Trod enc Tryz.prog W 0 (fun _=>true) true 22 v d p) (hz:Szd 22 d) :
 ∃ A n c Ls,v=.slice A n c∧SlS (eT reachBytes) 4 W A n c Ls:=by
 have hok2:=hok;unfold Value.okWide at hok2;rw [Tryz.underlying22] at hok2;obtain ⟨fuel,h⟩:=h
 have hcells:v.cells.toList=[v]:=by
  unfold Cell.okWide at hok2;rw [Tryz.underlying22] at hok2;cases v <;> first | rfl | (unfold Cell.ok at hok2;rw [Tryz.underlying22] at hok2;exact hok2.elim)
 rw [hcells] at h;obtain ⟨A,n,c,l,hv,h1⟩:=dP (eT reachBytes) 4 Tryz.underlying22 (by kernel_rfl) (by decide) pU h hz;exact ⟨A,n,c,l,hv,h1⟩
end
end Go.Proofs.YtfilnhompchciaaGreatDoor
