import Derived.Deep.RegionHeld3
import Derived.Deep.DrawnRows
import Derived.Test.YtfilnhompchciaaGreatDoorCards
import Derived.Test.YtfilnhompchciaaGreatDoorTie
import Derived.ProofKit
import Derived.WalkKit
import Derived.OpenShut
import Derived.Deep.DeepHandedRow
import Derived.Lib.LaidTab
import Derived.Shelf.Vars
import Derived.Deep.Slices
import Derived.SizedLaws
import Derived.BigQuiet
import Derived.Lib.TrailingZeros
import Derived.ChangeMaps5
import Derived.Test.YtfilnhompchciaaGreatDoorGD3
set_option linter.unusedVariables false
set_option maxHeartbeats 8000000
set_option maxRecDepth 100000
/- Walks: fraction.Parse. -/
namespace Go.Proofs.YtfilnhompchciaaGreatDoor
open Go Go.RowKit Bn
attribute [local go_sem ↓] Go.wp_at_zero Go.wp_at_succ
def Mx (w:World):Prop:=∃ m,w.cell? ⟨0,0,none⟩=some (.int .i64 m)
theorem Mx.belw {w w':World}(h:Mx w) (hb:Below w.heap.size w w'):Mx w':=by
 obtain ⟨m,hm⟩:=h;exact ⟨m,(hb.cell (p:=⟨0,0,none⟩) (World.block_lt_of_cell? w _ hm)).trans hm⟩
theorem p7 (w:World) (s:List UInt8) (c:UInt8) (a b:List UInt8) (f:Bool) (hm:Mx w) (hl:s.length≤65536) (hc:Lib.cut s [c]=(a,b,f)):Calls Tryz.prog 49 #[ag s,.string ⟨#[c]⟩] w (aw w (.tuple #[ag a,ag b,.bool f])):=by
 obtain ⟨m,hm⟩:=hm;refine (Tryz.strings_Cut ⟨s.toArray⟩ ⟨#[c]⟩ m w (by show s.length < _;omega) hm).mono fun e w' ⟨he,n,hw⟩=>⟨?_,hw ▸ aa (ae _) n⟩
 rw [he];show Ending.returned (.tuple #[ag (Lib.cut s [c]).1,ag (Lib.cut s [c]).2.1,.bool (Lib.cut s [c]).2.2])=_;rw [hc]
theorem mB (w:World) (n:Nat) (hn:n≤99999) (I:List UInt8) (hI:Lib.itoa (n:Int)=I) (htab:Tab w):Calls Tryz.prog 50 #[ag I] w (aw w (.tuple #[.int .i64 (n:Nat),.bool true])):=by
 have hd:=rM n;have h0:=rN n;have hl:=ft (n:=n) (k:=0) (by omega)
 have hl9:(Lib.itoa (n:Int)).length≤9:=by
  rw [Lib.itoa_nonneg,Lib.decDigits_length];have:=st 4 n (by omega);omega
 rw [hI] at hd h0 hl9;have HD:=Qh (And.intro hd (And.intro h0 hl9));have HI:=Qh hI;have HTab:=Qh htab;have f0:((0:Int)≤(n:Int))=True:=eq_true (by omega);have f1:((n:Int)≤99999)=True:=eq_true (by omega);clear hd h0 hl hl9 hI htab;go_in;go_wp2_with fail;(with_reducible refine (td w I n HD.out.2.2 HD.out.2.1 HD.out.1.1 HD.out.1.2).mono ?_);rintro e' w1 ⟨rfl,q1⟩;go_wp2_with fail;(with_reducible refine (jH w1 (n:Int) (by omega) (by omega) (HTab.out.belw q1)).mono ?_);rintro e' w2 ⟨rfl,hb2⟩;rw [HI.out];have q2:=af q1 hb2;go_wp2_with fail;go_ret2;exact ⟨rfl,q2⟩
theorem rP (w:World) (t x:List UInt8) (hn:t.length≤1000000) (hx:Lib.trimS t lX=x):Calls Tryz.prog 91 #[ag t,.string ⟨#[48,49,50,51,52,53,54,55,56,57,97,98,99,100,101,102]⟩] w (aw w (ag x)):=by
 subst hx;exact Any.strings_Trim_laid Tryz.lays160 (by kernel_rfl) ⟨t.toArray⟩ ⟨#[48,49,50,51,52,53,54,55,56,57,97,98,99,100,101,102]⟩ w (by show t.length≤_;omega) (by decide) (ascii_of_all (by decide))
theorem rQ (w:World) (h:Nat) (X:List UInt8) (hX:fq h=X):Calls Tryz.prog 51 #[ag X] w (aw w (.bool true)):=by
 have hl:X.length=8:=by rw [← hX];exact g9 h
 have ht:Lib.trimS X lX=[]:=by rw [← hX];exact rK (lc h)
 have zX:=aq X;have HT:=Qh ht;have hl8:((X.length:Int) == 8)=true:=by rw [hl];rfl
 have HL:=Qh hl;clear ht hX hl;go_in;go_wp2_with fail;(with_reducible refine (rP w X [] (by rw [HL.out];decide) HT.out).mono ?_);rintro e' w1 ⟨rfl,q1⟩;go_wp2;go_ret;exact ⟨rfl,q1⟩
theorem tw (w:World) (P S I:List UInt8) (h:S=P ++ I):Calls Tryz.prog 88 #[ag S,ag P] w (aw w (.tuple #[ag I,.bool true])):=by
 have e1:Lib.hasPrefix S P=true:=by unfold Lib.hasPrefix;rw [List.isPrefixOf_iff_prefix,h];exact List.prefix_append _ _
 have e2:Lib.trimPrefix S P=I:=by unfold Lib.trimPrefix;rw [e1,if_pos rfl,h];simp
 refine (Tryz.strings_CutPrefix ⟨S.toArray⟩ ⟨P.toArray⟩ w).mono fun e w' ⟨he,hw⟩=>⟨?_,hw ▸ ae _⟩
 rw [he];show Ending.returned (.tuple #[ag (Lib.trimPrefix S P),.bool (Lib.hasPrefix S P)])=_;rw [e1,e2]
theorem nQ (w:World) (n:Nat) (hn:n≤16) (R:List UInt8) (S:List UInt8) (hS:cQ n ++ R=S) (hl:S.length≤65536) (htab:Tab w) (hmx:Mx w):Calls Tryz.prog 48 #[ag S] w (aw w (.tuple #[.int .i64 (n:Nat),ag R,.nilIface])):=by
 obtain ⟨F,hF⟩:∃ F,cY n=F:=⟨_,rfl⟩;have hc:Lib.cut S [10]=(F,R,true):=by rw [← hS,jn,← hF];exact lM (ib n)
 obtain ⟨I,hI⟩:∃ I,Lib.itoa (n:Int)=I:=⟨_,rfl⟩;have hFI:F=[108,105,110,107,119,111,114,107,32,49,32] ++ I:=by rw [← hF,← hI];rfl
 have zS:=aq S;have f1:((65536:Int) < (S.length:Int))=False:=eq_false (by omega);have f2:((16:Int) < (n:Int))=False:=eq_false (by omega);have HC:=Qh hc;have HFI:=Qh hFI;have HI:=Qh hI;have HTab:=Qh htab;have HM:=Qh hmx;clear hc hFI hF hI hS htab hmx;go_in;go_wp2_with fail;(with_reducible refine (p7 w S 10 F R true HM.out hl HC.out).mono ?_);rintro e' w1 ⟨rfl,q1⟩;go_wp2_with fail;refine (tw w1 [108,105,110,107,119,111,114,107,32,49,32] F I HFI.out).mono ?_;rintro e' w2 ⟨rfl,hb2⟩;have q2:=af q1 hb2;go_wp2_with fail;(with_reducible refine (mB w2 n (by omega) I HI.out (HTab.out.belw q2)).mono ?_);rintro e' w3 ⟨rfl,hb3⟩;have q3:=af q2 hb3;go_wp2_with fail;refine bodyPost_ret (v:=.tuple #[.int .i64 (n:Nat),ag R,.nilIface]) (by simp [results,Tryz.results48,go_sem, *] <;> trivial) rfl ?_;exact ⟨rfl,q3⟩
end Go.Proofs.YtfilnhompchciaaGreatDoor
namespace Go.Proofs.YtfilnhompchciaaGreatDoor
open Go Go.RowKit Bn Go.ChangeShapes Go.WideShapes
attribute [local go_sem ↓] Go.wp_at_zero Go.wp_at_succ

theorem ic {H:Type}{enc:TypeId × Value→H}{W:World}{P:Program}(hl:laidOutB P=true) {W':World}(hb:Below W.heap.size W W'):∀ {ts:List TypeId}{vs:List Value}{ds:List (DataW H)}{ps:List MemPlace},(ts.all fun t=>P.readableRec t && decide (t < P.types.size))=true →
 DataW.TrodAll enc P W 0 (fun _=>true) true ts vs ds ps→DataW.TrodAll enc P W' 0 (fun b=>decide (b < W.heap.size)) true ts vs ds ps
 | [],[],[],_,_,h=>h
 | _ :: _,_ :: _,_ :: _,_,hr,h=>by
  have hlt:=h.lt;obtain ⟨p,q,h1,h2,e⟩:=h;rw [List.all_cons,Bool.and_eq_true,Bool.and_eq_true,decide_eq_true_eq] at hr;exact ⟨p,q,Below.trod hl hr.1.1 hr.1.2 h1 hb (fun x hx=>hlt x (by rw [e];exact List.mem_append_left _ hx)),ic hl hb hr.2 h2,e⟩
 | [],[],_ :: _,_,_,h=>h.elim
 | [],_ :: _,_,_,_,h=>h.elim
 | _ :: _,[],_,_,_,h=>h.elim
 | _ :: _,_ :: _,[],_,_,h=>h.elim
theorem p8 {H:Type}{enc:TypeId × Value→H}{W:World}{P:Program}{B:TypeId}{f:Func}{s:ChangeSpec}{W':World}{args:Array Value}{ds:List (DataW H)}{before:List MemPlace}(hl:laidOutB P=true) (hB:P.underlying B=some .bool)
 (hW:DataW.Whole enc P f.params.toList s.vars false W args.toList ds [] before) (hv:s.vars=[]) (hr:f.resultTypes=#[B]) (hp:(f.params.toList.all fun t=>P.readableRec t && decide (t < P.types.size))=true)
 (hres:(s.fn H (ds ++ [])).results=[.lit (.bool true)]) (hargs:(s.fn H (ds ++ [])).args=ds) (hvars:(s.fn H (ds ++ [])).vars=[]) (hb:Below W.heap.size W W') :
 s.post enc P f false true false false W args (.bool true) W':=by
 have hW':=hW;obtain ⟨p,q,hA,hV,rfl,_,_⟩:=hW;have hV':=hV;rw [hv] at hV';obtain ⟨_,rfl⟩:=trodVars_none hV';refine ⟨ds,[],_,[],p,[],hW',?_,?_,?_,hb.frame _,fun h=>by cases h⟩
 ·rw [hr,hres]
  exact trodAll_mk1 (shut_bool hB _)
 ·rw [hargs]
  exact ic hl hb hp hA
 rw [hv,hvars];rfl
theorem j0 {P:Program}{f:FuncId}{fn:Func}{s:ChangeSpec}{c:OpenClaim}
 (h1:(c.wf (OpenSpec.ofChange s) && laidOutB P && mapsRowed P && fn.params.all (P.readableRec ·) && namedTie P c.named s.vars && (c.stops == []) && (P.stops == []) && (c.knobs == []) && (P.stopKnobs == []))=true)
 (h2:(c.inPlace == P.inPlace f)=true) (h3:(c.unfollowed == P.unfollowed f)=true) (h4:(c.recurses == P.recurses f)=true) (h5:(c.named == P.varsNamed f)=true)
 (h6:((c.maps == (fn.params.toList ++ s.plain.varTypes P).any (P.mapsRec ·)) && (c.ifaces == (fn.params.toList ++ s.plain.varTypes P).any (P.ifacesRec ·)) && (c.mapsOut == P.mapsAmong fn.resultTypes.toList) &&
  (c.loops == (fn.params.toList ++ s.plain.varTypes P).any (P.loopsFrom ·)) && (c.wideKeys == (fn.params.toList ++ s.plain.varTypes P ++ fn.resultTypes.toList).any (P.wideKeysFrom ·)) &&
  s.vars.all (P.varReadable ·) && fn.resultTypes.all (fun t=>P.readableRec t && decide (t < P.types.size)) && (c.ifacesOut == fn.resultTypes.toList.any (P.ifacesRec ·)) && (c.loopsOut == fn.resultTypes.toList.any (P.loopsFrom ·)) && (c.plainKeys == P.plainKeys) && c.shortTexts.isNone && P.stopsHeard && P.mayEnter && (c.lifted == P.liftsFinal) && (P.make == some c.make) && (c.kinds == (if c.domain.isEmpty then [] else fn.params.toList.map fun t=>match P.underlying t with | some (.int k)=>some k | _=>none)) && (c.pinned == c.pinnedBy) &&
  (c.veiled == (fn.params.toList ++ s.plain.varTypes P ++ fn.resultTypes.toList).any (P.veiledRec ·)) && c.veiledFits P fn.params.toList (fn.params.toList ++ s.plain.varTypes P ++ fn.resultTypes.toList))=true):joinedFacts P f fn s c=true:=by
 unfold joinedFacts;simp only [Bool.and_eq_true] at h1 h6 ⊢;obtain ⟨⟨⟨⟨⟨⟨⟨⟨a0,a1⟩,a2⟩,a3⟩,a4⟩,a5⟩,a6⟩,a7⟩,a8⟩:=h1;obtain ⟨⟨⟨⟨⟨⟨⟨⟨⟨⟨⟨⟨⟨⟨⟨⟨⟨⟨b0,b1⟩,b2⟩,b3⟩,b4⟩,b5⟩,b6⟩,b7⟩,b8⟩,b9⟩,b10⟩,b11⟩,b12⟩,b13⟩,b14⟩,b15⟩,b16⟩,b17⟩,b18⟩:=h6;exact ⟨⟨⟨⟨⟨⟨⟨⟨⟨⟨⟨⟨⟨⟨⟨⟨⟨⟨⟨⟨⟨⟨⟨⟨⟨⟨⟨⟨⟨⟨⟨a0,a1⟩,a2⟩,a3⟩,a4⟩,a5⟩,a6⟩,a7⟩,a8⟩,h2⟩,h3⟩,h4⟩,h5⟩,b0⟩,b1⟩,b2⟩,b3⟩,b4⟩,b5⟩,b6⟩,b7⟩,b8⟩,b9⟩,b10⟩,b11⟩,b12⟩,b13⟩,b14⟩,b15⟩,b16⟩,b17⟩,b18⟩
theorem uS {i:Int}(h:(Lit.int .u8 i).wf=true):0≤i∧i≤255:=by simpa [Lit.wf,IntKind.min,IntKind.max,IntKind.signed,IntKind.bits] using h
section
variable {H:Type}{enc:TypeId × Value→H}{W:World}{base:Nat}
theorem p9 {t:TypeId}{fs:Array Field}{ts:List TypeId}{v:Value}(hu:Tryz.prog.underlying t=some (.struct fs)) (hts:Tryz.prog.cellTypes Tryz.prog.depth t=some ts) (hn:Tryz.prog.cellsOf t=ts.length) (h:Value.okWide Tryz.prog W .any base t v) :
 ∃ cs:Array Value,v=.agg cs∧cs.size=ts.length∧∀ (i:Nat) (v:Value) (u:TypeId),cs[i]?=some v→ts[i]?=some u→Cell.okWide Tryz.prog W .any base u v:=by
 unfold Value.okWide at h;rw [hu] at h;obtain ⟨cs,rfl,hsz,ts',hts',_,hc⟩:=h;rw [hts] at hts';injection hts' with e;subst e;rw [hn] at hsz;refine ⟨cs,rfl,hsz,fun i v u hi hu=>?_⟩;obtain ⟨u',h1,h2⟩:=hc i v hi;have hlt:i < ts.length:=by rw [← hsz];exact (Array.getElem?_eq_some_iff.1 hi).1
 rw [Nat.mod_eq_of_lt hlt,hu] at h1;injection h1 with h1;subst h1;exact h2
end
theorem j5 {W:World}(h:W.ShapedOpen Tryz.prog):∃ m,W.cell? ⟨0,0,none⟩=some (.int .i64 m) :=
 Go.Proofs.cell_of_shapedOpen_int (P:=Tryz.prog) (g:=0) (t:=3) (zero:=#[.int .i64 0]) h (of_decide_eq_true (by kernel_rfl)) (by kernel_rfl) rfl (by kernel_rfl) (by kernel_rfl) Tryz.underlying3
theorem up : Tryz.prog.globalNamed "internal/strconv.uint64pow10" = some 1 := by kernel_rfl
theorem tx:(Tryz.prog.globals[1]?).map (·.type)=some 214:=by kernel_rfl
theorem nR:Tryz.prog.cellsOf 214=20:=by kernel_rfl
theorem nS:Tryz.prog.cellsOf 117=1:=by kernel_rfl
theorem qh {H:Type}:(Rows.laid_internal_strconv_uint64pow10:DataW H)=Lib.tabData .u64 Lib.pow10Tab:=by kernel_rfl
theorem ld {rest : List (String × DataW Unit)} {W : World} (h : laidMet Tryz.prog (("math/bits.deBruijn32tab", Rows.laid_math_bits_deBruijn32tab) :: ("math/bits.deBruijn64tab", Rows.laid_math_bits_deBruijn64tab) :: ("internal/strconv.uint64pow10", Rows.laid_internal_strconv_uint64pow10) :: rest) W) : Tab W := by
 obtain ⟨ps,⟨_,_,_,_,_,_,_,_,_,_,⟨_,_,_,_,_,_,_,_,_,_,⟨g,t,cs,f,p,q,hg,ht,hv,hd,_,_⟩,_⟩,_⟩,_,_⟩:=h;obtain rfl:=Option.some.inj (up.symm.trans hg);obtain rfl:=Option.some.inj (tx.symm.trans ht);rw [qh] at hd;unfold Tab Lib.TabIs;rw [hv,← Lib.cells_of_tab Tryz.underlying214 Tryz.underlying117 nS nR hd]
noncomputable def low:Nat:=(World.holding Tryz.prog default ⟨#[],#[],[]⟩).heap.size
noncomputable def fJ (os:Os):World :=
  let w0:=World.holding Tryz.prog os ⟨#[.cells #[.string ⟨#[118,97,108,117,101,32,111,117,116,32,111,102,32,114,97,110,103,101]⟩] 258,.cells #[.string ⟨#[105,110,118,97,108,105,100,32,115,121,110,116,97,120]⟩] 258],#[],[]⟩
  { w0 with heap:=(((((((w0.heap.modify 1 fun
      | .cells _ t frozen=>.cells (#[.int .u64 1,.int .u64 10,.int .u64 100,.int .u64 1000,.int .u64 10000,.int .u64 100000,.int .u64 1000000,.int .u64 10000000,.int .u64 100000000,.int .u64 1000000000,.int .u64 10000000000,.int .u64 100000000000,.int .u64 1000000000000,.int .u64 10000000000000,.int .u64 100000000000000,.int .u64 1000000000000000,.int .u64 10000000000000000,.int .u64 100000000000000000,.int .u64 1000000000000000000,.int .u64 10000000000000000000]) t frozen
      | o=>o).modify 6 fun
      | .cells _ t frozen=>.cells (#[.int .u8 0,.int .u8 1,.int .u8 28,.int .u8 2,.int .u8 29,.int .u8 14,.int .u8 24,.int .u8 3,.int .u8 30,.int .u8 22,.int .u8 20,.int .u8 15,.int .u8 25,.int .u8 17,.int .u8 4,.int .u8 8,.int .u8 31,.int .u8 27,.int .u8 13,.int .u8 23,.int .u8 21,.int .u8 19,.int .u8 16,.int .u8 7,.int .u8 26,.int .u8 12,.int .u8 18,.int .u8 6,.int .u8 11,.int .u8 5,.int .u8 10,.int .u8 9]) t frozen
      | o=>o).modify 7 fun
      | .cells _ t frozen=>.cells (#[.int .u8 0,.int .u8 1,.int .u8 56,.int .u8 2,.int .u8 57,.int .u8 49,.int .u8 28,.int .u8 3,.int .u8 61,.int .u8 58,.int .u8 42,.int .u8 50,.int .u8 38,.int .u8 29,.int .u8 17,.int .u8 4,.int .u8 62,.int .u8 47,.int .u8 59,.int .u8 36,.int .u8 45,.int .u8 43,.int .u8 51,.int .u8 22,.int .u8 53,.int .u8 39,.int .u8 33,.int .u8 30,.int .u8 24,.int .u8 18,.int .u8 12,.int .u8 5,.int .u8 63,.int .u8 55,.int .u8 48,.int .u8 27,.int .u8 60,.int .u8 41,.int .u8 37,.int .u8 16,.int .u8 46,.int .u8 35,.int .u8 44,.int .u8 21,.int .u8 52,.int .u8 32,.int .u8 23,.int .u8 11,.int .u8 54,.int .u8 26,.int .u8 40,.int .u8 15,.int .u8 34,.int .u8 20,.int .u8 31,.int .u8 10,.int .u8 25,.int .u8 14,.int .u8 19,.int .u8 9,.int .u8 13,.int .u8 8,.int .u8 7,.int .u8 6]) t frozen
      | o=>o).modify 5 fun
      | .cells _ t frozen=>.cells (#[.int .u8 128,.int .u8 191,.int .u8 160,.int .u8 191,.int .u8 128,.int .u8 159,.int .u8 144,.int .u8 191,.int .u8 128,.int .u8 143,.int .u8 0,.int .u8 0,.int .u8 0,.int .u8 0,.int .u8 0,.int .u8 0,.int .u8 0,.int .u8 0,.int .u8 0,.int .u8 0,.int .u8 0,.int .u8 0,.int .u8 0,.int .u8 0,.int .u8 0,.int .u8 0,.int .u8 0,.int .u8 0,.int .u8 0,.int .u8 0,.int .u8 0,.int .u8 0]) t frozen
      | o=>o).modify 4 fun
      | .cells _ t frozen=>.cells ((Go.Pinned.utf8FirstZ.map fun z:Nat=>Value.int .u8 (z:Int)).toArray) t frozen
      | o=>o).modify 3 fun
      | .cells _ t frozen=>.cells (#[.iface 256 (.pointer (some ⟨low,0,none⟩))]) t frozen
      | o=>o).modify 2 fun
      | .cells _ t frozen=>.cells (#[.iface 256 (.pointer (some ⟨low+1,0,none⟩))]) t frozen
      | o=>o) }
theorem qi:ownKnob Tryz.prog.godebug=none:=by kernel_rfl
theorem qj:laidOutB Tryz.prog=true:=by kernel_rfl
section
variable {H:Type}{enc:TypeId × Value→H}{W:World}
theorem jq {a:Addr}{v:Value}(h:W.cell? a=some v):∃ g o,a=⟨g,o,none⟩∧g < W.heap.size:=by
 obtain ⟨g,o,s⟩:=a;unfold World.cell? at h;dsimp only at h;split at h
 ·rename_i c _ _ hb
  cases s with
  | none=>exact ⟨g,o,rfl,lt_of_block hb⟩
  | some _=>simp at h
 cases h
def Szd (t:TypeId) (d:DataW H):Prop:=∀ n∈DataW.weights Tryz.prog t d,n≤reachBytes
theorem Szd.field {t:TypeId}{fs:Array Field}{xs:List (DataW H × List MemPlace)}(hu:Tryz.prog.underlying t=some (.struct fs)) (h:Szd t (.agg (xs.map (·.1)))) {i:Nat}{f:Field}{y:DataW H × List MemPlace}(hf:fs[i]?=some f) (hy:xs[i]?=some y):Szd f.type y.1:=by
 intro n hn;refine h n ?_;rw [DataW.weights,hu];exact DataW.weights_mem_each (j:=i) (t:=f.type) (d:=y.1) (by rw [List.getElem?_map,Array.getElem?_toList,hf];rfl) (by rw [List.getElem?_map,hy];rfl) n hn
theorem dE {P:Program}{e:TypeId}:∀ {ds:List (DataW H)}{d:DataW H},d∈ds→∀ n∈DataW.weights P e d,n∈DataW.weightsAll P e ds
 | x :: ds,d,hd,n,hn=>by
  rw [DataW.weightsAll,List.mem_append];rcases List.mem_cons.1 hd with rfl | hd
  ·exact .inl hn
  exact .inr (dE hd n hn)
 | [],_,hd,_,_=>by cases hd
theorem Szd.elem {t e:TypeId}{l sp:List (DataW H)}(hu:Tryz.prog.underlying t=some (.slice e)) (h:Szd t (.slice l sp)) {d:DataW H}(hd:d∈l):Szd e d:=by
 intro n hn;refine h n ?_;rw [DataW.weights,hu];exact List.mem_cons_of_mem _ (List.mem_append_left _ (dE hd n hn))
theorem Szd.room {t e:TypeId}{l sp:List (DataW H)}(hu:Tryz.prog.underlying t=some (.slice e)) (h:Szd t (.slice l sp)):(l.length+sp.length) * Tryz.prog.bytesOf e≤reachBytes:=by
 refine h _ ?_;rw [DataW.weights,hu];exact List.mem_cons_self
theorem Szd.str {t:TypeId}{l:List UInt8}(h:Szd t (.lit (.string l):DataW H)):l.length≤reachBytes:=h _ (by simp [DataW.weights])
theorem tz {ts:List TypeId}{ds:List (DataW H)}(h:(DataW.weightsEach Tryz.prog ts ds).all (·≤reachBytes)=true) {j:Nat}{t:TypeId}{d:DataW H}(ht:ts[j]?=some t) (hd:ds[j]?=some d):Szd t d:=fun n hn=>by simpa using List.all_eq_true.1 h n (DataW.weights_mem_each ht hd n hn)
theorem rR {g o i:Nat}:(⟨g,o,none⟩:Addr).add i=⟨g,o+i,none⟩:=add_plain g o i
theorem ie {v:Value}{fuel:Nat}{x:DataW H × List MemPlace}(ht:DataW.trod enc Tryz.prog W 0 (fun _=>true) true fuel 63 [v]=some x) (hz:Szd 63 x.1) :
 ∃ A n c l,v=.slice A n c∧Wd W A n c l∧n≤reachBytes:=by
 rcases open_ints Tryz.underlying63 Tryz.underlying58 (by kernel_rfl) ht with ⟨hv,_⟩ | ⟨a,len,cap,zs,hv,_,hl,hcm,hzl,hx,hc,hwf⟩
 ·injection hv with hv _
  exact ⟨none,0,0,[],hv,Wd.nil_ W,Nat.zero_le _⟩
 injection hv with hv _;subst hv;rw [hx] at hz;have hrm:=hz.room Tryz.underlying63;have hb4:Tryz.prog.bytesOf 58=4:=by kernel_rfl
 rw [hb4] at hrm;have hz:zs.length=cap:=by simpa using hzl
 have hlr:len≤reachBytes:=by
  have:(lits (H:=H) .u32 (zs.take len)).length=len:=by simp [lits];omega
  omega
 have h0:∀ i,i < zs.length→0≤zs.getD i 0∧zs.getD i 0≤4294967295:=by
  intro i hi;have h1:=hwf (zs.getD i 0) (by rw [List.getD_eq_getElem?_getD,List.getElem?_eq_getElem hi];simp);simpa [Lit.wf,IntKind.min,IntKind.max,IntKind.signed,IntKind.bits] using h1
 refine ⟨some a,len,cap,(zs.take len).map Int.toNat,rfl,⟨?_,?_,hl,fun hn=>?_⟩,hlr⟩
 ·intro y hy
  obtain ⟨z,hz1,rfl⟩:=List.mem_map.1 hy;obtain ⟨i,hi,he⟩:=List.getElem_of_mem hz1;have hi2:i < zs.length:=by rw [List.length_take] at hi;omega
  have h1:=h0 i hi2;rw [List.getD_eq_getElem?_getD,List.getElem?_eq_getElem hi2] at h1;rw [List.getElem_take] at he;simp only [Option.getD_some] at h1;rw [he] at h1;omega
 ·rw [List.length_map,List.length_take];omega
 have hc0:=hc 0 (by omega);have e0:a.add 0=a:=by simp [Addr.add]
 rw [e0] at hc0;obtain ⟨g,o,rfl,_⟩:=jq hc0;have hc1:=hc0;unfold World.cell? at hc1;dsimp only at hc1;split at hc1
 ·rename_i cur el fr hb
  have hr:cZ W g cur fr:=⟨el,.inr (sG (i:=o) (k:=.u32) (z:=zs.getD 0 0) (by simpa using hc1)),hb⟩;refine ⟨g,o,cur,fr,rfl,hr,fun i hi=>?_⟩;have h1:=hc i (by omega);have h2:=h0 i (by omega);rw [rR,hr.cell] at h1;rw [h1]
  have e4:wd ((zs.take len).map Int.toNat) i=(zs.getD i 0).toNat:=by
   unfold wd;rw [List.getD_eq_getElem?_getD,List.getElem?_map,List.getElem?_take,if_pos hi,List.getD_eq_getElem?_getD];rcases zs[i]? with _ | z <;> rfl
  rw [e4,Int.toNat_of_nonneg h2.1]
 cases hc1
theorem l5:Tryz.prog.cellsOf 4=1:=by kernel_rfl
theorem jr:Tryz.prog.cellsOf 3=1:=by kernel_rfl
theorem dx:Tryz.prog.cellsOf 9=1:=by kernel_rfl
theorem lf:Tryz.prog.cellsOf 63=1:=by kernel_rfl
theorem nT:Tryz.prog.cellsOf 65=3:=by kernel_rfl
theorem ak {α:Type}{xs:List α}{i:Nat}(h:i < xs.length):xs[i]?=some xs[i]:=List.getElem?_eq_getElem h
theorem lg {v0 v1 v2:Value}{fuel:Nat}{x:DataW H × List MemPlace}(ht:DataW.trod enc Tryz.prog W 0 (fun _=>true) true fuel 65 [v0,v1,v2]=some x) (hz:Szd 65 x.1) :
 ∃ b A n c D m e r,v0=.bool b∧v1=.slice A n c∧v2=.slice D m e∧QD W b A n c D m e r reachBytes:=by
 obtain ⟨xs,n,_,hx,_,hxl,hf⟩:=DataW.trod_struct Tryz.underlying65 ht;rw [hx] at hz;have f0:DataW.trod enc Tryz.prog W 0 (fun _=>true) true n 4 (List.take (Tryz.prog.cellsOf 4) [v0,v1,v2])=xs[0]?:=hf 0 _ rfl;have f1:DataW.trod enc Tryz.prog W 0 (fun _=>true) true n 63 (List.take (Tryz.prog.cellsOf 63) [v1,v2])=xs[1]?:=hf 1 _ rfl;have f2:DataW.trod enc Tryz.prog W 0 (fun _=>true) true n 63 (List.take (Tryz.prog.cellsOf 63) [v2])=xs[2]?:=hf 2 _ rfl;rw [l5] at f0;rw [lf] at f1 f2;have hx0:xs.length=3:=hxl;rw [ak (show 0 < xs.length by omega)] at f0;have z0:=hz.field Tryz.underlying65 (i:=0) rfl (ak (show 0 < xs.length by omega));rw [ak (show 1 < xs.length by omega)] at f1;have z1:=hz.field Tryz.underlying65 (i:=1) rfl (ak (show 1 < xs.length by omega));rw [ak (show 2 < xs.length by omega)] at f2;have z2:=hz.field Tryz.underlying65 (i:=2) rfl (ak (show 2 < xs.length by omega));obtain ⟨b,hb,_⟩:=DataW.trod_bool Tryz.underlying4 f0;obtain ⟨A,n1,cc,l,rfl,h1,k1⟩:=ie f1 z1;obtain ⟨D,m,e,l',rfl,h2,k2⟩:=ie f2 z2;injection hb with hb _;exact ⟨b,A,n1,cc,D,m,e,⟨b,l,l'⟩,hb,rfl,rfl,rfl,h1,h2,k1,k2⟩
theorem dL {v:Value}{fuel:Nat}{x:DataW H × List MemPlace}(ht:DataW.trod enc Tryz.prog W 0 (fun _=>true) true fuel 9 [v]=some x) (hz:Szd 9 x.1):∃ t:List UInt8,v=ag t∧NmL t:=by
 obtain ⟨s,hs,hx,_⟩:=DataW.trod_string Tryz.underlying9 ht;injection hs with hs _;subst hs;obtain ⟨t,rfl⟩:∃ t:List UInt8,s=⟨t.toArray⟩:=⟨s.data.toList,by simp⟩;refine ⟨t,rfl,?_⟩;rw [hx] at hz;have h9:t.length≤reachBytes:=hz.str;have h8:=reachBytes_lt;unfold NmL;omega
theorem fu {α:Type} [Inhabited α] (P0:World→Nat→Nat→α→Prop) {t e:TypeId}(s:Nat) (ht:Tryz.prog.underlying t=some (.slice e)) (hs:Tryz.prog.cellsOf e=s) (hs0:0 < s)
 (one:∀ (fuel:Nat) (cs:List Value) (y:DataW H × List MemPlace) (g o:Nat),cs.length=s→(∀ i,i < s→W.cell? ⟨g,o+i,none⟩=cs[i]?)→DataW.trod enc Tryz.prog W 0 (fun _=>true) true fuel e cs=some y→Szd e y.1→∃ a,P0 W g o a)
 {v:Value}{fuel:Nat}{x:DataW H × List MemPlace}(h:DataW.trod enc Tryz.prog W 0 (fun _=>true) true fuel t [v]=some x) (hz:Szd t x.1):∃ A n c l,v=.slice A n c∧SlS P0 s W A n c l:=by
 rcases Go.Deep.open_slice ht h with ⟨hv,_⟩ | ⟨a,len,cap,m,n,D,Pl,hv,_,hl,hm,hmm,hxe,hx⟩
 ·injection hv with hv _
  exact ⟨none,0,0,[],hv,⟨rfl,Qr,fun h=>absurd h (by omega)⟩⟩
 injection hv with hv _;subst hv;rw [hxe] at hz;have hmc:m=cap:=by simpa using hmm
 subst hmc;rw [hs] at hx;rcases Nat.eq_zero_or_pos len with h0 | h0
 ·subst h0
  exact ⟨some a,0,m,[],rfl,⟨rfl,Nat.zero_le _,fun h=>absurd h (by omega)⟩⟩
 obtain ⟨cs0,hc0,_⟩:=hx 0 (by omega);obtain ⟨_,hl0,hce⟩:=World.cells?_some hc0;have h00:=hce 0 hs0;rw [ak (show 0 < cs0.length by omega)] at h00;have e0:(a.add (0 * s)).add 0=a:=by simp [Addr.add]
 rw [e0] at h00;obtain ⟨g,o,rfl,hg⟩:=jq h00
 obtain ⟨f,hf⟩:=Go.Deep.choose_lt (n:=len) (p:=fun i a=>P0 W g (o+i * s) a) (fun i hi=>by
  obtain ⟨cs,h1,h2⟩:=hx i (by omega);obtain ⟨_,h3,h4⟩:=World.cells?_some h1;refine one n cs _ g (o+i * s) h3 (fun j hj=>?_) h2 (hz.elem ht (List.mem_map.2 ⟨i,List.mem_range.2 hi,rfl⟩))
  rw [← h4 j hj,rR,rR])
 refine ⟨_,len,m,(List.range len).map f,rfl,⟨by simp,hl,fun _=>⟨g,o,rfl,hg,fun i a ha=>?_⟩⟩⟩;rw [List.getElem?_map] at ha;rcases Nat.lt_or_ge i len with hi | hi
 ·rw [List.getElem?_range hi] at ha
  injection ha with ha;subst ha;exact hf i hi
 rw [List.getElem?_eq_none (by simpa using hi)] at ha;cases ha
instance:Inhabited aR:=⟨⟨[],⟨false,[],[]⟩,⟨false,[],[]⟩⟩⟩
instance:Inhabited ay:=⟨⟨[],[]⟩⟩
instance:Inhabited bc:=⟨⟨[],0,0,0,0,0,0⟩⟩
instance:Inhabited bj:=⟨⟨[],0⟩⟩
theorem qn (fuel:Nat) (cs:List Value) (y:DataW H × List MemPlace) (g o:Nat) (hl:cs.length=7) (hc:∀ i,i < 7→W.cell? ⟨g,o+i,none⟩=cs[i]?) (ht:DataW.trod enc Tryz.prog W 0 (fun _=>true) true fuel 67 cs=some y) (hz:Szd 67 y.1):∃ a,dB reachBytes W g o a:=by
 match cs,hl with
 | [v0,v1,v2,v3,v4,v5,v6],_ =>
  obtain ⟨xs,n,_,hx,_,hxl,hf⟩:=DataW.trod_struct Tryz.underlying67 ht;rw [hx] at hz;have f0:DataW.trod enc Tryz.prog W 0 (fun _=>true) true n 9 (List.take (Tryz.prog.cellsOf 9) [v0,v1,v2,v3,v4,v5,v6])=xs[0]?:=hf 0 _ rfl;have f1:DataW.trod enc Tryz.prog W 0 (fun _=>true) true n 65 (List.take (Tryz.prog.cellsOf 65) [v1,v2,v3,v4,v5,v6])=xs[1]?:=hf 1 _ rfl;have f2:DataW.trod enc Tryz.prog W 0 (fun _=>true) true n 65 (List.take (Tryz.prog.cellsOf 65) [v4,v5,v6])=xs[2]?:=hf 2 _ rfl;rw [dx] at f0;rw [nT] at f1 f2;have hx0:xs.length=3:=hxl;rw [ak (show 0 < xs.length by omega)] at f0;have z0:=hz.field Tryz.underlying67 (i:=0) rfl (ak (show 0 < xs.length by omega));rw [ak (show 1 < xs.length by omega)] at f1;have z1:=hz.field Tryz.underlying67 (i:=1) rfl (ak (show 1 < xs.length by omega));rw [ak (show 2 < xs.length by omega)] at f2;have z2:=hz.field Tryz.underlying67 (i:=2) rfl (ak (show 2 < xs.length by omega));obtain ⟨nm,rfl,hn⟩:=dL f0 z0;obtain ⟨b,A,n1,c,D,m,e,r,rfl,rfl,rfl,h1⟩:=lg f1 z1;obtain ⟨b',A',n1',c',D',m',e',r',rfl,rfl,rfl,h2⟩:=lg f2 z2;have k0:=hc 0 (by omega);have k1:=hc 1 (by omega);have k2:=hc 2 (by omega);have k3:=hc 3 (by omega);have k4:=hc 4 (by omega);have k5:=hc 5 (by omega);have k6:=hc 6 (by omega);exact ⟨⟨nm,r,r'⟩,k0,⟨b,A,n1,c,D,m,e,k1,k2,k3,h1⟩,⟨b',A',n1',c',D',m',e',k4,k5,k6,h2⟩,hn⟩
theorem qo (fuel:Nat) (cs:List Value) (y:DataW H × List MemPlace) (g o:Nat) (hl:cs.length=2) (hc:∀ i,i < 2→W.cell? ⟨g,o+i,none⟩=cs[i]?) (ht:DataW.trod enc Tryz.prog W 0 (fun _=>true) true fuel 62 cs=some y) (hz:Szd 62 y.1):∃ a,dC reachBytes W g o a:=by
 match cs,hl with
 | [v0,v1],_ =>
  obtain ⟨xs,n,_,hx,_,hxl,hf⟩:=DataW.trod_struct Tryz.underlying62 ht;rw [hx] at hz;have f0:DataW.trod enc Tryz.prog W 0 (fun _=>true) true n 9 (List.take (Tryz.prog.cellsOf 9) [v0,v1])=xs[0]?:=hf 0 _ rfl;have f1:DataW.trod enc Tryz.prog W 0 (fun _=>true) true n 60 (List.take (Tryz.prog.cellsOf 60) [v1])=xs[1]?:=hf 1 _ rfl;have c1:Tryz.prog.cellsOf 60=1:=by kernel_rfl
  rw [dx] at f0;rw [c1] at f1;have hx0:xs.length=2:=hxl;rw [ak (show 0 < xs.length by omega)] at f0;have z0:=hz.field Tryz.underlying62 (i:=0) rfl (ak (show 0 < xs.length by omega));rw [ak (show 1 < xs.length by omega)] at f1;have z1:=hz.field Tryz.underlying62 (i:=1) rfl (ak (show 1 < xs.length by omega));obtain ⟨nm,rfl,hn⟩:=dL f0 z0;obtain ⟨A,n1,c,l,rfl,h1⟩:=fu (dB reachBytes) 7 Tryz.underlying60 (by kernel_rfl) (by decide) qn f1 z1;have k0:=hc 0 (by omega);have k1:=hc 1 (by omega);exact ⟨⟨nm,l⟩,A,n1,c,k0,k1,h1,hn⟩
theorem cR {v:Value}{fuel:Nat}{x:DataW H × List MemPlace}(ht:DataW.trod enc Tryz.prog W 0 (fun _=>true) true fuel 3 [v]=some x):∃ i:Int,v=.int .i64 i:=by
 obtain ⟨i,hi,_⟩:=DataW.trod_int Tryz.underlying3 ht;injection hi with hi _;exact ⟨i,hi⟩
theorem nU (fuel:Nat) (cs:List Value) (y:DataW H × List MemPlace) (g o:Nat) (hl:cs.length=7) (hc:∀ i,i < 7→W.cell? ⟨g,o+i,none⟩=cs[i]?) (ht:DataW.trod enc Tryz.prog W 0 (fun _=>true) true fuel 79 cs=some y) (hz:Szd 79 y.1):∃ a,gU W g o a:=by
 match cs,hl with
 | [v0,v1,v2,v3,v4,v5,v6],_ =>
  obtain ⟨xs,n,_,hx,_,hxl,hf⟩:=DataW.trod_struct Tryz.underlying79 ht;rw [hx] at hz;have f0:DataW.trod enc Tryz.prog W 0 (fun _=>true) true n 9 (List.take (Tryz.prog.cellsOf 9) [v0,v1,v2,v3,v4,v5,v6])=xs[0]?:=hf 0 _ rfl;have f1:DataW.trod enc Tryz.prog W 0 (fun _=>true) true n 3 (List.take (Tryz.prog.cellsOf 3) [v1,v2,v3,v4,v5,v6])=xs[1]?:=hf 1 _ rfl;have f2:DataW.trod enc Tryz.prog W 0 (fun _=>true) true n 3 (List.take (Tryz.prog.cellsOf 3) [v2,v3,v4,v5,v6])=xs[2]?:=hf 2 _ rfl;have f3:DataW.trod enc Tryz.prog W 0 (fun _=>true) true n 3 (List.take (Tryz.prog.cellsOf 3) [v3,v4,v5,v6])=xs[3]?:=hf 3 _ rfl;have f4:DataW.trod enc Tryz.prog W 0 (fun _=>true) true n 3 (List.take (Tryz.prog.cellsOf 3) [v4,v5,v6])=xs[4]?:=hf 4 _ rfl;have f5:DataW.trod enc Tryz.prog W 0 (fun _=>true) true n 3 (List.take (Tryz.prog.cellsOf 3) [v5,v6])=xs[5]?:=hf 5 _ rfl;have f6:DataW.trod enc Tryz.prog W 0 (fun _=>true) true n 3 (List.take (Tryz.prog.cellsOf 3) [v6])=xs[6]?:=hf 6 _ rfl;rw [dx] at f0;rw [jr] at f1 f2 f3 f4 f5 f6;have hx0:xs.length=7:=hxl;rw [ak (show 0 < xs.length by omega)] at f0;have z0:=hz.field Tryz.underlying79 (i:=0) rfl (ak (show 0 < xs.length by omega));rw [ak (show 1 < xs.length by omega)] at f1;have z1:=hz.field Tryz.underlying79 (i:=1) rfl (ak (show 1 < xs.length by omega));rw [ak (show 2 < xs.length by omega)] at f2;have z2:=hz.field Tryz.underlying79 (i:=2) rfl (ak (show 2 < xs.length by omega));rw [ak (show 3 < xs.length by omega)] at f3;have z3:=hz.field Tryz.underlying79 (i:=3) rfl (ak (show 3 < xs.length by omega));rw [ak (show 4 < xs.length by omega)] at f4;have z4:=hz.field Tryz.underlying79 (i:=4) rfl (ak (show 4 < xs.length by omega));rw [ak (show 5 < xs.length by omega)] at f5;have z5:=hz.field Tryz.underlying79 (i:=5) rfl (ak (show 5 < xs.length by omega));rw [ak (show 6 < xs.length by omega)] at f6;have z6:=hz.field Tryz.underlying79 (i:=6) rfl (ak (show 6 < xs.length by omega));obtain ⟨nm,rfl,hn⟩:=dL f0 z0;obtain ⟨i1,rfl⟩:=cR f1;obtain ⟨i2,rfl⟩:=cR f2;obtain ⟨i3,rfl⟩:=cR f3;obtain ⟨i4,rfl⟩:=cR f4;obtain ⟨i5,rfl⟩:=cR f5;obtain ⟨i6,rfl⟩:=cR f6;have k0:=hc 0 (by omega);have k1:=hc 1 (by omega);have k2:=hc 2 (by omega);have k3:=hc 3 (by omega);have k4:=hc 4 (by omega);have k5:=hc 5 (by omega);have k6:=hc 6 (by omega);exact ⟨⟨nm,i1,i2,i3,i4,i5,i6⟩,k0,k1,k2,k3,k4,k5,k6,hn⟩
theorem l6 (fuel:Nat) (cs:List Value) (y:DataW H × List MemPlace) (g o:Nat) (hl:cs.length=2) (hc:∀ i,i < 2→W.cell? ⟨g,o+i,none⟩=cs[i]?) (ht:DataW.trod enc Tryz.prog W 0 (fun _=>true) true fuel 81 cs=some y) (hz:Szd 81 y.1):∃ a,gV W g o a:=by
 match cs,hl with
 | [v0,v1],_ =>
  obtain ⟨xs,n,_,hx,_,hxl,hf⟩:=DataW.trod_struct Tryz.underlying81 ht;rw [hx] at hz;have f0:DataW.trod enc Tryz.prog W 0 (fun _=>true) true n 9 (List.take (Tryz.prog.cellsOf 9) [v0,v1])=xs[0]?:=hf 0 _ rfl;have f1:DataW.trod enc Tryz.prog W 0 (fun _=>true) true n 3 (List.take (Tryz.prog.cellsOf 3) [v1])=xs[1]?:=hf 1 _ rfl;rw [dx] at f0;rw [jr] at f1;have hx0:xs.length=2:=hxl;rw [ak (show 0 < xs.length by omega)] at f0;have z0:=hz.field Tryz.underlying81 (i:=0) rfl (ak (show 0 < xs.length by omega));rw [ak (show 1 < xs.length by omega)] at f1;have z1:=hz.field Tryz.underlying81 (i:=1) rfl (ak (show 1 < xs.length by omega));obtain ⟨nm,rfl,hn⟩:=dL f0 z0;obtain ⟨i1,rfl⟩:=cR f1;have k0:=hc 0 (by omega);have k1:=hc 1 (by omega);exact ⟨⟨nm,i1⟩,k0,k1,hn⟩
theorem nV {v0 v1 v2 v3:Value}{fuel:Nat}{x:DataW H × List MemPlace}(ht:DataW.trod enc Tryz.prog W 0 (fun _=>true) true fuel 36 [v0,v1,v2,v3]=some x) (hz:Szd 36 x.1) :
 ∃ A n c B p d C q e L,v0=ag L.name∧v1=.slice A n c∧v2=.slice B p d∧v3=.slice C q e∧LkS reachBytes W A n c B p d C q e L:=by
 obtain ⟨xs,n,_,hx,_,hxl,hf⟩:=DataW.trod_struct Tryz.underlying36 ht;rw [hx] at hz;have f0:DataW.trod enc Tryz.prog W 0 (fun _=>true) true n 9 (List.take (Tryz.prog.cellsOf 9) [v0,v1,v2,v3])=xs[0]?:=hf 0 _ rfl;have f1:DataW.trod enc Tryz.prog W 0 (fun _=>true) true n 32 (List.take (Tryz.prog.cellsOf 32) [v1,v2,v3])=xs[1]?:=hf 1 _ rfl;have f2:DataW.trod enc Tryz.prog W 0 (fun _=>true) true n 33 (List.take (Tryz.prog.cellsOf 33) [v2,v3])=xs[2]?:=hf 2 _ rfl;have f3:DataW.trod enc Tryz.prog W 0 (fun _=>true) true n 34 (List.take (Tryz.prog.cellsOf 34) [v3])=xs[3]?:=hf 3 _ rfl;have c1:Tryz.prog.cellsOf 32=1:=by kernel_rfl
 have c2:Tryz.prog.cellsOf 33=1:=by kernel_rfl
 have c3:Tryz.prog.cellsOf 34=1:=by kernel_rfl
 rw [dx] at f0;rw [c1] at f1;rw [c2] at f2;rw [c3] at f3;have hx0:xs.length=4:=hxl;rw [ak (show 0 < xs.length by omega)] at f0;have z0:=hz.field Tryz.underlying36 (i:=0) rfl (ak (show 0 < xs.length by omega));rw [ak (show 1 < xs.length by omega)] at f1;have z1:=hz.field Tryz.underlying36 (i:=1) rfl (ak (show 1 < xs.length by omega));rw [ak (show 2 < xs.length by omega)] at f2;have z2:=hz.field Tryz.underlying36 (i:=2) rfl (ak (show 2 < xs.length by omega));rw [ak (show 3 < xs.length by omega)] at f3;have z3:=hz.field Tryz.underlying36 (i:=3) rfl (ak (show 3 < xs.length by omega));obtain ⟨nm,rfl,hn⟩:=dL f0 z0;obtain ⟨A,n1,c,l1,rfl,h1⟩:=fu (dC reachBytes) 2 Tryz.underlying32 (by kernel_rfl) (by decide) qo f1 z1;obtain ⟨B,p,d,l2,rfl,h2⟩:=fu gU 7 Tryz.underlying33 (by kernel_rfl) (by decide) nU f2 z2;obtain ⟨C,q,e,l3,rfl,h3⟩:=fu gV 2 Tryz.underlying34 (by kernel_rfl) (by decide) l6 f3 z3;exact ⟨A,n1,c,B,p,d,C,q,e,⟨nm,l1,l2,l3⟩,rfl,rfl,rfl,rfl,hn,h1,h2,h3⟩
variable {base:Nat}
theorem nW {v:Value}{d:DataW H}{p:List MemPlace}(hok:Value.okWide Tryz.prog W .any base 36 v) (h:DataW.Trod enc Tryz.prog W 0 (fun _=>true) true 36 v d p) (hz:Szd 36 d) :
 ∃ A n c B p d C q e L,v=.agg #[ag L.name,.slice A n c,.slice B p d,.slice C q e]∧LkS reachBytes W A n c B p d C q e L:=by
 obtain ⟨cs,rfl,hsz,_⟩:=p9 (ts:=[9,32,33,34]) Tryz.underlying36 (by kernel_rfl) (by kernel_rfl) hok;obtain ⟨fuel,h⟩:=h;obtain ⟨l⟩:=cs
 match l,hsz with
 | [v0,v1,v2,v3],_ =>
  obtain ⟨A,n,c,B,p,d,C,q,e,L,rfl,rfl,rfl,rfl,hk⟩:=nV h hz;exact ⟨A,n,c,B,p,d,C,q,e,L,rfl,hk⟩
end
end Go.Proofs.YtfilnhompchciaaGreatDoor
namespace Go.Proofs.YtfilnhompchciaaGreatDoor
open Go Go.RowKit Bn
attribute [local go_sem ↓] Go.wp_at_zero Go.wp_at_succ
theorem rS (w:World) (A:Option Addr) (n c:Nat) (B:Option Addr) (p d:Nat) (C:Option Addr) (q e:Nat) (nm:List UInt8) (j:bc) (L:au) (k:Nat) (h:SlS (dC k) 2 w A n c L.bodies) (hk:k≤10000000) (hk1:0 < k) (hn:n≤1000) (x:Int) (hx:aJ L j=x) :
 Calls Tryz.prog 113 #[.agg #[ag nm,.slice A n c,.slice B p d,.slice C q e],.agg #[ag j.name,.int .i64 j.kind,.int .i64 j.a,.int .i64 j.point,.int .i64 j.b,.int .i64 j.on,.int .i64 j.to_]] w (aw w (cT x)):=by
 by_cases h0:j.kind=0
 ·exact nJ w A n c B p d C q e nm j L k h hk hk1 hn h0 x hx
 by_cases h1:j.kind=1
 ·exact nK w A n c B p d C q e nm j L k h hk hk1 hn h1 x hx
 subst hx;rw [show aJ L j=7 from if_pos ⟨h0,h1⟩];exact nI w A n c B p d C q e nm j ⟨h0,h1⟩
theorem qp (w:World) (A:Option Addr) (n c:Nat) (B:Option Addr) (p d:Nat) (C:Option Addr) (q e:Nat) (L:au) (k:Nat) (h:LkS k w A n c B p d C q e L) (hk:k≤10000000) (hk1:0 < k) (hn:n≤1000) (x:Int) (hx:(if 16 < L.joints.length then 4 else aN (aA L) [] L.joints)=x):Calls Tryz.prog 77 #[.agg #[ag L.name,.slice A n c,.slice B p d,.slice C q e]] w (aw w (cT x)):=by
 have hln:=h.joints.1;have hlb:=h.bodies.1;by_cases h8:16 < p
 ·have f8:((16:Int) < (p:Int))=True:=eq_true (by omega)
  have h4:x=4:=by rw [← hx,if_pos (by rw [hln];exact h8)]
  clear hln hlb;go_in;go_wp2;go_ret;exact ⟨by rw [h4];rfl,(ae w).alloc Qr _⟩
 have f8:((16:Int) < (p:Int))=False:=eq_false (by omega);have hbd:p≤16:=by omega
 rw [if_neg (by rw [hln];exact h8)] at hx;have hnc:=h.joints.2.1;have HX:=Qh (bG hx);have HLN:=Qh hln;have HLB:=Qh hlb;clear hx hln hlb h8;go_in;go_wp2_with fail;go_loopw [16] (fun iv wr=>∃ i:Nat,iv=.int .i64 (i:Nat)∧i≤p∧Hid (aN (aA L) (L.joints.take i) (L.joints.drop i)=x)∧Blk wr w.heap.size 36 #[ag L.name,.slice A n c,.slice B p d,.slice C q e]∧Below w.heap.size w wr) (fun iv _=>p - (intOf iv).toNat)
 case atStart=>exact ⟨0,rfl,Nat.zero_le _,HX,ai _ _ _ (by simp),(ae w).alloc Qr _⟩
 case round =>
  clear HX;obtain ⟨i,rfl,hi,HX,xL,hb⟩:=hrel;rename World=>wa;rcases Nat.lt_or_ge i p with hlt | hge
  ·have hi1:((i:Int) < (p:Int))=True:=by simp;omega
   have hL:=h.belw hb;obtain ⟨g,o,b,e1,hg,_,hbi,hB⟩:=hL.joints.at_ hlt;subst e1;have hstep:=bP HX.out hbi;obtain ⟨c0,c1,c2,c3,c4,c5,c6,hnm⟩:=hB;have HL:=Qh hL;have HS:=Qh hstep;have HN:=Qh hnm;obtain ⟨v,hv⟩:∃ v,aQ b.name=v:=⟨_,rfl⟩;have HV:=Qh hv;have hlL:w.heap.size < wa.heap.size:=xL.lt;clear h hL hstep hnm hbi hv HX;go_wp2_with fail;(with_reducible refine (gR _ b.name HN.out v HV.out).mono ?_);rintro e' w1 ⟨rfl,hb1⟩;have q1:=hb1.q1;have x1:Blk w1 wa.heap.size 79 #[ag b.name,.int .i64 b.kind,.int .i64 b.a,.int .i64 b.point,.int .i64 b.b,.int .i64 b.on,.int .i64 b.to_]:=(ai _ _ _ (by simp)).below hb1 (by simp);have xL1:=xL.below q1 xL.lt;have bw1:=hb.trans (q1.mono hb.size);clear hb1 c0 c1 c2 c3 c4 c5 c6
   have hxz:∀ z:Int,z≠0→(aA L) (L.joints.take i) b=z→x=z:=fun z hz hm=>by
    rcases HS.out with ⟨u,_⟩ | ⟨_,u⟩
    ·exact absurd (hm.symm.trans u) hz
    exact u.symm.trans hm
   cases v
   ·have h5:x=5:=hxz 5 (by decide) (if_pos HV.out)
    clear hxz;go_wp2;go_ret;exact ⟨by rw [h5];rfl,bw1⟩
   have HXZ:=Qh hxz;clear hxz;have cL:=xL1.cell 2;go_wp2_with fail;clear cL;go_loopw [31] (fun jv wr=>∃ j:Nat,jv=.int .i64 (j:Nat)∧j≤i∧Hid (twN ((L.joints.take j).map bc.name) b.name=false)∧Below w1.heap.size w1 wr) (fun jv _=>i - (intOf jv).toNat)
   case atStart=>exact ⟨0,rfl,Nat.zero_le _,Qh rfl,ae w1⟩
   case round =>
    obtain ⟨j,rfl,hj,HT,hb2⟩:=hrel;rename World=>w2;have x2:=x1.below hb2 x1.lt;have xL2:=xL1.below hb2 xL1.lt;have bw2:=bw1.trans (hb2.mono bw1.size);have cB0:=x2.cell 0;have hlw:wa.heap.size < w2.heap.size:=x2.lt;have hlL2:w.heap.size < w2.heap.size:=xL2.lt;rcases Nat.lt_or_ge j i with hjl | hjg
    ·have hj1:((j:Int) < (i:Int))=True:=by simp;omega
     have hjn:j < p:=by omega
     obtain ⟨a,ha,hA⟩:=((HL.out.joints.jt q1).jt hb2).rowAt hjn;obtain ⟨d0,d1,d2,d3,d4,d5,d6,hn2⟩:=hA;have hgw:g < w2.heap.size:=by have:=hb2.size;have:=q1.size;omega
     clear hn2;have hne1:¬ wa.heap.size=w2.heap.size:=by omega
     have hne2:¬ g=w2.heap.size:=by omega
     have htl:=aW b.name;by_cases heq:a.name=b.name
     ·have h6:x=6:=HXZ.out 6 (by decide) (by
       show aA L (L.joints.take i) b=6;unfold aA
       rw [HV.out,if_neg (by decide),if_pos (cX ha hjl heq)])
      rw [heq] at d0;have hee:(b.name == b.name)=true:=by simp
      clear heq ha;go_wp2;go_ret;exact ⟨by rw [h6];rfl,bw2.alloc bw2.size _⟩
     have hta:=aW a.name;have HT2:=Qh (cA ha HT.out heq);have hee:(a.name == b.name)=false:=beq_eq_false_iff_ne.2 heq;clear heq ha HT;go_wp2_with fail;go_roundw
     case rel=>exact ⟨j+1,by go_num,by omega,HT2,hb2.alloc hb2.size _⟩
     case measure=>simp [intOf];omega
    have hj1:((j:Int) < (i:Int))=False:=by simp;omega
    obtain rfl:j=i:=by omega
    clear cB0;have cL0:=xL2.cell 0;have cL1:=xL2.cell 1;have cL2:=xL2.cell 2;have cL3:=xL2.cell 3;have z0:=x2.cell 0;have z1:=x2.cell 1;have z2:=x2.cell 2;have z3:=x2.cell 3;have z4:=x2.cell 4;have z5:=x2.cell 5;have z6:=x2.cell 6;obtain ⟨y,hy⟩:∃ y,aJ L b=y:=⟨_,rfl⟩
    have HE:Hid (aA L (L.joints.take j) b=y):=Qh (by
     unfold aA
     rw [HV.out,if_neg (by decide),HT.out,if_neg (by decide)];exact hy)
    have HY:=Qh hy;clear hy;go_wp2_with fail;(with_reducible refine (rS _ A n c _ p d C q e L.name b L k ((HL.out.bodies.bd q1).bd hb2) hk hk1 hn y HY.out).mono ?_);rintro e' w3 ⟨rfl,hb3⟩;have bw3:=bw2.trans (hb3.mono bw2.size);have xL3:=xL2.below hb3 xL2.lt;clear cL0 cL1 cL2 cL3 z0 z1 z2 z3 z4 z5 z6;by_cases hy0:y=0
    ·have HX2:Hid (aN (aA L) (L.joints.take (j+1)) (L.joints.drop (j+1))=x):=Qh (by
      rcases HS.out with ⟨_,u⟩ | ⟨u,_⟩
      ·exact u
      exact absurd (HE.out.trans hy0) u)
     subst hy0;rw [show cT 0=.nilIface from if_pos rfl];go_wp2_with fail;go_roundw
     case rel=>exact ⟨j+1,by go_num,by omega,HX2,xL3,bw3⟩
     case measure=>simp [intOf];omega
    have hxy:x=y:=HXZ.out y hy0 HE.out;rw [show cT y=.iface 49 (.int .i64 y) from if_neg hy0];go_wp2;go_ret;exact ⟨by rw [hxy,show cT y=.iface 49 (.int .i64 y) from if_neg hy0];rfl,bw3⟩
  have hi1:((i:Int) < (p:Int))=False:=by simp;omega
  have hx0:x=0:=cw HX.out (by rw [HLN.out];exact hge);go_wp2;go_ret;exact ⟨by rw [hx0];rfl,hb⟩
theorem nX (w:World) (A:Option Addr) (n c:Nat) (B:Option Addr) (p d:Nat) (C:Option Addr) (q e:Nat) (L:au) (k:Nat) (h:LkS k w A n c B p d C q e L) (hk:k≤10000000) (hk1:0 < k) (hn:n≤1000) (x:Int) (hx:(if 2 < L.drivers.length then 4 else aN (ap n) [] L.drivers)=x):Calls Tryz.prog 78 #[.agg #[ag L.name,.slice A n c,.slice B p d,.slice C q e]] w (aw w (cT x)):=by
 have hln:=h.drivers.1;have hlb:=h.bodies.1;by_cases h8:2 < q
 ·have f8:((2:Int) < (q:Int))=True:=eq_true (by omega)
  have h4:x=4:=by rw [← hx,if_pos (by rw [hln];exact h8)]
  clear hln hlb;go_in;go_wp2;go_ret;exact ⟨by rw [h4];rfl,(ae w).alloc Qr _⟩
 have f8:((2:Int) < (q:Int))=False:=eq_false (by omega);have hbd:q≤2:=by omega
 rw [if_neg (by rw [hln];exact h8)] at hx;have hnc:=h.drivers.2.1;have HX:=Qh (bG hx);have HLN:=Qh hln;have HLB:=Qh hlb;clear hx hln hlb h8;go_in;go_wp2_with fail;go_loopw [17] (fun iv wr=>∃ i:Nat,iv=.int .i64 (i:Nat)∧i≤q∧Hid (aN (ap n) (L.drivers.take i) (L.drivers.drop i)=x)∧Blk wr w.heap.size 36 #[ag L.name,.slice A n c,.slice B p d,.slice C q e]∧Below w.heap.size w wr) (fun iv _=>q - (intOf iv).toNat)
 case atStart=>exact ⟨0,rfl,Nat.zero_le _,HX,ai _ _ _ (by simp),(ae w).alloc Qr _⟩
 case round =>
  clear HX;obtain ⟨i,rfl,hi,HX,xL,hb⟩:=hrel;rename World=>wa;rcases Nat.lt_or_ge i q with hlt | hge
  ·have hi1:((i:Int) < (q:Int))=True:=by simp;omega
   have hL:=h.belw hb;obtain ⟨g,o,b,e1,hg,_,hbi,hB⟩:=hL.drivers.at_ hlt;subst e1;have hstep:=bP HX.out hbi;obtain ⟨c0,c1,hnm⟩:=hB;have HL:=Qh hL;have HS:=Qh hstep;have HN:=Qh hnm;obtain ⟨v,hv⟩:∃ v,aQ b.name=v:=⟨_,rfl⟩;have HV:=Qh hv;have hlL:w.heap.size < wa.heap.size:=xL.lt;clear h hL hstep hnm hbi hv HX;go_wp2_with fail;(with_reducible refine (gR _ b.name HN.out v HV.out).mono ?_);rintro e' w1 ⟨rfl,hb1⟩;have q1:=hb1.q1;have x1:Blk w1 wa.heap.size 81 #[ag b.name,.int .i64 b.body]:=(ai _ _ _ (by simp)).below hb1 (by simp);have xL1:=xL.below q1 xL.lt;have bw1:=hb.trans (q1.mono hb.size);clear hb1 c0 c1
   have hxz:∀ z:Int,z≠0→(ap n) (L.drivers.take i) b=z→x=z:=fun z hz hm=>by
    rcases HS.out with ⟨u,_⟩ | ⟨_,u⟩
    ·exact absurd (hm.symm.trans u) hz
    exact u.symm.trans hm
   cases v
   ·have h5:x=5:=hxz 5 (by decide) (if_pos HV.out)
    clear hxz;go_wp2;go_ret;exact ⟨by rw [h5];rfl,bw1⟩
   have HXZ:=Qh hxz;clear hxz;have cL:=xL1.cell 3;go_wp2_with fail;clear cL;go_loopw [32] (fun jv wr=>∃ j:Nat,jv=.int .i64 (j:Nat)∧j≤i∧Hid (twN ((L.drivers.take j).map bj.name) b.name=false)∧Below w1.heap.size w1 wr) (fun jv _=>i - (intOf jv).toNat)
   case atStart=>exact ⟨0,rfl,Nat.zero_le _,Qh rfl,ae w1⟩
   case round =>
    obtain ⟨j,rfl,hj,HT,hb2⟩:=hrel;rename World=>w2;have x2:=x1.below hb2 x1.lt;have xL2:=xL1.below hb2 xL1.lt;have bw2:=bw1.trans (hb2.mono bw1.size);have cB0:=x2.cell 0;have hlw:wa.heap.size < w2.heap.size:=x2.lt;have hlL2:w.heap.size < w2.heap.size:=xL2.lt;rcases Nat.lt_or_ge j i with hjl | hjg
    ·have hj1:((j:Int) < (i:Int))=True:=by simp;omega
     have hjn:j < q:=by omega
     obtain ⟨a,ha,hA⟩:=((HL.out.drivers.dr q1).dr hb2).rowAt hjn;obtain ⟨d0,d1,hn2⟩:=hA;have hgw:g < w2.heap.size:=by have:=hb2.size;have:=q1.size;omega
     clear hn2;have hne1:¬ wa.heap.size=w2.heap.size:=by omega
     have hne2:¬ g=w2.heap.size:=by omega
     have htl:=aW b.name;by_cases heq:a.name=b.name
     ·have h6:x=6:=HXZ.out 6 (by decide) (by
       show ap n (L.drivers.take i) b=6;unfold ap
       rw [HV.out,if_neg (by decide),if_pos (cX ha hjl heq)])
      rw [heq] at d0;have hee:(b.name == b.name)=true:=by simp
      clear heq ha;go_wp2;go_ret;exact ⟨by rw [h6];rfl,bw2.alloc bw2.size _⟩
     have hta:=aW a.name;have HT2:=Qh (cA ha HT.out heq);have hee:(a.name == b.name)=false:=beq_eq_false_iff_ne.2 heq;clear heq ha HT;go_wp2_with fail;go_roundw
     case rel=>exact ⟨j+1,by go_num,by omega,HT2,hb2.alloc hb2.size _⟩
     case measure=>simp [intOf];omega
    have hj1:((j:Int) < (i:Int))=False:=by simp;omega
    obtain rfl:j=i:=by omega
    clear cB0;have cL1:=xL2.cell 1;have z1:=x2.cell 1;obtain ⟨v1,hv1⟩:∃ v,inI b.body n=v:=⟨_,rfl⟩;have HV1:=Qh hv1;have HT9:=HT;clear hv1;go_wp2_with fail;(with_reducible refine (nH _ b.body n v1 HV1.out).mono ?_);rintro e' w3 ⟨rfl,hb3⟩;have bw3:=bw2.trans (hb3.mono bw2.size);have xL3:=xL2.below hb3 xL2.lt;have x3:=x2.below hb3 x2.lt;clear cL1 z1;cases v1
    ·have h9:x=9:=HXZ.out 9 (by decide) (by
      show ap n (L.drivers.take j) b=9;unfold ap
      rw [HV.out,if_neg (by decide),HT9.out,if_neg (by decide),if_pos HV1.out])
     go_wp2;go_ret;exact ⟨by rw [h9];rfl,bw3⟩
    have z1:=x3.cell 1;have cL3:=xL3.cell 3;have hl3:wa.heap.size < w3.heap.size:=x3.lt;by_cases hb0:b.body=0
    ·have e0:(b.body == 0)=true:=beq_iff_eq.2 hb0
     have h7:x=7:=HXZ.out 7 (by decide) (by
      show ap n (L.drivers.take j) b=7;unfold ap
      rw [HV.out,if_neg (by decide),HT9.out,if_neg (by decide),HV1.out,if_neg (by decide),if_pos hb0])
     clear hb0;go_wp2;go_ret;exact ⟨by rw [h7];rfl,bw3⟩
    have e0:(b.body == 0)=false:=beq_eq_false_iff_ne.2 hb0;have HB0:=Qh hb0;clear hb0;go_wp2_with fail;clear z1 cL3;go_loopw [60] (fun jv wr=>∃ r:Nat,jv=.int .i64 (r:Nat)∧r≤j∧Hid (((L.drivers.take r).any fun p=>p.body == b.body)=false)∧Below w3.heap.size w3 wr) (fun jv _=>j - (intOf jv).toNat)
    case atStart=>exact ⟨0,rfl,Nat.zero_le _,Qh rfl,ae w3⟩
    case round =>
     obtain ⟨r,rfl,hr,HR,hb4⟩:=hrel;rename World=>w4;have x4:=x3.below hb4 x3.lt;have xL4:=xL3.below hb4 xL3.lt;have bw4:=bw3.trans (hb4.mono bw3.size);have z1:=x4.cell 1;have hl4:wa.heap.size < w4.heap.size:=x4.lt;rcases Nat.lt_or_ge r j with hrl | hrg
     ·have hr1:((r:Int) < (j:Int))=True:=by simp;omega
      have hrn:r < q:=by omega
      obtain ⟨a,ha,hA⟩:=((((HL.out.drivers.dr q1).dr hb2).dr hb3).dr hb4).rowAt hrn;obtain ⟨d0,d1,hn2⟩:=hA;have hgw:g < w4.heap.size:=by have:=hb4.size;have:=hb3.size;have:=hb2.size;have:=q1.size;omega
      clear hn2;have hne1:¬ wa.heap.size=w4.heap.size:=by omega
      have hne2:¬ g=w4.heap.size:=by omega
      have ht4:L.drivers.take (r+1)=L.drivers.take r ++ [a]:=by rw [List.take_add_one,ha];rfl
      by_cases heq:a.body=b.body
      ·have h6:x=6:=HXZ.out 6 (by decide) (by
        show ap n (L.drivers.take j) b=6;unfold ap;rw [HV.out,if_neg (by decide),HT9.out,if_neg (by decide),HV1.out,if_neg (by decide),if_neg HB0.out,if_pos];rw [List.any_eq_true]
        exact ⟨a,List.mem_of_getElem? (i:=r) (by rw [List.getElem?_take,if_pos hrl];exact ha),by simpa using heq⟩)
       have hee:(a.body == b.body)=true:=beq_iff_eq.2 heq;clear heq ha ht4;go_wp2;go_ret;exact ⟨by rw [h6];rfl,bw4.alloc bw4.size _⟩
      ·have HR2:Hid (((L.drivers.take (r+1)).any fun p=>p.body == b.body)=false):=Qh (by
        rw [ht4,List.any_append,HR.out]
        simpa using heq)
       have hee:(a.body == b.body)=false:=beq_eq_false_iff_ne.2 heq;clear heq ha ht4 HR;go_wp2_with fail;go_roundw
       case rel=>exact ⟨r+1,by go_num,by omega,HR2,hb4.alloc hb4.size _⟩
       case measure=>simp [intOf];omega
     have hr1:((r:Int) < (j:Int))=False:=by simp;omega
     obtain rfl:r=j:=by omega
     have h0:ap n (L.drivers.take r) b=0:=by
      unfold ap;rw [HV.out,if_neg (by decide),HT9.out,if_neg (by decide),HV1.out,if_neg (by decide),if_neg HB0.out,HR.out];rfl
     have HX2:Hid (aN (ap n) (L.drivers.take (r+1)) (L.drivers.drop (r+1))=x):=Qh (by
      rcases HS.out with ⟨_,u⟩ | ⟨u,_⟩
      ·exact u
      exact absurd h0 u)
     clear h0 z1;go_wp2_with fail;go_roundw
     case rel=>exact ⟨r+1,by go_num,by omega,HX2,xL4,bw4⟩
     case measure=>simp [intOf];omega
  have hi1:((i:Int) < (q:Int))=False:=by simp;omega
  have hx0:x=0:=cw HX.out (by rw [HLN.out];exact hge);go_wp2;go_ret;exact ⟨by rw [hx0];rfl,hb⟩
theorem eVp {x:Int}(h:x≠0):cT x=.iface 49 (.int .i64 x):=if_neg h
theorem eV0:cT 0=.nilIface:=if_pos rfl
theorem mC (w:World) (A:Option Addr) (n c:Nat) (B:Option Addr) (p d:Nat) (C:Option Addr) (q e:Nat) (L:au) (k:Nat) (h:LkS k w A n c B p d C q e L) (hk:k≤10000000) (hk1:0 < k) (x:Int) (hx:cB L=x) :
 Calls Tryz.prog 42 #[.agg #[ag L.name,.slice A n c,.slice B p d,.slice C q e]] w (aw w (cT x)):=by
 have hln:=h.bodies.1;obtain ⟨v,hv⟩:∃ v,aQ L.name=v:=⟨_,rfl⟩;have HV:=Qh hv;have HX:=Qh hx;have HL:=Qh hln;have H:=Qh h;clear hv hx hln h;go_in;go_wp2_with fail;(with_reducible refine (gR _ L.name H.out.name v HV.out).mono ?_);rintro e' w1 ⟨rfl,hb1⟩;have q1:=hb1.q1;have x1:Blk w1 w.heap.size 36 #[ag L.name,.slice A n c,.slice B p d,.slice C q e]:=(ai _ _ _ (by simp)).below hb1 (by simp);clear hb1;cases v
 ·have h5:x=5:=by rw [← HX.out];unfold cB;rw [if_pos HV.out]
  go_wp2;go_ret;exact ⟨by rw [h5];rfl,q1⟩
 have hX1:x=if n=0 then 10 else if 8 < n then 4 else if aN aD [] L.bodies≠0 then aN aD [] L.bodies
  else if 16 < L.joints.length then 4 else if aN (aA L) [] L.joints≠0 then aN (aA L) [] L.joints
  else if 2 < L.drivers.length then 4 else aN (ap n) [] L.drivers:=by
  rw [← HX.out];unfold cB;rw [if_neg (by rw [HV.out];decide),HL.out]
 obtain ⟨y1,hy1⟩:∃ y,aN aD [] L.bodies=y:=⟨_,rfl⟩;obtain ⟨y2,hy2⟩:∃ y,(if 16 < L.joints.length then (4:Int) else aN (aA L) [] L.joints)=y:=⟨_,rfl⟩;obtain ⟨y3,hy3⟩:∃ y,(if 2 < L.drivers.length then (4:Int) else aN (ap n) [] L.drivers)=y:=⟨_,rfl⟩
 have hX2:x=if n=0 then 10 else if 8 < n then 4 else if y1≠0 then y1 else if y2≠0 then y2 else y3:=by
  rw [hX1,hy1,← hy2,← hy3];by_cases a:16 < L.joints.length
  ·simp [a]
  simp [a]
 have HX2:=Qh hX2;have HY1:=Qh hy1;have HY2:=Qh hy2;have HY3:=Qh hy3;clear hX1 hX2 hy1 hy2 hy3;have cx1:=x1.cell 1;by_cases h0:n=0
 ·have e0:((n:Int) == 0)=true:=beq_iff_eq.2 (by omega)
  have e00:((n:Int)=0)=True:=eq_true (by omega);have h10:x=10:=by rw [HX2.out,if_pos h0]
  clear h0;go_wp2;go_ret;exact ⟨by rw [h10];rfl,q1⟩
 have e0:((n:Int) == 0)=false:=beq_eq_false_iff_ne.2 (by omega);have e00:((n:Int)=0)=False:=eq_false (by omega);by_cases h8:8 < n
 ·have e8:((8:Int) < (n:Int))=True:=eq_true (by omega)
  have h4:x=4:=by rw [HX2.out,if_neg h0,if_pos h8]
  go_wp2;go_ret;exact ⟨by rw [h4];rfl,q1⟩
 have e8:((8:Int) < (n:Int))=False:=eq_false (by omega);have hX3:x=if y1≠0 then y1 else if y2≠0 then y2 else y3:=by rw [HX2.out,if_neg h0,if_neg h8]
 have HX3:=Qh hX3;clear hX3 h0;go_wp2_with fail;(with_reducible refine (pM _ A n c L.bodies k (H.out.bodies.bd q1) (by omega) (by omega) y1 HY1.out).mono ?_);rintro e' w2 ⟨rfl,hb2⟩;have q2:=q1.trans (hb2.mono q1.size);have x2:=x1.below hb2 x1.lt;clear cx1;by_cases h1:y1=0
 case neg =>
  have hxy:x=y1:=by rw [HX3.out,if_pos h1]
  rw [eVp h1];go_wp2;go_ret;exact ⟨by rw [hxy,eVp h1];rfl,q2⟩
 have hX4:x=if y2≠0 then y2 else y3:=by rw [HX3.out,if_neg (by simp [h1])]
 have HX4:=Qh hX4;clear hX4;subst h1;rw [eV0];have cx0:=x2.cell 0;have cx1:=x2.cell 1;have cx2:=x2.cell 2;have cx3:=x2.cell 3;go_wp2_with fail;(with_reducible refine (qp _ A n c B p d C q e L k (H.out.belw q2) hk hk1 (by omega) y2 HY2.out).mono ?_);rintro e' w3 ⟨rfl,hb3⟩;have q3:=q2.trans (hb3.mono q2.size);have x3:=x2.below hb3 x2.lt;clear cx0 cx1 cx2 cx3;by_cases h2:y2=0
 case neg =>
  have hxy:x=y2:=by rw [HX4.out,if_pos h2]
  rw [eVp h2];go_wp2;go_ret;exact ⟨by rw [hxy,eVp h2];rfl,q3⟩
 have hX5:x=y3:=by rw [HX4.out,if_neg (by simp [h2])]
 subst hX5;subst h2;rw [eV0];have cx0:=x3.cell 0;have cx1:=x3.cell 1;have cx2:=x3.cell 2;have cx3:=x3.cell 3;go_wp2_with fail;(with_reducible refine (nX _ A n c B p d C q e L k (H.out.belw q3) hk hk1 (by omega) x HY3.out).mono ?_);rintro e' w4 ⟨rfl,hb4⟩;have q4:=q3.trans (hb4.mono q3.size);clear cx0 cx1 cx2 cx3;go_wp2;go_ret;exact ⟨rfl,q4⟩
def dy (l:List (List UInt8)):List Value:=l.map ag
theorem uq (l:List UInt8):(⟨l.toArray⟩:ByteArray).data.toList=l:=by simp
theorem lh (w:World) (g cap n:Nat) (L:List (List UInt8)) (hL:L.length=n) (hcells:∀ (j:Nat) x,L[j]?=some x→w.cell? ⟨g,j,none⟩=some (ag x)) (hg:g < w.heap.size) (hN:n≤140737488355328) (hcap:n≤cap) (hlen:(er L).length≤140737488355328) :
 Calls Tryz.prog 62 #[.slice (some ⟨g,0,none⟩) n cap,.string ⟨#[32]⟩] w (aw w (ag (er L))):=by
 subst hL
 have e:(L.map fun x=>(⟨x.toArray⟩:ByteArray)).map (·.data.toList)=L:=by
  rw [List.map_map]
  conv=>rhs;rw [← List.map_id L]
  exact List.map_congr_left fun x _=>uq x
 have h:=Tryz.strings_Join g 0 cap (L.map fun x=>⟨x.toArray⟩) ⟨#[32]⟩ w (fun j x hx=>by
  rw [List.getElem?_map,Option.map_eq_some_iff] at hx;obtain ⟨y,hy,rfl⟩:=hx;rw [Nat.zero_add]
  exact hcells j y hy) hg (by rw [List.length_map];exact hN) (by rw [List.length_map];exact hcap) (by rw [e];show (Lib.join L [32]).length≤_;rw [kN];exact hlen)
 rw [List.length_map,e] at h;refine h.mono fun e' w' ⟨he,hb⟩=>⟨?_,hb⟩
 rw [he];show Ending.returned (.string ⟨(Lib.join L [32]).toArray⟩)=_;rw [kN]
theorem bV.nm {b:ay}(h:bV b):b.name.length≤1000:=by have:=h.1;omega
theorem bV.mks {b:ay}(h:bV b):∀ m∈b.pts,m.name.length≤1000:=fun m hm=>by have:=(h.2.2 m hm).1;omega
theorem bV.np {b:ay}(h:bV b):b.pts.length≤8:=h.2.1
theorem Sees.al {w0 w:World}(h:Below w0.heap.size w0 w) (o:Obj):Sees w0.heap.size w0 (w.alloc o):=Sees.of Qr (h.alloc h.size o)
theorem Blk.strs {w:World}{g t:Nat}{l:List (List UInt8)}(h:Blk w g t (dy l).toArray) (k:Nat) (x:List UInt8) (hx:l[k]?=some x):w.cell? ⟨g,k,none⟩=some (ag x):=by
 rw [h.cell k,List.getElem?_toArray];unfold dy;rw [List.getElem?_map,hx];rfl
theorem Blk.owns {w:World}{base g t n:Nat}{l:List (List UInt8)}(h:Blk w g t (dy l).toArray) (hb:base≤g) (hl:l.length=n) (hn:n≤1000):w.ownsRow base t 1 (.slice (some ⟨g,0,none⟩) n n) n (dy l):=by
 subst hl;exact ⟨by simp [dy],.inr ⟨g,_,_,rfl,hb,h,Qr,by unfold maxLen;omega,by simp [dy],by rw [List.take_of_length_le (by simp [dy])]⟩⟩
theorem nY {w:World}{base t n g cap:Nat}{l:List (List UInt8)}(h:w.ownsRow base t 1 (.slice (some ⟨g,0,none⟩) n cap) n (dy l)):n≤cap∧∀ (k:Nat) x,l[k]?=some x→w.cell? ⟨g,k,none⟩=some (ag x):=by
 rcases h.2 with ⟨h1,_⟩ | ⟨g',cap',cur,h1,_,h3,h4,_,_,h7⟩
 ·cases h1
 injection h1 with h1 _ h1';injection h1 with h1;injection h1 with h1;subst h1 h1';refine ⟨h4,fun k x hx=>?_⟩;rw [cell_of_row w g k cur _ (0,0) h3];have h9:(dy l)[k]?=some (ag x):=by unfold dy;rw [List.getElem?_map,hx];rfl
 rw [← h7,List.getElem?_take] at h9;split at h9
 ·simpa using h9
 cases h9
abbrev SD (g g1 g2 o2:Nat) (a0 a1 a2 a3:Value) (w:World):Prop:=w.cell? ⟨g,0,none⟩=some a0∧w.cell? ⟨g,1,none⟩=some a1∧w.cell? ⟨g1,1,none⟩=some a2∧w.cell? ⟨g2,o2,none⟩=some a3
theorem SlS.bodyShort {w:World}{A:Option Addr}{n c:Nat}{l:List ay}(h:SlS (dC 40) 2 w A n c l) (ho:∀ b∈l,bV b):∀ b∈l,∀ m∈b.pts,dW m:=by
 intro b hb;obtain ⟨i,hi,e⟩:=List.getElem_of_mem hb;obtain ⟨g,o,a,_,_,_,ha,hp⟩:=h.at_ (i:=i) (by rw [← h.1];exact hi);rw [List.getElem?_eq_getElem hi] at ha;injection ha with ha;rw [← ha,e] at hp;obtain ⟨A',n',c',_,_,hM,_⟩:=hp;exact hM.short fun m hm=>by have:=((ho b hb).2.2 m hm).1;omega
theorem SlS.lineLen {w:World}{A:Option Addr}{n c:Nat}{l:List ay}(h:SlS (dC 40) 2 w A n c l) (ho:∀ b∈l,bV b):∀ b∈l,(bm b).length≤30000:=fun b hb=>jY (ho b hb).1 (ho b hb).2.1 (h.bodyShort ho b hb)
theorem qq (w:World) (A:Option Addr) (n c:Nat) (B:Option Addr) (p d:Nat) (C:Option Addr) (q e:Nat) (L:au) (h:LkS 40 w A n c B p d C q e L) (he:cB L≠0):Calls Tryz.prog 29 #[.agg #[ag L.name,.slice A n c,.slice B p d,.slice C q e]] w (fun e' w'=>e'=.returned (.tuple #[ag [],cT (cB L)])∧Below w.heap.size w w'):=by
 obtain ⟨x,hx⟩:∃ x,cB L=x:=⟨_,rfl⟩;rw [hx] at he ⊢;have HX:=Qh hx;have H:=Qh h;have hev:cT x=.iface 49 (.int .i64 x):=if_neg he;rw [hev];have HE:=Qh hev;clear h hx hev;go_in;go_wp2_with fail;have q0:Below w.heap.size w (w.alloc (.cells #[ag L.name,.slice A n c,.slice B p d,.slice C q e] 36)):=(ae w).alloc Qr _;(with_reducible refine (mC _ A n c B p d C q e L 40 (H.out.belw q0) (by decide) (by decide) x HX.out).mono ?_);rintro e' w1 ⟨rfl,hb1⟩;rw [HE.out];have q1:=q0.trans (hb1.mono q0.size);clear hb1;go_wp2_with fail;go_ret2;exact ⟨rfl,q1⟩
theorem rT (w:World) (A:Option Addr) (n c:Nat) (B:Option Addr) (p d:Nat) (C:Option Addr) (q e:Nat) (L:au) (h:LkS 40 w A n c B p d C q e L) (htab:Tab w) (hc:cB L=0):Calls Tryz.prog 29 #[.agg #[ag L.name,.slice A n c,.slice B p d,.slice C q e]] w (fun e' w'=>e'=.returned (.tuple #[ag (cj L),cT (bo L)])∧Below w.heap.size w w'):=by
 have hk:=pO hc;have hln:=h.bodies.1;have hlj:=h.joints.1;have hld:=h.drivers.1;have hnb:=hk.nb;have hnj:=hk.nj;have hnd:=hk.nd;have hb0:=hk.b0;have hnc:=h.bodies.2.1;have hpc:=h.joints.2.1;have hqc:=h.drivers.2.1;have hnm:L.name.length≤24:=hk.name;have hsn:=aq L.name;rw [hln] at hnb hb0;rw [hlj] at hnj;rw [hld] at hnd;have hfb:=dD bm 30000 L.bodies (h.bodies.lineLen hk.body);have hfj:=dD (aE L.bodies) 200 L.joints fun j hj=>ew hk.body (hk.joint j hj).1
 have hfd:=dD (aL L.bodies) 60 L.drivers fun d hd=>gZ hk.body (hk.driver d hd).1
 rw [hln] at hfb;rw [hlj] at hfj;rw [hld] at hfd;obtain ⟨h1,eh1⟩:∃ t,[108,105,110,107,97,103,101,32] ++ L.name=t:=⟨_,rfl⟩;have ah1:=bD ([108,105,110,107,97,103,101,32]) (L.name);rw [eh1] at ah1;have lh1:h1.length=8+L.name.length:=by rw [← eh1,List.length_append];try simp
 have kh1:(9223372036854775807 < 8+L.name.length)=False:=eq_false (by omega);have zh1:=aq h1;obtain ⟨h2,eh2⟩:∃ t,h1 ++ [59,10]=t:=⟨_,rfl⟩;have ah2:=bD (h1) ([59,10]);rw [eh2] at ah2;have lh2:h2.length=h1.length+2:=by rw [← eh2,List.length_append];try simp
 have kh2:(9223372036854775807 < h1.length+2)=False:=eq_false (by omega);have zh2:=aq h2;have hl2:h2.length≤34:=by omega
 obtain ⟨S1,hS1⟩:∃ S,h2 ++ L.bodies.flatMap bm=S:=⟨_,rfl⟩;obtain ⟨S2,hS2⟩:∃ S,S1 ++ L.joints.flatMap (aE L.bodies)=S:=⟨_,rfl⟩;obtain ⟨S3,hS3⟩:∃ S,S2 ++ L.drivers.flatMap (aL L.bodies)=S:=⟨_,rfl⟩;have hlS1:S1.length≤34+30000 * n:=by rw [← hS1,List.length_append];omega
 have hlS2:S2.length≤34+30000 * n+200 * p:=by rw [← hS2,List.length_append];omega
 have hlS3:S3.length≤34+30000 * n+200 * p+60 * q:=by rw [← hS3,List.length_append];omega
 have hT3:bt L=S3:=by
  rw [← hS3,← hS2,← hS1,← eh2,← eh1];unfold bt gY;simp
 have H:=Qh h;have HK:=Qh hk;have HC:=Qh hc;have HTab:=Qh htab;have HS1:=Qh hS1;have HS2:=Qh hS2;have HS3:=Qh hS3;have HT3:=Qh hT3;have HFB:=Qh hfb;have HFJ:=Qh hfj;have HFD:=Qh hfd;have HLB:=Qh hln;have HLJ:=Qh hlj;have HLD:=Qh hld;have HL1:=Qh hlS1;have HL2:=Qh hlS2;have HL3:=Qh hlS3;clear h hk hc htab hS1 hS2 hS3 hT3 hfb hfj hfd hln hlj hld eh1 eh2 lh1 lh2 hlS1 hlS2 hlS3;go_in;go_wp2_with fail;have q0:Below w.heap.size w (w.alloc (.cells #[ag L.name,.slice A n c,.slice B p d,.slice C q e] 36)):=(ae w).alloc Qr _;have x0:Blk (w.alloc (.cells #[ag L.name,.slice A n c,.slice B p d,.slice C q e] 36)) w.heap.size 36 #[ag L.name,.slice A n c,.slice B p d,.slice C q e]:=ai _ _ _ rfl;(with_reducible refine (mC _ A n c B p d C q e L 40 (H.out.belw q0) (by decide) (by decide) 0 HC.out).mono ?_);rintro e' w1 ⟨rfl,hb1⟩;rw [show cT 0=.nilIface from if_pos rfl];have q1:=q0.trans (hb1.mono q0.size);have x1:=x0.below hb1 x0.lt;have hlw1:w.heap.size < w1.heap.size:=x1.lt;have cx0:=x1.cell 0;clear hb1 q0 x0;go_wp2_with fail;clear cx0;have B1:Bu w1.heap.size w1.heap.size (w1.alloc (.cells #[.pointer none,.slice none 0 0] 70)) []:=Bu.new;have qa:Below w1.heap.size w1 (w1.alloc (.cells #[.pointer none,.slice none 0 0] 70)):=(ae w1).alloc Qr _;have xa:=x1.below qa x1.lt;(with_reducible refine (bM _ _ _ _ h2 B1 (by simp only [List.length_nil];omega)).mono ?_);rintro e' w2 ⟨rfl,B2,q2,_⟩;rw [List.nil_append] at B2;have q2:=qa.trans q2;have x2:=x1.below q2 x1.lt;have bw2:=q1.trans (q2.mono q1.size);have HB2:=Qh B2;have cx1:=x2.cell 1;clear qa xa B1 B2 q1 x1;go_wp2_with fail;clear cx1;go_loopw [26] (fun iv wr=>∃ i:Nat,iv=.int .i64 (i:Nat)∧i≤n∧Hid (Bu w1.heap.size w1.heap.size wr (h2 ++ (L.bodies.take i).flatMap bm))∧Below w1.heap.size w2 wr) (fun iv _=>n - (intOf iv).toNat)
 case atStart=>exact ⟨0,rfl,Nat.zero_le _,by simpa using HB2,Below.refl _ _⟩
 case round =>
  clear HB2;obtain ⟨i,rfl,hi,HB,hb⟩:=hrel;rename World=>wa;have xa:=x2.below hb hlw1;have bwa:=bw2.trans (hb.mono (Nat.le_of_lt hlw1));rcases Nat.lt_or_ge i n with hlt | hge
  ·have hi1:((i:Int) < (n:Int))=True:=by simp;omega
   obtain ⟨g,o,b,e1,hg,_,hbi,hBd⟩:=(H.out.bodies.bd bwa).at_ hlt;subst e1;have hok:=HK.out.body b (List.mem_of_getElem? hbi);have hms:=(H.out.bodies.bd bwa).bodyShort HK.out.body b (List.mem_of_getElem? hbi);obtain ⟨A',n',c',d0,d1,hM,_⟩:=hBd;have hfs:=dq bm hbi;have hfl2:=dt bm L.bodies (i+1);rw [hfs,List.length_append] at hfl2;obtain ⟨T,hT⟩:∃ T,fk b=T:=⟨_,rfl⟩;obtain ⟨T1,hT1⟩:∃ t,T ++ [10]=t:=⟨_,rfl⟩;have hlt1:bm b=T1:=by rw [← hT1,← hT];rfl
   rw [hlt1] at hfs hfl2;have aT1:=bD T [10];rw [hT1] at aT1;have hlT:T1.length=T.length+1:=by rw [← hT1,List.length_append];rfl
   have h9:=HFB.out;have kT1:(9223372036854775807 < T.length+1)=False:=eq_false (by omega);have hsT:=aq T;have hlw:(h2 ++ (L.bodies.take i).flatMap bm).length+T1.length≤140737488355328:=by rw [List.length_append];omega
   have HW:=Qh hlw;have HFS:Hid (h2 ++ (L.bodies.take (i+1)).flatMap bm=h2 ++ (L.bodies.take i).flatMap bm ++ T1):=Qh (by rw [hfs,List.append_assoc]);have HT:=Qh hT;have HM:=Qh hM;have HOK:=Qh hok;have hlen9:=hok.2.1;rw [hM.1] at hlen9;clear hbi hok hms hM hfs hfl2 hT hT1 hlt1 hlT h9 hlw;have hga:g < wa.heap.size:=hg;go_wp2_with fail;have xp:Blk (wa.alloc (.cells #[ag b.name,.slice A' n' c'] 62)) wa.heap.size 62 #[ag b.name,.slice A' n' c']:=ai _ _ _ rfl;have qb:Below wa.heap.size wa (wa.alloc (.cells #[ag b.name,.slice A' n' c'] 62)):=(ae wa).alloc Qr _;have HBb:=Qh (HB.out.belw qb);have HTb:=Qh ((HTab.out.belw bwa).belw qb);have HMb:=Qh (HM.out.mk_ qb);have hbB:w1.heap.size < wa.heap.size:=HB.out.lt;clear HB HM d0 d1;generalize (wa.alloc (.cells #[ag b.name,.slice A' n' c'] 62))=wb at xp qb HBb HTb HMb ⊢;(with_reducible refine (tp _ A' n' c' b HMb.out HTb.out (by omega) HOK.out.nm HOK.out.mks T HT.out).mono ?_);rintro e' wc ⟨rfl,qc⟩;have qc2:=af qb qc;go_wp2_with fail;(with_reducible refine (bM _ _ _ _ T1 (HBb.out.belw qc) HW.out).mono ?_);rintro e' wd ⟨rfl,Bd,qd,_⟩;have HBd:Hid (Bu w1.heap.size w1.heap.size wd (h2 ++ (L.bodies.take (i+1)).flatMap bm)):=Qh (by rw [HFS.out];exact Bd);have bd:=(hb.trans (qc2.mono (Nat.le_of_lt hbB))).trans qd;clear Bd HFS;go_wp2_with fail;go_roundw
   case rel=>exact ⟨i+1,by go_num,by omega,HBd,bd⟩
   case measure=>simp [intOf];omega
  have hi1:((i:Int) < (n:Int))=False:=by simp;omega
  have hin:L.bodies.take i=L.bodies:=List.take_of_length_le (by rw [HLB.out];exact hge);rw [hin,HS1.out] at HB;have HB1:=HB;have cx2:=xa.cell 2;clear hin HB;go_wp2_with fail;clear cx2;go_loopw [38] (fun iv wr=>∃ i2:Nat,iv=.int .i64 (i2:Nat)∧i2≤p∧Hid (Bu w1.heap.size w1.heap.size wr (S1 ++ (L.joints.take i2).flatMap (aE L.bodies)))∧Below w1.heap.size w2 wr) (fun iv _=>p - (intOf iv).toNat)
  case atStart=>exact ⟨0,rfl,Nat.zero_le _,by simpa using HB1,hb⟩
  case round =>
   clear HB1 xa bwa hb;obtain ⟨i2,rfl,hi2,HB,hb⟩:=hrel;rename World=>wj;have xa:=x2.below hb hlw1;have bwa:=bw2.trans (hb.mono (Nat.le_of_lt hlw1));rcases Nat.lt_or_ge i2 p with hlt2 | hge2
   ·have hi3:((i2:Int) < (p:Int))=True:=by simp;omega
    obtain ⟨g,o,j,e1,hg,_,hbi,hJt⟩:=(H.out.joints.jt bwa).at_ hlt2;subst e1;have hok:=HK.out.joint j (List.mem_of_getElem? hbi);obtain ⟨hjn,ja,jb,jp,jo,x,y,m1,m2,ea,eb,ep,eo,hx,hy,hm1,hm2,hkd⟩:=hok;obtain ⟨d0,d1,d2,d3,d4,d5,d6,_⟩:=hJt;obtain ⟨F1,hF1⟩:∃ F,x.name ++ 46 :: m1.name=F:=⟨_,rfl⟩;obtain ⟨F2,hF2⟩:∃ F,y.name ++ 46 :: m2.name=F:=⟨_,rfl⟩;have hbx:=HK.out.body x (List.mem_of_getElem? hx);have hby:=HK.out.body y (List.mem_of_getElem? hy);have HJ1:=Qh (And.intro hx (And.intro hm1 (And.intro hbx.nm (And.intro (hbx.mks m1 (List.mem_of_getElem? hm1)) hF1))));have HJ2:=Qh (And.intro hy (And.intro hm2 (And.intro hby.nm (And.intro (hby.mks m2 (List.mem_of_getElem? hm2)) hF2))));have hf1:dK L.bodies j.a j.point=F1:=by rw [ea,ep,jX hx hm1,hF1]
    have hf2:dK L.bodies j.b j.on=F2:=by rw [eb,eo,jX hy hm2,hF2]
    have hfs:=dq (aE L.bodies) hbi;have hfl2:=dt (aE L.bodies) L.joints (i2+1);rw [hfs,List.length_append] at hfl2;have hjl:=ew HK.out.body hjn;rw [ea] at d2;rw [ep] at d3;rw [eb] at d4;rw [eo] at d5;have hsj:=aq j.name;have hga:g < wj.heap.size:=hg;have h9:=HFJ.out;have h8:=HL1.out;have hlw:(S1 ++ (L.joints.take i2).flatMap (aE L.bodies)).length+(aE L.bodies j).length≤140737488355328:=by rw [List.length_append];omega
    have HW:=Qh hlw;have HFS:Hid (S1 ++ (L.joints.take (i2+1)).flatMap (aE L.bodies)=S1 ++ (L.joints.take i2).flatMap (aE L.bodies) ++ aE L.bodies j):=Qh (by rw [hfs,List.append_assoc]);have HBI:=Qh (And.intro hf1 (And.intro hf2 hjl));have HKD:=Qh hkd;have HBY:=Qh (And.intro hy hby);have HEB:=Qh eb;clear hF1 hF2 hx hy hm1 hm2 hbx hby hf1 hf2 hfs hfl2 hjl ea ep eb eo hbi h9 h8 hlw hkd;go_wp2_with fail;have xp:Blk (wj.alloc (.cells #[ag j.name,.int .i64 j.kind,.int .i64 (ja:Nat),.int .i64 (jp:Nat),.int .i64 (jb:Nat),.int .i64 (jo:Nat),.int .i64 j.to_] 79)) wj.heap.size 79 #[ag j.name,.int .i64 j.kind,.int .i64 (ja:Nat),.int .i64 (jp:Nat),.int .i64 (jb:Nat),.int .i64 (jo:Nat),.int .i64 j.to_]:=ai _ _ _ rfl;have qb:Below wj.heap.size wj (wj.alloc (.cells #[ag j.name,.int .i64 j.kind,.int .i64 (ja:Nat),.int .i64 (jp:Nat),.int .i64 (jb:Nat),.int .i64 (jo:Nat),.int .i64 j.to_] 79)):=(ae wj).alloc Qr _;have HBb:=Qh (HB.out.belw qb);have HTb:=Qh ((HTab.out.belw bwa).belw qb);have HBod:=Qh ((H.out.bodies.bd bwa).bd qb);have hbB:w1.heap.size < wj.heap.size:=HB.out.lt;have xb:=xa.below qb xa.lt;have bwb:=hb.trans (qb.mono (Nat.le_of_lt hbB));clear HB d0 d1 d2 d3 d4 d5 d6 xa;generalize (wj.alloc (.cells #[ag j.name,.int .i64 j.kind,.int .i64 (ja:Nat),.int .i64 (jp:Nat),.int .i64 (jb:Nat),.int .i64 (jo:Nat),.int .i64 j.to_] 79))=wb at xp qb HBb HTb HBod xb bwb ⊢;have hlb:wj.heap.size < wb.heap.size:=xp.lt;have hlb2:w.heap.size < wb.heap.size:=xb.lt;obtain ⟨cp0,cp1,cp2,cp3,cp4,cp5,cp6⟩:=xp.c7;obtain ⟨cb0,cb1,cb2,cb3⟩:=xb.c4
    go_region_held3 (fun w'=>Sees wb.heap.size wb w') (first | with_reducible exact Sees.of Qr (by assumption) | with_reducible exact Sees.of Qr (ae _).drew | with_reducible exact Sees.al (by assumption) _ | exact Sees.of Qr (aa (ae _) 1) | exact Sees.of Qr (aa (by assumption) _))
     (first
      | (go_at_call 61;(with_reducible refine (lP _ _ _ _ _ _ _ _ _ _ _ L.bodies 40 ?_ ja jp x m1 HJ1.out.1 HJ1.out.2.1 HJ1.out.2.2.1 HJ1.out.2.2.2.1 F1 HJ1.out.2.2.2.2).mono ?_);(exact HBod.out.bd (by first | exact qwf2 | exact ae _ | exact (ae wb).drew | exact aa (ae wb) _));rintro e' wf1 ⟨rfl,hwf1⟩;have qwf1:Below wb.heap.size wb wf1:=(by first | exact af qwf2 hwf1 | exact af (ae wb) hwf1 | exact af (aa (ae wb) _) hwf1))
      | (go_at_call 61;(with_reducible refine (lP _ _ _ _ _ _ _ _ _ _ _ L.bodies 40 ?_ jb jo y m2 HJ2.out.1 HJ2.out.2.1 HJ2.out.2.2.1 HJ2.out.2.2.2.1 F2 HJ2.out.2.2.2.2).mono ?_);(exact HBod.out.bd (by first | exact qwf1 | exact ae _ | exact (ae wb).drew | exact aa (ae wb) _));rintro e' wf2 ⟨rfl,hwf2⟩;have qwf2:Below wb.heap.size wb wf2:=(by first | exact af qwf1 hwf2 | exact af (ae wb) hwf2 | exact af (aa (ae wb) _) hwf2)))
    all_goals
     rename_i hHeld;clear hHeld hwf1 hwf2
     first
      | clear qwf1 wf1
      | clear qwf2 wf2
     rename World=>wl;rename Below wb.heap.size wb wl=>ql;have xs:Blk (wl.alloc (.cells #[.string ⟨#[112,105,110]⟩,ag j.name,ag F1,ag F2] 9)) wl.heap.size 9 (dy [[112,105,110],j.name,F1,F2]).toArray:=ai _ _ _ rfl;have qs:Below wb.heap.size wb (wl.alloc (.cells #[.string ⟨#[112,105,110]⟩,ag j.name,ag F1,ag F2] 9)):=ql.alloc ql.size _;have hgl:wb.heap.size≤wl.heap.size:=ql.size;clear cp0 cp1 cp2 cp3 cp4 cp5 cp6 cb0 cb1 cb2 cb3 ql;generalize (wl.alloc (.cells #[.string ⟨#[112,105,110]⟩,ag j.name,ag F1,ag F2] 9))=ws at xs qs ⊢;have hls:wl.heap.size < ws.heap.size:=xs.lt;have xp2:=xp.below qs xp.lt;have xb2:=xb.below qs xb.lt;have bws:=bwb.trans (qs.mono (by omega));have cp1:=xp2.cell 1;rcases HKD.out with ⟨hk0,_⟩ | ⟨hk1,jt,m3,et,hm3⟩
     ·have e10:(j.kind == 1)=false:=by rw [hk0];rfl
      have hw0:cd L.bodies j=[[112,105,110],j.name,F1,F2]:=by
       unfold cd;rw [if_neg (by omega),HBI.out.1,HBI.out.2.1]
      obtain ⟨J,hJ⟩:∃ J,er [[112,105,110],j.name,F1,F2]=J:=⟨_,rfl⟩;obtain ⟨T,hT⟩:∃ T,J ++ [59,10]=T:=⟨_,rfl⟩;have hTT:aE L.bodies j=T:=by unfold aE;rw [hw0,hJ,hT]
      have aT:=bD J [59,10];rw [hT] at aT;have hlT:T.length=J.length+2:=by rw [← hT,List.length_append];rfl
      have hl200:=HBI.out.2.2;rw [hTT] at hl200;have kT:(9223372036854775807 < J.length+2)=False:=eq_false (by omega);have hsJ:=aq J;have hWT:=HW.out;rw [hTT] at hWT;have HWT:=Qh hWT;have HTT:=Qh hTT;have HJ:=Qh hJ;clear hk0 hw0 hT hTT hWT;go_wp2_with fail;(with_reducible refine (lh ws wl.heap.size 4 4 _ rfl xs.strs hls (by decide) (by decide) (by rw [HJ.out];omega)).mono ?_);rintro e' wt ⟨rfl,qt⟩;rw [HJ.out];go_wp2_with fail;(with_reducible refine (bM _ _ _ _ T ((HBb.out.belw qs).belw qt) HWT.out).mono ?_);rintro e' wu ⟨rfl,Bw,qu,_⟩;have HBu:Hid (Bu w1.heap.size w1.heap.size wu (S1 ++ (L.joints.take (i2+1)).flatMap (aE L.bodies))):=Qh (by rw [HFS.out,HTT.out];exact Bw);have bu:=(bws.trans (qt.mono (by omega))).trans qu;clear Bw;go_wp2_with fail;go_roundw
      case rel=>exact ⟨i2+1,by go_num,by omega,HBu,bu⟩
      case measure=>simp [intOf];omega
     have e10:(j.kind == 1)=true:=by rw [hk1];rfl
     obtain ⟨F3,hF3⟩:∃ F,y.name ++ 46 :: m3.name=F:=⟨_,rfl⟩;have hby:=HBY.out.2;have HJ3:=Qh (And.intro HBY.out.1 (And.intro hm3 (And.intro hby.nm (And.intro (hby.mks m3 (List.mem_of_getElem? hm3)) hF3))))
     have hw0:cd L.bodies j=[[115,108,105,100,101],j.name,F1,F2,F3]:=by
      unfold cd;have hf3:=jX HBY.out.1 hm3;rw [if_pos hk1,HBI.out.1,HBI.out.2.1,HEB.out,et,hf3,hF3]
     have hto:((jt:Nat):Int)=j.to_:=et.symm;obtain ⟨J,hJ⟩:∃ J,er [[115,108,105,100,101],j.name,F1,F2,F3]=J:=⟨_,rfl⟩;obtain ⟨T,hT⟩:∃ T,J ++ [59,10]=T:=⟨_,rfl⟩;have hTT:aE L.bodies j=T:=by unfold aE;rw [hw0,hJ,hT]
     have aT:=bD J [59,10];rw [hT] at aT;have hlT:T.length=J.length+2:=by rw [← hT,List.length_append];rfl
     have hl200:=HBI.out.2.2;rw [hTT] at hl200;have kT:(9223372036854775807 < J.length+2)=False:=eq_false (by omega);have hsJ:=aq J;have hWT:=HW.out;rw [hTT] at hWT;have HWT:=Qh hWT;have HTT:=Qh hTT;have HJ:=Qh hJ;rw [et] at xp2 xp;obtain ⟨i0,hi0,hz0,hz1,hz2⟩:=info_parts kB;have HI:=Qh (And.intro hi0 (And.intro hz0 (And.intro hz1 hz2)));clear hk1 hi0 hz0 hz1 hz2 et hto hm3 hF3 hby hw0 hT hTT hWT;have xs0:=xs.cell 0;have xf0:=xs.frozen 0;have xs1:=xs.cell 1;have cp4:=xp2.cell 4;have cp6:=xp2.cell 6;obtain ⟨cb0,cb1,cb2,cb3⟩:=xb2.c4;have hne1:¬ w.heap.size=wl.heap.size:=by omega
     have hne2:¬ wj.heap.size=wl.heap.size:=by omega
     have xs5:Blk (ws.setCell ⟨wl.heap.size,0,none⟩ (ag [115,108,105,100,101])) wl.heap.size 9 (dy [[115,108,105,100,101],j.name,F1,F2]).toArray:=xs.set_ 0 _;have qs5:Below wb.heap.size wb (ws.setCell ⟨wl.heap.size,0,none⟩ (ag [115,108,105,100,101])):=qs.setCell (p:=⟨wl.heap.size,0,none⟩) hgl _;clear xs;go_wp2_with fail;clear cb0 cb1 cb2 cb3 cp4 cp6 cp1 xs0 xs1 xf0;generalize (ws.setCell ⟨wl.heap.size,0,none⟩ (ag [115,108,105,100,101]))=wv at xs5 qs5 ⊢;(with_reducible refine (lP _ _ _ _ _ _ _ _ _ _ _ L.bodies 40 (HBod.out.bd qs5) jb jt y m3 HJ3.out.1 HJ3.out.2.1 HJ3.out.2.2.1 HJ3.out.2.2.2.1 F3 HJ3.out.2.2.2.2).mono ?_);rintro e' wt ⟨rfl,qt⟩;have xs6:=xs5.below qt xs5.lt;have q6:=af qs5 qt;have HO:=Qh ((xs6.owns (n:=4) hgl rfl (by decide)).alloc (.cells #[ag F3] 9));go_wp2_with (at_builtin;refine wpList_append_lies _ rfl _ _ _ rfl wb.heap.size 9 i0 (.string ⟨#[]⟩) 1 16 Tryz.underlying113 HI.out.1 HI.out.2.1 HI.out.2.2.1 HI.out.2.2.2 rfl (by omega) (.slice (some ⟨wl.heap.size,0,none⟩) 4 4) 4 (dy [[115,108,105,100,101],j.name,F1,F2]) rfl HO.out ⟨wt.heap.size,0,none⟩ 1 1 [_] rfl rfl (World.news_of_block (heap_alloc_new wt _)) (by simp [Value.oneCell']) (by omega) (by unfold maxLen;omega) (by omega) (by have:=q6.size;simp;omega) (wt.heap.size+1) (by simp) ?_;intro gx cap w9 hown1 hgrow hat hlt1);have ho5:=nY (l:=[[115,108,105,100,101],j.name,F1,F2,F3]) hown1;have HO5:=Qh ho5;have b9:Below wb.heap.size wb w9:=(q6.alloc q6.size _).grown hgrow (by have:=q6.size;simp;omega) (fun k hk=>by cases hk;exact hgl);clear ho5 hown1 hgrow hat;(with_reducible refine (lh w9 gx cap 5 _ rfl HO5.out.2 hlt1 (by decide) HO5.out.1 (by rw [HJ.out];omega)).mono ?_);rintro e' wy ⟨rfl,qy⟩;rw [HJ.out];have q9:=af b9 qy;go_wp2_with fail;(with_reducible refine (bM _ _ _ _ T (HBb.out.belw q9) HWT.out).mono ?_);rintro e' wu ⟨rfl,Bw,qu,_⟩;have HBu:Hid (Bu w1.heap.size w1.heap.size wu (S1 ++ (L.joints.take (i2+1)).flatMap (aE L.bodies))):=Qh (by rw [HFS.out,HTT.out];exact Bw);have bu:=(bwb.trans (q9.mono (by omega))).trans qu;clear Bw;go_wp2_with fail;go_roundw
     case rel=>exact ⟨i2+1,by go_num,by omega,HBu,bu⟩
     case measure=>simp [intOf];omega
   have hi3:((i2:Int) < (p:Int))=False:=by simp;omega
   have hin:L.joints.take i2=L.joints:=List.take_of_length_le (by rw [HLJ.out];exact hge2);rw [hin,HS2.out] at HB;have HB2:=HB;have cx3:=xa.cell 3;clear hin HB;go_wp2_with fail;clear cx3;go_loopw [79] (fun iv wr=>∃ i3:Nat,iv=.int .i64 (i3:Nat)∧i3≤q∧Hid (Bu w1.heap.size w1.heap.size wr (S2 ++ (L.drivers.take i3).flatMap (aL L.bodies)))∧Below w1.heap.size w2 wr) (fun iv _=>q - (intOf iv).toNat)
   case atStart=>exact ⟨0,rfl,Nat.zero_le _,by simpa using HB2,hb⟩
   case round =>
    clear HB2 xa bwa hb;obtain ⟨i3,rfl,hi3',HB,hb⟩:=hrel;rename World=>wk;have xa:=x2.below hb hlw1;have bwa:=bw2.trans (hb.mono (Nat.le_of_lt hlw1));rcases Nat.lt_or_ge i3 q with hlt3 | hge3
    ·have hi4:((i3:Int) < (q:Int))=True:=by simp;omega
     obtain ⟨g,o,dv,e1,hg,_,hbi,hDr⟩:=(H.out.drivers.dr bwa).at_ hlt3;subst e1;obtain ⟨hdn,di,y,ei,hy⟩:=HK.out.driver dv (List.mem_of_getElem? hbi);have hil:di < n:=by rw [← HLB.out];exact (List.getElem?_eq_some_iff.1 hy).1
     obtain ⟨gb,ob,y',e1,hgb,_,hy',hBy⟩:=H.out.bodies.at_ hil;rw [hy] at hy';injection hy' with hy';subst hy' e1;obtain ⟨A',n',c',k0,k1,hM,_⟩:=hBy;have hby:=HK.out.body y (List.mem_of_getElem? hy);have hyn:=hby.nm;obtain ⟨d0,d1,_⟩:=hDr;rw [ei] at d1;have hsd:=aq dv.name;have hsy:=aq y.name;obtain ⟨g1,eg1⟩:∃ t,[100,114,105,118,101,114,32] ++ dv.name=t:=⟨_,rfl⟩;have ag1:=bD ([100,114,105,118,101,114,32]) (dv.name);rw [eg1] at ag1;have lg1:g1.length=7+dv.name.length:=by rw [← eg1,List.length_append];try simp
     have kg1:(9223372036854775807 < 7+dv.name.length)=False:=eq_false (by omega);have zg1:=aq g1;obtain ⟨g2,eg2⟩:∃ t,g1 ++ [32]=t:=⟨_,rfl⟩;have ag2:=bD (g1) ([32]);rw [eg2] at ag2;have lg2:g2.length=g1.length+1:=by rw [← eg2,List.length_append];try simp
     have kg2:(9223372036854775807 < g1.length+1)=False:=eq_false (by omega);have zg2:=aq g2;obtain ⟨g3,eg3⟩:∃ t,g2 ++ y.name=t:=⟨_,rfl⟩;have ag3:=bD (g2) (y.name);rw [eg3] at ag3;have lg3:g3.length=g2.length+y.name.length:=by rw [← eg3,List.length_append];try simp
     have kg3:(9223372036854775807 < g2.length+y.name.length)=False:=eq_false (by omega);have zg3:=aq g3;obtain ⟨g4,eg4⟩:∃ t,g3 ++ [59,10]=t:=⟨_,rfl⟩;have ag4:=bD (g3) ([59,10]);rw [eg4] at ag4;have lg4:g4.length=g3.length+2:=by rw [← eg4,List.length_append];try simp
     have kg4:(9223372036854775807 < g3.length+2)=False:=eq_false (by omega);have zg4:=aq g4
     have hdt:aL L.bodies dv=g4:=by
      rw [← eg4,← eg3,← eg2,← eg1];unfold aL;rw [ei,rF hy]
     have hfs:=dq (aL L.bodies) hbi;have hfl2:=dt (aL L.bodies) L.drivers (i3+1);rw [hfs,List.length_append,hdt] at hfl2;rw [hdt] at hfs;have h9:=HFD.out;have h8:=HL2.out;have hlw:(S2 ++ (L.drivers.take i3).flatMap (aL L.bodies)).length+g4.length≤140737488355328:=by rw [List.length_append];omega
     have HW:=Qh hlw;have HFS:Hid (S2 ++ (L.drivers.take (i3+1)).flatMap (aL L.bodies)=S2 ++ (L.drivers.take i3).flatMap (aL L.bodies) ++ g4):=Qh (by rw [hfs,List.append_assoc]);have k0:=av k0 bwa;have hga:g < wk.heap.size:=hg;clear hM k1 hby hy ei hdt hfs hfl2 h9 h8 hlw hbi lg1 lg2 lg3 lg4 eg1 eg2 eg3 eg4;go_wp2_with fail;have xp:Blk (wk.alloc (.cells #[ag dv.name,.int .i64 (di:Nat)] 81)) wk.heap.size 81 #[ag dv.name,.int .i64 (di:Nat)]:=ai _ _ _ rfl;have qb:Below wk.heap.size wk (wk.alloc (.cells #[ag dv.name,.int .i64 (di:Nat)] 81)):=(ae wk).alloc Qr _;have HBb:=Qh (HB.out.belw qb);have hbB:w1.heap.size < wk.heap.size:=HB.out.lt;have xb:=xa.below qb xa.lt;have bwb:=hb.trans (qb.mono (Nat.le_of_lt hbB));have k0:=av k0 qb;clear HB d0 d1 xa;generalize (wk.alloc (.cells #[ag dv.name,.int .i64 (di:Nat)] 81))=wb at xp qb HBb xb bwb k0 ⊢;have hlb:wk.heap.size < wb.heap.size:=xp.lt;have hlb2:w.heap.size < wb.heap.size:=xb.lt;obtain ⟨cp0,cp1⟩:=xp.c2;have cb1:=xb.cell 1;have f1:((di:Int) < (n:Int)):=by omega
     have hSb:SD wk.heap.size w.heap.size gb (ob+di * 2) (ag dv.name) (.int .i64 (di:Nat)) (.slice (some ⟨gb,ob,none⟩) n c) (ag y.name) wb:=⟨cp0,cp1,cb1,k0⟩
     go_region_held3 (SD wk.heap.size w.heap.size gb (ob+di * 2) (ag dv.name) (.int .i64 (di:Nat)) (.slice (some ⟨gb,ob,none⟩) n c) (ag y.name)) (first | assumption | exact hSb)
      (first
       | (go_at_call 27;(with_reducible refine (bM _ _ _ _ g4 (HBb.out.belw (by first | exact (ae wb).drew | exact aa (ae wb) _)) HW.out).mono ?_);rintro e' wu ⟨rfl,Bw,qu,ou⟩;have xu:=ou wk.heap.size 81 _ (by omega) (by decide) xp;have qu:Below w1.heap.size wb wu:=(by first | exact (Below.refl _ wb).drew.trans qu | exact (aa (Below.refl _ wb) _).trans qu);have hSu:SD wk.heap.size w.heap.size gb (ob+di * 2) (ag dv.name) (.int .i64 (di:Nat)) (.slice (some ⟨gb,ob,none⟩) n c) (ag y.name) wu:=⟨xu.cell 0,xu.cell 1,(xb.below qu hlw1).cell 1,(qu.cell (p:=⟨gb,ob+di * 2,none⟩) (Nat.lt_trans hgb hlw1)).trans k0⟩))
     have HBu:Hid (Bu w1.heap.size w1.heap.size wu (S2 ++ (L.drivers.take (i3+1)).flatMap (aL L.bodies))):=Qh (by rw [HFS.out];exact Bw);have bu:=bwb.trans qu;clear Bw cp0 cp1 cb1 k0 hSb hSu;go_wp2_with fail;go_roundw
     case rel=>exact ⟨i3+1,by go_num,by omega,HBu,bu⟩
     case measure=>simp [intOf];omega
    have hi4:((i3:Int) < (q:Int))=False:=by simp;omega
    have hin:L.drivers.take i3=L.drivers:=List.take_of_length_le (by rw [HLD.out];exact hge3);rw [hin,HS3.out] at HB;clear hin;go_wp2_with fail;(with_reducible refine (pL _ _ _ S3 HB.out).mono ?_);rintro e' w9 ⟨rfl,rfl⟩;by_cases h65:65536 < S3.length
    ·have f65:((65536:Int) < (S3.length:Int))=True:=eq_true (by omega)
     have hoE:bo L=4:=by unfold bo;rw [if_neg (by rw [HC.out];decide),if_pos (Or.inr (by rw [HT3.out];exact h65))]
     have hoT:cj L=[]:=by unfold cj;rw [if_neg (by rw [hoE];decide)]
     have HOE:=Qh (And.intro hoE hoT);clear hoE hoT;go_wp2_with fail;go_ret2;exact ⟨by rw [HOE.out.1,HOE.out.2];rfl,bwa⟩
    have f65:((65536:Int) < (S3.length:Int))=False:=eq_false (by omega);have H65:=Qh h65;obtain ⟨v,hv⟩:∃ v,gW L.bodies=v:=⟨_,rfl⟩;have HV:=Qh hv;obtain ⟨cb0,cb1,cb2,cb3⟩:=xa.c4;clear h65 hv;go_wp2_with fail;(with_reducible refine (tq _ A n c B p d C q e L.name L.bodies (H.out.bodies.bd bwa) (HTab.out.belw bwa) (by omega) (fun b hb=>by have:=(HK.out.body b hb).np;omega) v HV.out).mono ?_);rintro e' wz ⟨rfl,qz⟩;have bz:=bwa.trans (qz.mono bwa.size);clear cb0 cb1 cb2 cb3;cases v
    ·have hoE:bo L=0:=by
      unfold bo;rw [if_neg (by rw [HC.out];decide),if_neg (by rw [HT3.out,HV.out];intro hh;rcases hh with hh | hh;exact absurd hh (by decide);exact H65.out hh)]
     have hoT:cj L=S3:=by unfold cj;rw [if_pos hoE,HT3.out]
     have HOE:=Qh (And.intro hoE hoT);have HBz:=Qh (HB.out.belw qz);clear hoE hoT;go_wp2_with fail;(with_reducible refine (lO _ _ _ _ HBz.out).mono ?_);rintro e' wy ⟨rfl,qy⟩;have by_:=bz.trans (qy.mono (Nat.le_of_lt hlw1));go_wp2_with fail;go_ret2;exact ⟨by rw [HOE.out.1,HOE.out.2];rfl,by_⟩
    have hoE:bo L=4:=by unfold bo;rw [if_neg (by rw [HC.out];decide),if_pos (Or.inl HV.out)]
    have hoT:cj L=[]:=by unfold cj;rw [if_neg (by rw [hoE];decide)]
    have HOE:=Qh (And.intro hoE hoT);clear hoE hoT;go_wp2_with fail;go_ret2;exact ⟨by rw [HOE.out.1,HOE.out.2];rfl,bz⟩
theorem tA (w:World) (i:Int) (n:Nat) (v:Bool) (hv:inI i n=v):Calls Tryz.prog 94 #[.int .i64 i,.int .i64 (n:Nat)] w (fun e w'=>e=.returned (.bool v)∧w'=w):=by
 subst hv;by_cases h1:0≤i
 ·by_cases h2:i < (n:Int)
  ·have e:inI i n=true:=by unfold inI;simp [h1,h2]
   rw [e];have f1:(0≤i)=True:=eq_true h1;have f2:(i < (n:Int))=True:=eq_true h2;go_in;go_wp2;go_ret;exact ⟨rfl,rfl⟩
  have e:inI i n=false:=by unfold inI;simp [h2]
  rw [e];have f1:(0≤i)=True:=eq_true h1;have f2:(i < (n:Int))=False:=eq_false h2;go_in;go_wp2;go_ret;exact ⟨rfl,rfl⟩
 have e:inI i n=false:=by unfold inI;simp [h1]
 rw [e];have f1:(0≤i)=False:=eq_false h1;go_in;go_wp2;go_ret;exact ⟨rfl,rfl⟩
theorem iy (w:World) (i:Int) (n:Nat) (v:Bool) (hv:inI i n=v):Calls Tryz.prog 94 #[.int .i64 i,.int .i64 (n:Nat)] w (aw w (.bool v)):=(tA w i n v hv).mono fun _ _ ⟨h1,h2⟩=>⟨h1,h2 ▸ ae _⟩
theorem qr (w:World) (A:Option Addr) (n c:Nat) (b:ay) (k:Nat) (h:SlS (dB k) 7 w A n c b.pts) (hk:k≤300000000) (x:Int) (hx:(if 8 < b.pts.length then 4 else aN aM [] b.pts)=x):Calls Tryz.prog 93 #[.agg #[ag b.name,.slice A n c]] w (aw w (.int .i64 x)):=by
 have hln:=h.1;by_cases h8:8 < n
 ·have f8:((8:Int) < (n:Int))=True:=eq_true (by omega)
  have h4:x=4:=by rw [← hx,if_pos (by rw [hln];exact h8)]
  clear hln;go_in;go_wp2;go_ret;exact ⟨by rw [h4];rfl,(ae w).alloc Qr _⟩
 have f8:((8:Int) < (n:Int))=False:=eq_false (by omega);have hbd:n≤8:=by omega
 rw [if_neg (by rw [hln];exact h8)] at hx;have hnc:=h.2.1;have HX:=Qh (bG hx);have HLN:=Qh hln;clear hx hln h8;go_in;go_wp2_with fail;go_loopw [3] (fun iv wr=>∃ i:Nat,iv=.int .i64 (i:Nat)∧i≤n∧Hid (aN aM (b.pts.take i) (b.pts.drop i)=x)∧Blk wr w.heap.size 62 #[ag b.name,.slice A n c]∧Below w.heap.size w wr) (fun iv _=>n - (intOf iv).toNat)
 case atStart=>exact ⟨0,rfl,Nat.zero_le _,HX,ai _ _ _ (by simp),(ae w).alloc Qr _⟩
 case round =>
  clear HX;obtain ⟨p,rfl,hp,HP,xB,hb3⟩:=hrel;rename World=>w3;obtain ⟨cB0,cB1⟩:=xB.c2;have hlB:w.heap.size < w3.heap.size:=xB.lt;rcases Nat.lt_or_ge p n with hpl | hpg
  ·have hp1:((p:Int) < (n:Int))=True:=by simp;omega
   have HM3:=Qh (h.mk_ hb3);obtain ⟨g',o',m,e,hg',_,hmp,hMk⟩:=HM3.out.at_ hpl;subst e;have hst:=bP HP.out hmp;obtain ⟨d0,⟨b1,A1,n1,c1,D1,m1,e1,d1,d2,d3,hQ1⟩,⟨b2,A2,n2,c2,D2,m2,e2,d4,d5,d6,hQ2⟩,hmn⟩:=hMk;have d2:w3.cell? ⟨g',o'+p * 7+2,none⟩=some (.slice A1 n1 c1):=d2;have d3:w3.cell? ⟨g',o'+p * 7+3,none⟩=some (.slice D1 m1 e1):=d3;have d5:w3.cell? ⟨g',o'+p * 7+5,none⟩=some (.slice A2 n2 c2):=d5;have d6:w3.cell? ⟨g',o'+p * 7+6,none⟩=some (.slice D2 m2 e2):=d6;have HST:=Qh hst;have HQ1:=Qh hQ1;have HQ2:=Qh hQ2;have HMN:=Qh hmn;have hpn:((p:Int) < (n:Int)):=by omega
   obtain ⟨v,hv⟩:∃ v,aQ m.name=v:=⟨_,rfl⟩;have HV:=Qh hv;clear hst hQ1 hQ2 hmn hmp hv h HP;go_wp2_with fail;(with_reducible refine (gS _ m.name HMN.out v HV.out).mono ?_);rintro e w4 ⟨rfl,hb4⟩;have q4:=hb4.q1;have x4:Blk w4 w3.heap.size 67 #[ag m.name,.bool b1,.slice A1 n1 c1,.slice D1 m1 e1,.bool b2,.slice A2 n2 c2,.slice D2 m2 e2]:=(ai _ _ _ (by simp)).below hb4 (by simp);have xB4:=xB.below q4 xB.lt;have bw4:=hb3.trans (q4.mono hb3.size);clear hb4 d0 d1 d2 d3 d4 d5 d6 cB0 cB1
   have hxz:∀ z:Int,z≠0→aM (b.pts.take p) m=z→x=z:=fun z hz hm=>by
    rcases HST.out with ⟨u,_⟩ | ⟨_,u⟩
    ·exact absurd (hm.symm.trans u) hz
    exact u.symm.trans hm
   have HXZ:=Qh hxz;clear hxz;cases v
   ·have h5:x=5:=HXZ.out 5 (by decide) (if_pos HV.out)
    go_wp2;go_ret;exact ⟨by rw [h5];rfl,bw4⟩
   go_wp2_with fail;go_loopw [5] (fun jv wr=>∃ r:Nat,jv=.int .i64 (r:Nat)∧r≤p∧Hid (twN ((b.pts.take r).map aR.name) m.name=false)∧Below w4.heap.size w4 wr) (fun jv _=>p - (intOf jv).toNat)
   case atStart=>exact ⟨0,rfl,Nat.zero_le _,Qh rfl,ae w4⟩
   case round =>
    obtain ⟨r,rfl,hr,HT,hb5⟩:=hrel;rename World=>w5;have x5:=x4.below hb5 x4.lt;have xB5:=xB4.below hb5 xB4.lt;have bw5:=bw4.trans (hb5.mono bw4.size);have cD0:=x5.cell 0;rcases Nat.lt_or_ge r p with hrl | hrg
    ·have hr1:((r:Int) < (p:Int))=True:=by simp;omega
     have hrn:r < n:=by omega
     obtain ⟨a,ha,hA⟩:=((HM3.out.mk_ q4).mk_ hb5).rowAt hrn;obtain ⟨d0,_,_,_⟩:=hA;obtain ⟨cB0,cB1⟩:=xB5.c2;have hrn2:((r:Int) < (n:Int)):=by omega
     have htl:=aW m.name;by_cases heq:a.name=m.name
     ·have h6:x=6:=HXZ.out 6 (by decide) (by
       unfold aM
       rw [HV.out,if_neg (by decide),if_pos (cX ha hrl heq)])
      rw [heq] at d0;have hee:(m.name == m.name)=true:=by simp
      clear heq ha;go_wp2_with fail;go_quiet (fail);go_wp2;go_ret;exact ⟨by rw [h6];rfl,aa bw5 _⟩
     have hta:=aW a.name;have HT2:=Qh (cA ha HT.out heq);have hee:(a.name == m.name)=false:=beq_eq_false_iff_ne.2 heq;clear heq ha HT;go_wp2_with fail;go_quiet (fail);go_wp2_with fail;go_roundw
     case rel=>exact ⟨r+1,by go_num,by omega,HT2,aa hb5 _⟩
     case measure=>simp [intOf];omega
    have hr1:((r:Int) < (p:Int))=False:=by simp;omega
    obtain rfl:r=p:=by omega
    have cD1:=x5.cell 1;have cD2:=x5.cell 2;have cD3:=x5.cell 3;obtain ⟨v1,hv1⟩:∃ v,m.x.ok=v:=⟨_,rfl⟩;obtain ⟨v2,hv2⟩:∃ v,m.y.ok=v:=⟨_,rfl⟩;have HV1:=Qh hv1;have HV2:=Qh hv2;clear hv1 hv2;go_wp2_with fail;(with_reducible refine (dT _ b1 A1 n1 c1 D1 m1 e1 m.x k v1 ((HQ1.out.belw q4).belw hb5) hk HV1.out).mono ?_);rintro e w6 ⟨rfl,hb6⟩;have x6:=x5.below hb6 x5.lt;have xB6:=xB5.below hb6 xB5.lt;have bw6:=bw5.trans (hb6.mono bw5.size);clear cD0 cD1 cD2 cD3
    have hE3:v1=false∨v2=false→aM (b.pts.take r) m=3:=fun hh=>by
     unfold aM;rw [HV.out,if_neg (by decide),HT.out,if_neg (by decide),HV1.out,HV2.out];rcases hh with e | e
     ·rw [e,if_pos rfl]
     rw [e];cases v1
     ·rfl
     rfl
    have HE3:=Qh hE3;clear hE3;cases v1
    ·have h3:x=3:=HXZ.out 3 (by decide) (HE3.out (.inl rfl))
     go_wp2;go_ret;exact ⟨by rw [h3];rfl,bw6⟩
    have cE4:=x6.cell 4;have cE5:=x6.cell 5;have cE6:=x6.cell 6;go_wp2_with fail;(with_reducible refine (dT _ b2 A2 n2 c2 D2 m2 e2 m.y k v2 (((HQ2.out.belw q4).belw hb5).belw hb6) hk HV2.out).mono ?_);rintro e w7 ⟨rfl,hb7⟩;have bw7:=bw6.trans (hb7.mono bw6.size);have xB7:=xB6.below hb7 xB6.lt;clear cE4 cE5 cE6;cases v2
    ·have h3:x=3:=HXZ.out 3 (by decide) (HE3.out (.inr rfl))
     go_wp2;go_ret;exact ⟨by rw [h3];rfl,bw7⟩
    have h0:aM (b.pts.take r) m=0:=by
     unfold aM;rw [HV.out,if_neg (by decide),HT.out,if_neg (by decide),HV1.out,HV2.out];rfl
    have HP2:Hid (aN aM (b.pts.take (r+1)) (b.pts.drop (r+1))=x):=Qh (by
     rcases HST.out with ⟨_,u⟩ | ⟨u,_⟩
     ·exact u
     exact absurd h0 u)
    clear h0;go_wp2_with fail;go_roundw
    case rel=>exact ⟨r+1,by go_num,by omega,HP2,xB7,bw7⟩
    case measure=>simp [intOf];omega
  have hp1:((p:Int) < (n:Int))=False:=by simp;omega
  have hx0:x=0:=cw HP.out (by rw [HLN.out];exact hpg);go_wp2;go_ret;exact ⟨by rw [hx0];rfl,hb3⟩
theorem qw (w:World) (A:Option Addr) (n c:Nat) (B:Option Addr) (p d:Nat) (C:Option Addr) (q e:Nat) (L:au) (k:Nat) (h:LkS k w A n c B p d C q e L) (hk:k≤10000000) (hn:n≤8) (x:Int) (hx:aN aD [] L.bodies=x):Calls Tryz.prog 53 #[.agg #[ag L.name,.slice A n c,.slice B p d,.slice C q e]] w (aw w (.int .i64 x)):=by
 have HX:=Qh (bG hx);have hnc:=h.bodies.2.1;have HLN:=Qh h.bodies.1;clear hx;go_in;go_wp2_with fail;go_loopw [3] (fun iv wr=>∃ i:Nat,iv=.int .i64 (i:Nat)∧i≤n∧Hid (aN aD (L.bodies.take i) (L.bodies.drop i)=x)∧Blk wr w.heap.size 36 #[ag L.name,.slice A n c,.slice B p d,.slice C q e]∧Below w.heap.size w wr) (fun iv _=>n - (intOf iv).toNat)
 case atStart=>exact ⟨0,rfl,Nat.zero_le _,HX,ai _ _ _ (by simp),(ae w).alloc Qr _⟩
 case round =>
  clear HX;obtain ⟨i,rfl,hi,HX,xL,hb⟩:=hrel;rename World=>wa;have cL1:=xL.cell 1;rcases Nat.lt_or_ge i n with hlt | hge
  ·have hi1:((i:Int) < (n:Int))=True:=by simp;omega
   have hR:=(h.belw hb).bodies;obtain ⟨g,o,b,e1,hg,_,hbi,hB⟩:=hR.at_ hlt;subst e1;have hstep:=bP HX.out hbi;obtain ⟨A',n',c',c0,c1,hM,hnm⟩:=hB;have HR:=Qh hR;have HM:=Qh hM;have HS:=Qh hstep;have HN:=Qh hnm;have hin:((i:Int) < (n:Int)):=by omega
   obtain ⟨v,hv⟩:∃ v,aQ b.name=v:=⟨_,rfl⟩;have HV:=Qh hv;clear h hR hM hstep hnm hbi hv HX;go_wp2_with fail;(with_reducible refine (gS _ b.name HN.out v HV.out).mono ?_);rintro e' w1 ⟨rfl,hb1⟩;have xL1:=xL.below hb1 xL.lt;have bw1:=hb.trans (hb1.mono hb.size)
   have hxz:∀ z:Int,z≠0→aD (L.bodies.take i) b=z→x=z:=fun z hz hm=>by
    rcases HS.out with ⟨u,_⟩ | ⟨_,u⟩
    ·exact absurd (hm.symm.trans u) hz
    exact u.symm.trans hm
   have HXZ:=Qh hxz;clear hxz cL1;cases v
   ·have h5:x=5:=HXZ.out 5 (by decide) (if_pos HV.out)
    go_wp2;go_ret;exact ⟨by rw [h5];rfl,bw1⟩
   go_wp2_with fail;go_loopw [4] (fun jv wr=>∃ j:Nat,jv=.int .i64 (j:Nat)∧j≤i∧Hid (twN ((L.bodies.take j).map ay.name) b.name=false)∧Below w1.heap.size w1 wr) (fun jv _=>i - (intOf jv).toNat)
   case atStart=>exact ⟨0,rfl,Nat.zero_le _,Qh rfl,ae w1⟩
   case round =>
    obtain ⟨j,rfl,hj,HT,hb2⟩:=hrel;rename World=>w2;have xL2:=xL1.below hb2 xL1.lt;have bw2:=bw1.trans (hb2.mono bw1.size);have cL1:=xL2.cell 1;have c0:=av (av c0 hb1) hb2;rcases Nat.lt_or_ge j i with hjl | hjg
    ·have hj1:((j:Int) < (i:Int))=True:=by simp;omega
     have hjn:j < n:=by omega
     have hjn2:((j:Int) < (n:Int)):=by omega
     obtain ⟨a,ha,hA⟩:=((HR.out.bd hb1).bd hb2).rowAt hjn;obtain ⟨A2,n2,c2,d0,_,_,_⟩:=hA;have htl:=aW b.name;by_cases heq:a.name=b.name
     ·have h6:x=6:=HXZ.out 6 (by decide) (by
       unfold aD
       rw [HV.out,if_neg (by decide),if_pos (cX ha hjl heq)])
      rw [heq] at d0;have hee:(b.name == b.name)=true:=by simp
      clear heq ha;go_wp2_with fail;go_quiet (fail);go_wp2;go_ret;exact ⟨by rw [h6];rfl,aa bw2 _⟩
     have hta:=aW a.name;have HT2:=Qh (cA ha HT.out heq);have hee:(a.name == b.name)=false:=beq_eq_false_iff_ne.2 heq;clear heq ha HT;go_wp2_with fail;go_quiet (fail);go_wp2_with fail;go_roundw
     case rel=>exact ⟨j+1,by go_num,by omega,HT2,aa hb2 _⟩
     case measure=>simp [intOf];omega
    have hj1:((j:Int) < (i:Int))=False:=by simp;omega
    obtain rfl:j=i:=by omega
    have c1:=av (av c1 hb1) hb2;obtain ⟨y,hy⟩:∃ y,(if 8 < b.pts.length then (4:Int) else aN aM [] b.pts)=y:=⟨_,rfl⟩
    have HE:Hid (aD (L.bodies.take j) b=y):=Qh (by
     unfold aD;rw [HV.out,if_neg (by decide),HT.out,if_neg (by decide)]
     exact hy)
    have HY:=Qh hy;clear hy;go_wp2_with fail;(with_reducible refine (qr _ A' n' c' b k ((HM.out.mk_ hb1).mk_ hb2) (by omega) y HY.out).mono ?_);rintro e' w3 ⟨rfl,hb3⟩;have bw3:=bw2.trans (hb3.mono bw2.size);have xL3:=xL2.below hb3 xL2.lt;clear cL1;by_cases hy0:y=0
    ·have HX2:Hid (aN aD (L.bodies.take (j+1)) (L.bodies.drop (j+1))=x):=Qh (by
      rcases HS.out with ⟨_,u⟩ | ⟨u,_⟩
      ·exact u
      exact absurd (HE.out.trans hy0) u)
     have e0:(y == 0)=true:=beq_iff_eq.2 hy0;have e1:(y != 0)=false:=by rw [hy0];rfl
     clear hy0;go_wp2_with fail;go_roundw
     case rel=>exact ⟨j+1,by go_num,by omega,HX2,xL3,bw3⟩
     case measure=>simp [intOf];omega
    have hxy:x=y:=HXZ.out y hy0 HE.out;have e0:(y == 0)=false:=beq_eq_false_iff_ne.2 hy0;have e1:(y != 0)=true:=bne_iff_ne.2 hy0;clear hy0;go_wp2;go_ret;exact ⟨by rw [hxy];rfl,bw3⟩
  have hi1:((i:Int) < (n:Int))=False:=by simp;omega
  have hx0:x=0:=cw HX.out (by rw [HLN.out];exact hge);go_wp2;go_ret;exact ⟨by rw [hx0];rfl,hb⟩
theorem qx (w:World) (A:Option Addr) (n c:Nat) (B:Option Addr) (p d:Nat) (C:Option Addr) (q e:Nat) (L:au) (k:Nat) (h:LkS k w A n c B p d C q e L) (hk:k≤10000000) (hn:n≤8) (hq:q≤2) (i:Nat) (hi:i < q) (b:bj) (hbi:L.drivers[i]?=some b) (x:Int) (hx:ap n (L.drivers.take i) b=x):Calls Tryz.prog 55 #[.agg #[ag L.name,.slice A n c,.slice B p d,.slice C q e],.int .i64 (i:Nat)] w (aw w (.int .i64 x)):=by
 have hqc:=h.drivers.2.1;have hlb:=h.bodies.1;obtain ⟨g,o,b9,e1,hg,_,hb9,hB⟩:=h.drivers.at_ hi;subst e1;obtain rfl:b9=b:=Option.some.inj (hb9.symm.trans hbi);obtain ⟨c0,c1,hnm⟩:=hB;have HX:=Qh hx;have H:=Qh h;have HN:=Qh hnm;have hin:((i:Int) < (q:Int)):=by omega
 obtain ⟨v,hv⟩:∃ v,aQ b9.name=v:=⟨_,rfl⟩;have HV:=Qh hv;have hwg:¬ g=w.heap.size:=by omega
 clear hx h hnm hv hb9 hlb hbi;go_in;go_wp2_with fail;(with_reducible refine (gS _ b9.name HN.out v HV.out).mono ?_);rintro e' w1 ⟨rfl,hb1⟩;have q1:=hb1.q2;have xL:Blk w1 w.heap.size 36 #[ag L.name,.slice A n c,.slice B p d,.slice (some ⟨g,o,none⟩) q e]:=((ai _ _ _ (by simp)).alloc _).below hb1 (by simp <;> omega);have x1:Blk w1 (w.heap.size+1) 81 #[ag b9.name,.int .i64 b9.body]:=(ai _ _ _ (by simp)).below hb1 (by simp);clear hb1;cases v
 ·have h5:x=5:=HX.out.symm.trans (if_pos HV.out)
  go_wp2;go_ret;exact ⟨by rw [h5];rfl,q1⟩
 go_wp2_with fail;go_loopw [6] (fun jv wr=>∃ j:Nat,jv=.int .i64 (j:Nat)∧j≤i∧Hid (twN ((L.drivers.take j).map bj.name) b9.name=false)∧Below w1.heap.size w1 wr) (fun jv _=>i - (intOf jv).toNat)
 case atStart=>exact ⟨0,rfl,Nat.zero_le _,Qh rfl,ae w1⟩
 case round =>
  obtain ⟨j,rfl,hj,HT,hb2⟩:=hrel;rename World=>w2;have xL2:=xL.below hb2 xL.lt;have x2:=x1.below hb2 x1.lt;have bw2:=q1.trans (hb2.mono q1.size);rcases Nat.lt_or_ge j i with hjl | hjg
  ·have hj1:((j:Int) < (i:Int))=True:=by simp;omega
   have hjn:j < q:=by omega
   have hjn2:((j:Int) < (q:Int)):=by omega
   obtain ⟨a,ha,d0,_,_⟩:=(H.out.drivers.dr bw2).rowAt hjn;have cL3:=xL2.cell 3;have z0:=x2.cell 0;have htl:=aW b9.name;by_cases heq:a.name=b9.name
   ·have h6:x=6:=by
     rw [← HX.out];unfold ap;rw [HV.out,if_neg (by decide),if_pos (cX ha hjl heq)]
    rw [heq] at d0;have hee:(b9.name == b9.name)=true:=by simp
    clear heq ha;go_wp2_with fail;go_quiet (fail);go_wp2;go_ret;exact ⟨by rw [h6];rfl,aa bw2 _⟩
   have hta:=aW a.name;have HT2:=Qh (cA ha HT.out heq);have hee:(a.name == b9.name)=false:=beq_eq_false_iff_ne.2 heq;clear heq ha HT;go_wp2_with fail;go_quiet (fail);go_wp2_with fail;go_roundw
   case rel=>exact ⟨j+1,by go_num,by omega,HT2,aa hb2 _⟩
   case measure=>simp [intOf];omega
  have hj1:((j:Int) < (i:Int))=False:=by simp;omega
  obtain rfl:j=i:=by omega
  have cL1:=xL2.cell 1;have z1:=x2.cell 1;obtain ⟨v1,hv1⟩:∃ v,inI b9.body n=v:=⟨_,rfl⟩;have HV1:=Qh hv1;clear hv1;go_wp2_with fail;(with_reducible refine (iy _ b9.body n v1 HV1.out).mono ?_);rintro e' w3 ⟨rfl,hb3⟩;have bw3:=bw2.trans (hb3.mono bw2.size);have xL3:=xL2.below hb3 xL2.lt;have x3:=x2.below hb3 x2.lt;clear cL1 z1;cases v1
  ·have h9:x=9:=by
    rw [← HX.out];unfold ap;rw [HV.out,if_neg (by decide),HT.out,if_neg (by decide),if_pos HV1.out]
   go_wp2;go_ret;exact ⟨by rw [h9];rfl,bw3⟩
  have z1:=x3.cell 1;by_cases hb0:b9.body=0
  ·have e0:(b9.body == 0)=true:=beq_iff_eq.2 hb0
   have h7:x=7:=by
    rw [← HX.out];unfold ap;rw [HV.out,if_neg (by decide),HT.out,if_neg (by decide),HV1.out,if_neg (by decide),if_pos hb0]
   clear hb0;go_wp2;go_ret;exact ⟨by rw [h7];rfl,bw3⟩
  have e0:(b9.body == 0)=false:=beq_eq_false_iff_ne.2 hb0;have HB0:=Qh hb0;clear hb0;go_wp2_with fail;clear z1;go_loopw [7] (fun jv wr=>∃ r:Nat,jv=.int .i64 (r:Nat)∧r≤j∧Hid (((L.drivers.take r).any fun p=>p.body == b9.body)=false)∧Below w3.heap.size w3 wr) (fun jv _=>j - (intOf jv).toNat)
  case atStart=>exact ⟨0,rfl,Nat.zero_le _,Qh rfl,ae w3⟩
  case round =>
   obtain ⟨r,rfl,hr,HR,hb4⟩:=hrel;rename World=>w4;have x4:=x3.below hb4 x3.lt;have xL4:=xL3.below hb4 xL3.lt;have bw4:=bw3.trans (hb4.mono bw3.size);rcases Nat.lt_or_ge r j with hrl | hrg
   ·have hr1:((r:Int) < (j:Int))=True:=by simp;omega
    have hrn:r < q:=by omega
    have hrn2:((r:Int) < (q:Int)):=by omega
    obtain ⟨a,ha,d0,d1,_⟩:=(H.out.drivers.dr bw4).rowAt hrn;have ht4:L.drivers.take (r+1)=L.drivers.take r ++ [a]:=by rw [List.take_add_one,ha];rfl
    have cL3:=xL4.cell 3;have z1:=x4.cell 1;by_cases heq:a.body=b9.body
    ·have h6:x=6:=by
      rw [← HX.out];unfold ap;rw [HV.out,if_neg (by decide),HT.out,if_neg (by decide),HV1.out,if_neg (by decide),if_neg HB0.out,if_pos];rw [List.any_eq_true];exact ⟨a,List.mem_of_getElem? (i:=r) (by rw [List.getElem?_take,if_pos hrl];exact ha),by simpa using heq⟩
     have hee:(a.body == b9.body)=true:=beq_iff_eq.2 heq;clear heq ha ht4;go_wp2_with fail;go_quiet (fail);go_wp2;go_ret;exact ⟨by rw [h6];rfl,aa bw4 _⟩
    ·have HR2:Hid (((L.drivers.take (r+1)).any fun p=>p.body == b9.body)=false):=Qh (by
      rw [ht4,List.any_append,HR.out]
      simpa using heq)
     have hee:(a.body == b9.body)=false:=beq_eq_false_iff_ne.2 heq;clear heq ha ht4 HR;go_wp2_with fail;go_quiet (fail);go_wp2_with fail;go_roundw
     case rel=>exact ⟨r+1,by go_num,by omega,HR2,aa hb4 _⟩
     case measure=>simp [intOf];omega
   have hr1:((r:Int) < (j:Int))=False:=by simp;omega
   obtain rfl:r=j:=by omega
   have h0:x=0:=by
    rw [← HX.out];unfold ap;rw [HV.out,if_neg (by decide),HT.out,if_neg (by decide),HV1.out,if_neg (by decide),if_neg HB0.out,HR.out];rfl
   go_wp2;go_ret;exact ⟨by rw [h0];rfl,bw4⟩
theorem fK {i:Int}{n:Nat}(h:inI i n=true):∃ m:Nat,i=(m:Int)∧m < n:=by
 unfold inI at h;simp only [Bool.and_eq_true,decide_eq_true_eq] at h;exact ⟨i.toNat,by omega,by omega⟩
theorem tB (w:World) (k:Nat) (hk:k≤10000000) (hk1:0 < k) (nm nm2:List UInt8) (b1:Bool) (A1:Option Addr) (n1 c1:Nat) (D1:Option Addr) (m1 e1:Nat) (r1:RD) (h1:QD w b1 A1 n1 c1 D1 m1 e1 r1 k) (b2:Bool) (A2:Option Addr) (n2 c2:Nat) (D2:Option Addr) (m2 e2:Nat) (r2:RD) (h2:QD w b2 A2 n2 c2 D2 m2 e2 r2 k) (b3:Bool) (A3:Option Addr) (n3 c3:Nat) (D3:Option Addr) (m3 e3:Nat) (r3:RD) (h3:QD w b3 A3 n3 c3 D3 m3 e3 r3 k) (b4:Bool) (A4:Option Addr) (n4 c4:Nat) (D4:Option Addr) (m4 e4:Nat) (r4:RD) (h4:QD w b4 A4 n4 c4 D4 m4 e4 r4 k) (v:Bool) (hv:(decide (r1.q=r3.q) && decide (r2.q=r4.q))=v):Calls Tryz.prog 95 #[.agg #[ag nm,.bool b1,.slice A1 n1 c1,.slice D1 m1 e1,.bool b2,.slice A2 n2 c2,.slice D2 m2 e2],.agg #[ag nm2,.bool b3,.slice A3 n3 c3,.slice D3 m3 e3,.bool b4,.slice A4 n4 c4,.slice D4 m4 e4]] w (aw w (.bool v)):=by
 obtain ⟨s1,hs1⟩:∃ s,fR r1.q r3.q=s:=⟨_,rfl⟩;obtain ⟨s2,hs2⟩:∃ s,fR r2.q r4.q=s:=⟨_,rfl⟩;have HS1:=Qh hs1;have HS2:=Qh hs2;have HV:=Qh hv;have H1:=Qh h1;have H2:=Qh h2;have H3:=Qh h3;have H4:=Qh h4;clear hs1 hs2 hv h1 h2 h3 h4;go_in;go_wp2_with fail;(with_reducible refine (mt _ b1 A1 n1 c1 D1 m1 e1 r1.q k ?_ b3 A3 n3 c3 D3 m3 e3 r3.q k ?_ s1 HS1.out hk1 hk hk1 hk).mono ?_);(exact (H1.out.qz).belw (((ae w).alloc Qr _).alloc (by simp) _));(exact (H3.out.qz).belw (((ae w).alloc Qr _).alloc (by simp) _));rintro e' w1 ⟨rfl,hb1⟩;have q1:=hb1.q2;have xa:Blk w1 w.heap.size 67 #[ag nm,.bool b1,.slice A1 n1 c1,.slice D1 m1 e1,.bool b2,.slice A2 n2 c2,.slice D2 m2 e2]:=((ai _ _ _ (by simp)).alloc _).below hb1 (by simp <;> omega);have xb:Blk w1 (w.heap.size+1) 67 #[ag nm2,.bool b3,.slice A3 n3 c3,.slice D3 m3 e3,.bool b4,.slice A4 n4 c4,.slice D4 m4 e4]:=(ai _ _ _ (by simp)).below hb1 (by simp);clear hb1;by_cases hs1:s1=0
 ·have es:(s1 == 0)=true:=beq_iff_eq.2 hs1
  have hqx:r1.q=r3.q:=bh.1 (HS1.out.trans hs1);have HQX:=Qh hqx;have ca4:=xa.cell 4;have ca5:=xa.cell 5;have ca6:=xa.cell 6;have cb4:=xb.cell 4;have cb5:=xb.cell 5;have cb6:=xb.cell 6;clear hs1 hqx;go_wp2_with fail;(with_reducible refine (mt _ b2 A2 n2 c2 D2 m2 e2 r2.q k ?_ b4 A4 n4 c4 D4 m4 e4 r4.q k ?_ s2 HS2.out hk1 hk hk1 hk).mono ?_);(exact (H2.out.qz).belw q1);(exact (H4.out.qz).belw q1);rintro e' w2 ⟨rfl,hb2⟩;have q2:=q1.trans (hb2.mono q1.size);clear ca4 ca5 ca6 cb4 cb5 cb6;by_cases hs2:s2=0
  ·have es2:(s2 == 0)=true:=beq_iff_eq.2 hs2
   have hqy:r2.q=r4.q:=bh.1 (HS2.out.trans hs2);have hv1:v=true:=HV.out.symm.trans (by rw [decide_eq_true HQX.out,decide_eq_true hqy];rfl);clear hs2 hqy;go_wp2;go_ret;exact ⟨by rw [hv1];rfl,q2⟩
  have es2:(s2 == 0)=false:=beq_eq_false_iff_ne.2 hs2;have hv0:v=false:=HV.out.symm.trans (by rw [decide_eq_false (fun e=>hs2 (HS2.out.symm.trans (bh.2 e)))];simp);clear hs2;go_wp2;go_ret;exact ⟨by rw [hv0];rfl,q2⟩
 have es:(s1 == 0)=false:=beq_eq_false_iff_ne.2 hs1;have hv0:v=false:=HV.out.symm.trans (by rw [decide_eq_false (fun e=>hs1 (HS1.out.symm.trans (bh.2 e)))];rfl);clear hs1;go_wp2;go_ret;exact ⟨by rw [hv0];rfl,q1⟩
theorem rU (w:World) (A:Option Addr) (n c:Nat) (B:Option Addr) (p d:Nat) (C:Option Addr) (q e:Nat) (L:au) (k:Nat) (h:LkS k w A n c B p d C q e L) (hk:k≤10000000) (hk1:0 < k) (hn:n≤8) (hp:p≤16) (i:Nat) (hi:i < p) (j:bc) (hji:L.joints[i]?=some j) (x:Int) (hx:aA L (L.joints.take i) j=x):Calls Tryz.prog 54 #[.agg #[ag L.name,.slice A n c,.slice B p d,.slice C q e],.int .i64 (i:Nat)] w (aw w (.int .i64 x)):=by
 have hpc:=h.joints.2.1;obtain ⟨g,o,j9,e1,hg,_,hj9,hB⟩:=h.joints.at_ hi;subst e1;obtain rfl:j9=j:=Option.some.inj (hj9.symm.trans hji);obtain ⟨c0,c1,c2,c3,c4,c5,c6,hnm⟩:=hB;have HX:=Qh hx;have H:=Qh h;have HL:=Qh h.bodies.1;have HN:=Qh hnm;have hin:((i:Int) < (p:Int)):=by omega
 obtain ⟨v,hv⟩:∃ v,aQ j9.name=v:=⟨_,rfl⟩;have HV:=Qh hv;have hwg:¬ g=w.heap.size:=by omega
 clear hx h hnm hv hj9 hji;go_in;go_wp2_with fail;(with_reducible refine (gS _ j9.name HN.out v HV.out).mono ?_);rintro e' w1 ⟨rfl,hb1⟩;have q1:=hb1.q2;have xL:Blk w1 w.heap.size 36 #[ag L.name,.slice A n c,.slice (some ⟨g,o,none⟩) p d,.slice C q e]:=((ai _ _ _ (by simp)).alloc _).below hb1 (by simp <;> omega);have x1:Blk w1 (w.heap.size+1) 79 #[ag j9.name,.int .i64 j9.kind,.int .i64 j9.a,.int .i64 j9.point,.int .i64 j9.b,.int .i64 j9.on,.int .i64 j9.to_]:=(ai _ _ _ (by simp)).below hb1 (by simp);clear hb1 c0 c1 c2 c3 c4 c5 c6;cases v
 ·have h5:x=5:=HX.out.symm.trans (if_pos HV.out)
  go_wp2;go_ret;exact ⟨by rw [h5];rfl,q1⟩
 go_wp2_with fail;go_loopw [6] (fun jv wr=>∃ r:Nat,jv=.int .i64 (r:Nat)∧r≤i∧Hid (twN ((L.joints.take r).map bc.name) j9.name=false)∧Below w1.heap.size w1 wr) (fun jv _=>i - (intOf jv).toNat)
 case atStart=>exact ⟨0,rfl,Nat.zero_le _,Qh rfl,ae w1⟩
 case round =>
  obtain ⟨r,rfl,hr,HT,hb2⟩:=hrel;rename World=>w2;have xL2:=xL.below hb2 xL.lt;have x2:=x1.below hb2 x1.lt;have bw2:=q1.trans (hb2.mono q1.size);rcases Nat.lt_or_ge r i with hrl | hrg
  ·have hr1:((r:Int) < (i:Int))=True:=by simp;omega
   have hrn:r < p:=by omega
   have hrn2:((r:Int) < (p:Int)):=by omega
   obtain ⟨a,ha,d0,_⟩:=(H.out.joints.jt bw2).rowAt hrn;have cL2:=xL2.cell 2;have z0:=x2.cell 0;have htl:=aW j9.name;by_cases heq:a.name=j9.name
   ·have h6:x=6:=by
     rw [← HX.out];unfold aA;rw [HV.out,if_neg (by decide),if_pos (cX ha hrl heq)]
    rw [heq] at d0;have hee:(j9.name == j9.name)=true:=by simp
    clear heq ha;go_wp2_with fail;go_quiet (fail);go_wp2;go_ret;exact ⟨by rw [h6];rfl,aa bw2 _⟩
   have hta:=aW a.name;have HT2:=Qh (cA ha HT.out heq);have hee:(a.name == j9.name)=false:=beq_eq_false_iff_ne.2 heq;clear heq ha HT;go_wp2_with fail;go_quiet (fail);go_wp2_with fail;go_roundw
   case rel=>exact ⟨r+1,by go_num,by omega,HT2,aa hb2 _⟩
   case measure=>simp [intOf];omega
  have hr1:((r:Int) < (i:Int))=False:=by simp;omega
  obtain rfl:r=i:=by omega
  have hxE:aJ L j9=x:=by
   rw [← HX.out];unfold aA;rw [HV.out,if_neg (by decide),HT.out,if_neg (by decide)]
  have HE:=Qh hxE;clear hxE;by_cases hkk:j9.kind≠0∧j9.kind≠1
  ·have e0:(j9.kind == 0)=false:=beq_eq_false_iff_ne.2 hkk.1
   have e1:(j9.kind == 1)=false:=beq_eq_false_iff_ne.2 hkk.2;have e2:(j9.kind != 0)=true:=bne_iff_ne.2 hkk.1;have e3:(j9.kind != 1)=true:=bne_iff_ne.2 hkk.2;have h7:x=7:=by rw [← HE.out];exact if_pos hkk
   have z1:=x2.cell 1;clear hkk;go_wp2;go_ret;exact ⟨by rw [h7];rfl,bw2⟩
  have HKK:=Qh hkk;by_cases hk0:j9.kind=0
  ·have e0:(j9.kind == 0)=true:=beq_iff_eq.2 hk0
   have e2:(j9.kind != 0)=false:=by rw [hk0];rfl
   have HK0:=Qh hk0;clear hk0 hkk;have z1:=x2.cell 1;have z2:=x2.cell 2;have cL1:=xL2.cell 1;obtain ⟨v1,hv1⟩:∃ v,inI j9.a n=v:=⟨_,rfl⟩;obtain ⟨v2,hv2⟩:∃ v,inI j9.b n=v:=⟨_,rfl⟩;have HV1:=Qh hv1;have HV2:=Qh hv2;clear hv1 hv2;go_wp2_with fail;(with_reducible refine (iy _ j9.a n v1 HV1.out).mono ?_);rintro e' w3 ⟨rfl,hb3⟩;have bw3:=bw2.trans (hb3.mono bw2.size);have xL3:=xL2.below hb3 xL2.lt;have x3:=x2.below hb3 x2.lt;clear z1 z2 cL1 hb3;cases v1
   ·have h9:x=9:=by rw [← HE.out];unfold aJ;rw [if_neg HKK.out,HL.out,if_pos HV1.out]
    go_wp2;go_ret;exact ⟨by rw [h9];rfl,bw3⟩
   have z4:=x3.cell 4;have cL1:=xL3.cell 1;go_wp2_with fail;(with_reducible refine (iy _ j9.b n v2 HV2.out).mono ?_);rintro e' w4 ⟨rfl,hb4⟩;have bw4:=bw3.trans (hb4.mono bw3.size);have xL4:=xL3.below hb4 xL3.lt;have x4:=x3.below hb4 x3.lt;clear z4 cL1 hb4;cases v2
   ·have h9:x=9:=by rw [← HE.out];unfold aJ;rw [if_neg HKK.out,HL.out,if_neg (by rw [HV1.out];decide),if_pos HV2.out]
    go_wp2;go_ret;exact ⟨by rw [h9];rfl,bw4⟩
   obtain ⟨an,han,hal⟩:=fK HV1.out;obtain ⟨bn,hbn,hbl⟩:=fK HV2.out;have HA:=Qh han;have HBN:=Qh hbn;have cL1:=xL4.cell 1;have z2:=x4.cell 2;have z4:=x4.cell 4;rw [han] at z2;rw [hbn] at z4;clear han hbn;by_cases hab:an=bn
   ·have h13:x=13:=by
     rw [← HE.out];unfold aJ;rw [if_neg HKK.out,HL.out,if_neg (by rw [HV1.out];decide),if_neg (by rw [HV2.out];decide),if_pos (by rw [HA.out,HBN.out,hab])]
    subst hab;go_wp2;go_ret;exact ⟨by rw [h13];rfl,bw4⟩
   have eab:((an:Int) == (bn:Int))=false:=beq_eq_false_iff_ne.2 (by omega);obtain ⟨g2,o2,bb,e1',hg2,hnc,hbb,hBb⟩:=(H.out.bodies.bd bw4).at_ hbl;subst e1';obtain ⟨ab,hab',hAb⟩:=(H.out.bodies.bd bw4).rowAt hal;obtain ⟨Ab,nb,cb,k0,k1,hMb,_⟩:=hBb;obtain ⟨Aa,na,ca,l0,l1,hMa,_⟩:=hAb;have hpa:bJ L j9.a=ab.pts:=by unfold bJ;rw [HA.out];show (match L.bodies[an]? with | some b=>b.pts | none=>[])=_;rw [hab']
   have hpb:bJ L j9.b=bb.pts:=by unfold bJ;rw [HBN.out];show (match L.bodies[bn]? with | some b=>b.pts | none=>[])=_;rw [hbb]
   have HLA:=Qh hMa.1;have HLB:=Qh hMb.1;have hbn2:((bn:Nat):Int) < ((n:Nat):Int):=by omega
   have han2:((an:Nat):Int) < ((n:Nat):Int):=by omega
   obtain ⟨v3,hv3⟩:∃ v,inI j9.point na=v:=⟨_,rfl⟩;obtain ⟨v4,hv4⟩:∃ v,inI j9.on nb=v:=⟨_,rfl⟩;have HV3:=Qh hv3;have HV4:=Qh hv4;have HMB:=Qh hMb;have HPA:=Qh hpa;have HPB:=Qh hpb;have HAB:=Qh (show ¬ j9.a=j9.b by rw [HA.out,HBN.out];omega);have z3:=x4.cell 3;clear hv3 hv4 hMb hMa hpa hpb hbb hab' hab;go_wp2_with fail;go_quiet (fail);go_wp2_with fail;(with_reducible refine (iy _ j9.point na v3 HV3.out).mono ?_);rintro e' w5 ⟨rfl,hb5⟩;have q45:Below w4.heap.size w4 w5:=af (aa (ae w4) _) hb5;have bw5:=bw4.trans (q45.mono bw4.size);have x5:=x4.below q45 x4.lt;clear z2 z3 z4 cL1 k0 k1 l0 l1 hb5;cases v3
   ·have h9:x=9:=by
     rw [← HE.out];unfold aJ;rw [if_neg HKK.out,HL.out,if_neg (by rw [HV1.out];decide),if_neg (by rw [HV2.out];decide),if_neg HAB.out,HPA.out,HLA.out,if_pos HV3.out]
    go_wp2;go_ret;exact ⟨by rw [h9];rfl,bw5⟩
   have z5:=x5.cell 5;go_wp2_with fail;(with_reducible refine (iy _ j9.on nb v4 HV4.out).mono ?_);rintro e' w6 ⟨rfl,hb6⟩;have q46:=q45.trans (hb6.mono q45.size);have bw6:=bw5.trans (hb6.mono bw5.size);have x6:=x5.below hb6 x5.lt;clear z5 hb6;cases v4
   ·have h9:x=9:=by
     rw [← HE.out];unfold aJ;rw [if_neg HKK.out,HL.out,if_neg (by rw [HV1.out];decide),if_neg (by rw [HV2.out];decide),if_neg HAB.out,HPA.out,HLA.out,if_neg (by rw [HV3.out];decide),HPB.out,HLB.out,if_pos HV4.out]
    go_wp2;go_ret;exact ⟨by rw [h9];rfl,bw6⟩
   have hX2:x=(if j9.kind=0 then (if j9.to_=0 then 0 else 2) else if inI j9.to_ nb=false then 9 else if cH bb.pts j9.on j9.to_=true then 8 else 0):=by
    rw [← HE.out];unfold aJ;rw [if_neg HKK.out,HL.out,if_neg (by rw [HV1.out];decide),if_neg (by rw [HV2.out];decide),if_neg HAB.out,HPA.out,HLA.out,if_neg (by rw [HV3.out];decide),HPB.out,HLB.out,if_neg (by rw [HV4.out];decide)]
   have HX2:=Qh hX2;clear hX2;have z1:=x6.cell 1;have z6:=x6.cell 6;by_cases hto:j9.to_=0
   ·have hx:x=0:=by rw [HX2.out,if_pos HK0.out,if_pos hto]
    have t0:(j9.to_ == 0)=true:=beq_iff_eq.2 hto;have t1:(j9.to_ != 0)=false:=by rw [hto];rfl
    clear hto;go_wp2;go_ret;exact ⟨by rw [hx];rfl,bw6⟩
   have hx:x=2:=by rw [HX2.out,if_pos HK0.out,if_neg hto]
   have t0:(j9.to_ == 0)=false:=beq_eq_false_iff_ne.2 hto;have t1:(j9.to_ != 0)=true:=bne_iff_ne.2 hto;clear hto;go_wp2;go_ret;exact ⟨by rw [hx];rfl,bw6⟩
  have e0:(j9.kind == 0)=false:=beq_eq_false_iff_ne.2 hk0;have e2:(j9.kind != 0)=true:=bne_iff_ne.2 hk0;have hk2:j9.kind=1:=by omega
  have e1:(j9.kind == 1)=true:=beq_iff_eq.2 hk2;have e3:(j9.kind != 1)=false:=by rw [hk2];rfl
  have HK0:=Qh hk0;clear hk0 hkk hk2;have z1:=x2.cell 1;have z2:=x2.cell 2;have cL1:=xL2.cell 1;obtain ⟨v1,hv1⟩:∃ v,inI j9.a n=v:=⟨_,rfl⟩;obtain ⟨v2,hv2⟩:∃ v,inI j9.b n=v:=⟨_,rfl⟩;have HV1:=Qh hv1;have HV2:=Qh hv2;clear hv1 hv2;go_wp2_with fail;(with_reducible refine (iy _ j9.a n v1 HV1.out).mono ?_);rintro e' w3 ⟨rfl,hb3⟩;have bw3:=bw2.trans (hb3.mono bw2.size);have xL3:=xL2.below hb3 xL2.lt;have x3:=x2.below hb3 x2.lt;clear z1 z2 cL1 hb3;cases v1
  ·have h9:x=9:=by rw [← HE.out];unfold aJ;rw [if_neg HKK.out,HL.out,if_pos HV1.out]
   go_wp2;go_ret;exact ⟨by rw [h9];rfl,bw3⟩
  have z4:=x3.cell 4;have cL1:=xL3.cell 1;go_wp2_with fail;(with_reducible refine (iy _ j9.b n v2 HV2.out).mono ?_);rintro e' w4 ⟨rfl,hb4⟩;have bw4:=bw3.trans (hb4.mono bw3.size);have xL4:=xL3.below hb4 xL3.lt;have x4:=x3.below hb4 x3.lt;clear z4 cL1 hb4;cases v2
  ·have h9:x=9:=by rw [← HE.out];unfold aJ;rw [if_neg HKK.out,HL.out,if_neg (by rw [HV1.out];decide),if_pos HV2.out]
   go_wp2;go_ret;exact ⟨by rw [h9];rfl,bw4⟩
  obtain ⟨an,han,hal⟩:=fK HV1.out;obtain ⟨bn,hbn,hbl⟩:=fK HV2.out;have HA:=Qh han;have HBN:=Qh hbn;have cL1:=xL4.cell 1;have z2:=x4.cell 2;have z4:=x4.cell 4;rw [han] at z2;rw [hbn] at z4;clear han hbn;by_cases hab:an=bn
  ·have h13:x=13:=by
    rw [← HE.out];unfold aJ;rw [if_neg HKK.out,HL.out,if_neg (by rw [HV1.out];decide),if_neg (by rw [HV2.out];decide),if_pos (by rw [HA.out,HBN.out,hab])]
   subst hab;go_wp2;go_ret;exact ⟨by rw [h13];rfl,bw4⟩
  have eab:((an:Int) == (bn:Int))=false:=beq_eq_false_iff_ne.2 (by omega);obtain ⟨g2,o2,bb,e1',hg2,hnc,hbb,hBb⟩:=(H.out.bodies.bd bw4).at_ hbl;subst e1';obtain ⟨ab,hab',hAb⟩:=(H.out.bodies.bd bw4).rowAt hal;obtain ⟨Ab,nb,cb,k0,k1,hMb,_⟩:=hBb;obtain ⟨Aa,na,ca,l0,l1,hMa,_⟩:=hAb;have hpa:bJ L j9.a=ab.pts:=by unfold bJ;rw [HA.out];show (match L.bodies[an]? with | some b=>b.pts | none=>[])=_;rw [hab']
  have hpb:bJ L j9.b=bb.pts:=by unfold bJ;rw [HBN.out];show (match L.bodies[bn]? with | some b=>b.pts | none=>[])=_;rw [hbb]
  have HLA:=Qh hMa.1;have HLB:=Qh hMb.1;have hbn2:((bn:Nat):Int) < ((n:Nat):Int):=by omega
  have han2:((an:Nat):Int) < ((n:Nat):Int):=by omega
  obtain ⟨v3,hv3⟩:∃ v,inI j9.point na=v:=⟨_,rfl⟩;obtain ⟨v4,hv4⟩:∃ v,inI j9.on nb=v:=⟨_,rfl⟩;have HV3:=Qh hv3;have HV4:=Qh hv4;have HMB:=Qh hMb;have HPA:=Qh hpa;have HPB:=Qh hpb;have HAB:=Qh (show ¬ j9.a=j9.b by rw [HA.out,HBN.out];omega);have z3:=x4.cell 3;clear hv3 hv4 hMb hMa hpa hpb hbb hab' hab;go_wp2_with fail;go_quiet (fail);go_wp2_with fail;(with_reducible refine (iy _ j9.point na v3 HV3.out).mono ?_);rintro e' w5 ⟨rfl,hb5⟩;have q45:Below w4.heap.size w4 w5:=af (aa (ae w4) _) hb5;have bw5:=bw4.trans (q45.mono bw4.size);have x5:=x4.below q45 x4.lt;clear z2 z3 z4 cL1 k0 k1 l0 l1 hb5;cases v3
  ·have h9:x=9:=by
    rw [← HE.out];unfold aJ;rw [if_neg HKK.out,HL.out,if_neg (by rw [HV1.out];decide),if_neg (by rw [HV2.out];decide),if_neg HAB.out,HPA.out,HLA.out,if_pos HV3.out]
   go_wp2;go_ret;exact ⟨by rw [h9];rfl,bw5⟩
  have z5:=x5.cell 5;go_wp2_with fail;(with_reducible refine (iy _ j9.on nb v4 HV4.out).mono ?_);rintro e' w6 ⟨rfl,hb6⟩;have q46:=q45.trans (hb6.mono q45.size);have bw6:=bw5.trans (hb6.mono bw5.size);have x6:=x5.below hb6 x5.lt;clear z5 hb6;cases v4
  ·have h9:x=9:=by
    rw [← HE.out];unfold aJ;rw [if_neg HKK.out,HL.out,if_neg (by rw [HV1.out];decide),if_neg (by rw [HV2.out];decide),if_neg HAB.out,HPA.out,HLA.out,if_neg (by rw [HV3.out];decide),HPB.out,HLB.out,if_pos HV4.out]
   go_wp2;go_ret;exact ⟨by rw [h9];rfl,bw6⟩
  have hX2:x=(if j9.kind=0 then (if j9.to_=0 then 0 else 2) else if inI j9.to_ nb=false then 9 else if cH bb.pts j9.on j9.to_=true then 8 else 0):=by
   rw [← HE.out];unfold aJ;rw [if_neg HKK.out,HL.out,if_neg (by rw [HV1.out];decide),if_neg (by rw [HV2.out];decide),if_neg HAB.out,HPA.out,HLA.out,if_neg (by rw [HV3.out];decide),HPB.out,HLB.out,if_neg (by rw [HV4.out];decide)]
  have HX2:=Qh hX2;clear hX2;have z1:=x6.cell 1;have z6:=x6.cell 6;obtain ⟨v5,hv5⟩:∃ v,inI j9.to_ nb=v:=⟨_,rfl⟩;have HV5:=Qh hv5;clear hv5;go_wp2_with fail;(with_reducible refine (iy _ j9.to_ nb v5 HV5.out).mono ?_);rintro e' w7 ⟨rfl,hb7⟩;have q47:=q46.trans (hb7.mono q46.size);have bw7:=bw6.trans (hb7.mono bw6.size);have x7:=x6.below hb7 x6.lt;clear z1 z6 hb7;cases v5
  ·have hx:x=9:=by rw [HX2.out,if_neg HK0.out,if_pos HV5.out]
   go_wp2;go_ret;exact ⟨by rw [hx];rfl,bw7⟩
  obtain ⟨on,hon,honl⟩:=fK HV4.out;obtain ⟨tn,htn,htnl⟩:=fK HV5.out;have z5:w7.cell? ⟨w.heap.size+1,5,none⟩=some (.int .i64 (on:Nat)):=by have:=x7.cell 5;rw [hon] at this;exact this
  have z6:w7.cell? ⟨w.heap.size+1,6,none⟩=some (.int .i64 (tn:Nat)):=by have:=x7.cell 6;rw [htn] at this;exact this
  have hlx:w.heap.size+1 < w7.heap.size:=x7.lt;obtain ⟨g3,o3,m,e2',hg3,hnc3,hm,hM⟩:=(HMB.out.mk_ q47).at_ honl;subst e2';obtain ⟨m',hm',hM'⟩:=(HMB.out.mk_ q47).rowAt htnl;obtain ⟨d0,⟨b1,A1,n1,c1,D1,m1,f1,d1,d2,d3,hQ1⟩,⟨b2,A2,n2,c2,D2,m2,f2,d4,d5,d6,hQ2⟩,_⟩:=hM;obtain ⟨y0,⟨b3,A3,n3,c3,D3,m3,f3,y1,y2,y3,hQ3⟩,⟨b4,A4,n4,c4,D4,m4,f4,y4,y5,y6,hQ4⟩,_⟩:=hM';have d2:w7.cell? ⟨g3,o3+on * 7+2,none⟩=some (.slice A1 n1 c1):=d2;have d3:w7.cell? ⟨g3,o3+on * 7+3,none⟩=some (.slice D1 m1 f1):=d3;have d5:w7.cell? ⟨g3,o3+on * 7+5,none⟩=some (.slice A2 n2 c2):=d5;have d6:w7.cell? ⟨g3,o3+on * 7+6,none⟩=some (.slice D2 m2 f2):=d6;have y2:w7.cell? ⟨g3,o3+tn * 7+2,none⟩=some (.slice A3 n3 c3):=y2;have y3:w7.cell? ⟨g3,o3+tn * 7+3,none⟩=some (.slice D3 m3 f3):=y3;have y5:w7.cell? ⟨g3,o3+tn * 7+5,none⟩=some (.slice A4 n4 c4):=y5;have y6:w7.cell? ⟨g3,o3+tn * 7+6,none⟩=some (.slice D4 m4 f4):=y6
  have hpe:cH bb.pts j9.on j9.to_=(decide (m.x.q=m'.x.q) && decide (m.y.q=m'.y.q)):=by
   unfold cH;rw [hon,htn];show (match bb.pts[on]?,bb.pts[tn]? with | some p,some q=>decide (p.x.q=q.x.q) && decide (p.y.q=q.y.q) | _,_=>false)=_;rw [hm,hm']
  have HPE:=Qh hpe;have HQ1:=Qh hQ1;have HQ2:=Qh hQ2;have HQ3:=Qh hQ3;have HQ4:=Qh hQ4;have hon2:((on:Nat):Int) < ((nb:Nat):Int):=by omega
  have htn2:((tn:Nat):Int) < ((nb:Nat):Int):=by omega
  obtain ⟨vs,hvs⟩:∃ v,(decide (m.x.q=m'.x.q) && decide (m.y.q=m'.y.q))=v:=⟨_,rfl⟩;have HVS:=Qh hvs;have hx8:x=if vs=true then 8 else 0:=by rw [HX2.out,if_neg HK0.out,if_neg (by rw [HV5.out];decide),HPE.out,hvs]
  have HX8:=Qh hx8;clear hpe hQ1 hQ2 hQ3 hQ4 hm hm' hon htn hvs hx8;go_wp2_with fail
  go_region_held3 (fun w'=>Sees w7.heap.size w7 w') (first | with_reducible exact Sees.of Qr (by assumption) | with_reducible exact Sees.of Qr (ae _).drew | exact Sees.of Qr (aa (ae _) 1) | exact Sees.of Qr (aa (by assumption) _))
   (first
    | (go_at_call 95;(with_reducible refine (tB _ k hk hk1 m.name m'.name b1 A1 n1 c1 D1 m1 f1 m.x ?_ b2 A2 n2 c2 D2 m2 f2 m.y ?_ b3 A3 n3 c3 D3 m3 f3 m'.x ?_ b4 A4 n4 c4 D4 m4 f4 m'.y ?_ vs HVS.out).mono ?_);(exact HQ1.out);(exact HQ2.out);(exact HQ3.out);(exact HQ4.out);rintro e' w8 ⟨rfl,hb8⟩;replace hb8:=af (aa (ae _) 1) hb8;have q8:Below w7.heap.size w7 w8:=af (ae w7) hb8))
  have bw8:=bw7.trans (q8.mono bw7.size);cases vs
  ·have hx:x=0:=HX8.out
   go_wp2;go_ret;exact ⟨by first | rfl | (rw [hx];rfl),bw8⟩
  have hx:x=8:=HX8.out;go_wp2;go_ret;exact ⟨by first | rfl | (rw [hx];rfl),bw8⟩
theorem rV (w:World) (A:Option Addr) (n c:Nat) (B:Option Addr) (p d:Nat) (C:Option Addr) (q e:Nat) (L:au) (k:Nat) (h:LkS k w A n c B p d C q e L) (hk:k≤10000000) (hk1:0 < k) (x:Int) (hx:cB L=x) :
 Calls Tryz.prog 19 #[.agg #[ag L.name,.slice A n c,.slice B p d,.slice C q e]] w (aw w (.int .i64 x)):=by
 have hln:=h.bodies.1;obtain ⟨v,hv⟩:∃ v,aQ L.name=v:=⟨_,rfl⟩;have HV:=Qh hv;have HX:=Qh hx;have HL:=Qh hln;have HLJ:=Qh h.joints.1;have HLD:=Qh h.drivers.1;have H:=Qh h;clear hv hx hln h;go_in;go_wp2_with fail;(with_reducible refine (gS _ L.name H.out.name v HV.out).mono ?_);rintro e' w1 ⟨rfl,hb1⟩;have q1:=hb1.q1;have x1:Blk w1 w.heap.size 36 #[ag L.name,.slice A n c,.slice B p d,.slice C q e]:=(ai _ _ _ (by simp)).below hb1 (by simp);clear hb1;cases v
 ·have h5:x=5:=by rw [← HX.out];unfold cB;rw [if_pos HV.out]
  go_wp2;go_ret;exact ⟨by rw [h5];rfl,q1⟩
 have hX1:x=if n=0 then 10 else if 8 < n then 4 else if aN aD [] L.bodies≠0 then aN aD [] L.bodies
  else if 16 < p then 4 else if aN (aA L) [] L.joints≠0 then aN (aA L) [] L.joints
  else if 2 < q then 4 else aN (ap n) [] L.drivers:=by
  rw [← HX.out];unfold cB;rw [if_neg (by rw [HV.out];decide),HL.out,HLJ.out,HLD.out]
 obtain ⟨y1,hy1⟩:∃ y,aN aD [] L.bodies=y:=⟨_,rfl⟩;obtain ⟨y2,hy2⟩:∃ y,aN (aA L) [] L.joints=y:=⟨_,rfl⟩;obtain ⟨y3,hy3⟩:∃ y,aN (ap n) [] L.drivers=y:=⟨_,rfl⟩;rw [hy1,hy2,hy3] at hX1;have HX2:=Qh hX1;have HY1:=Qh hy1;have HY2:=Qh (bG hy2);have HY3:=Qh (bG hy3);clear hX1 hy1 hy2 hy3;have cx1:=x1.cell 1;by_cases h0:n=0
 ·have e0:((n:Int) == 0)=true:=beq_iff_eq.2 (by omega)
  have e00:((n:Int)=0)=True:=eq_true (by omega);have h10:x=10:=by rw [HX2.out,if_pos h0]
  clear h0;go_wp2;go_ret;exact ⟨by rw [h10];rfl,q1⟩
 have e0:((n:Int) == 0)=false:=beq_eq_false_iff_ne.2 (by omega);have e00:((n:Int)=0)=False:=eq_false (by omega);by_cases h8:8 < n
 ·have e8:((8:Int) < (n:Int))=True:=eq_true (by omega)
  have h4:x=4:=by rw [HX2.out,if_neg h0,if_pos h8]
  go_wp2;go_ret;exact ⟨by rw [h4];rfl,q1⟩
 have e8:((8:Int) < (n:Int))=False:=eq_false (by omega);have hX3:=HX2.out;rw [if_neg h0,if_neg h8] at hX3;have HX3:=Qh hX3;have hn8:n≤8:=by omega
 have cx0:=x1.cell 0;have cx2:=x1.cell 2;have cx3:=x1.cell 3;clear hX3 h0 h8;go_wp2_with fail;(with_reducible refine (qw _ A n c B p d C q e L k (H.out.belw q1) hk hn8 y1 HY1.out).mono ?_);rintro e' w2 ⟨rfl,hb2⟩;have q2:=q1.trans (hb2.mono q1.size);have x2:=x1.below hb2 x1.lt;clear cx0 cx1 cx2 cx3;by_cases h1:y1=0
 case neg =>
  have hxy:x=y1:=by rw [HX3.out,if_pos h1]
  have f0:(y1 == 0)=false:=beq_eq_false_iff_ne.2 h1;have f1:(y1 != 0)=true:=bne_iff_ne.2 h1;clear h1;go_wp2;go_ret;exact ⟨by rw [hxy];rfl,q2⟩
 have hX4:=HX3.out;rw [if_neg (by simp [h1])] at hX4;have HX4:=Qh hX4;have f0:(y1 == 0)=true:=beq_iff_eq.2 h1;have f1:(y1 != 0)=false:=by rw [h1];rfl
 have cx2:=x2.cell 2;clear hX4 h1;by_cases h16:16 < p
 ·have e16:((16:Int) < (p:Int))=True:=eq_true (by omega)
  have h4:x=4:=by rw [HX4.out,if_pos h16]
  go_wp2;go_ret;exact ⟨by rw [h4];rfl,q2⟩
 have e16:((16:Int) < (p:Int))=False:=eq_false (by omega);have hp16:p≤16:=by omega
 have hX5:=HX4.out;rw [if_neg h16] at hX5;have HX5:=Qh hX5;clear hX5 h16;go_wp2_with fail;clear cx2;go_loopw [4] (fun iv wr=>∃ i:Nat,iv=.int .i64 (i:Nat)∧i≤p∧Hid (aN (aA L) (L.joints.take i) (L.joints.drop i)=y2)∧Below w2.heap.size w2 wr) (fun iv _=>p - (intOf iv).toNat)
 case atStart=>exact ⟨0,rfl,Nat.zero_le _,HY2,ae w2⟩
 case round =>
  clear HY2;obtain ⟨i,rfl,hi,HP,hb3⟩:=hrel;rename World=>w3;have x3:=x2.below hb3 x2.lt;have q3:=q2.trans (hb3.mono q2.size);have cx0:=x3.cell 0;have cx1:=x3.cell 1;have cx2:=x3.cell 2;have cx3:=x3.cell 3;rcases Nat.lt_or_ge i p with hlt | hge
  ·have hi1:((i:Int) < (p:Int))=True:=by simp;omega
   obtain ⟨j,hj⟩:∃ j,L.joints[i]?=some j:=⟨_,List.getElem?_eq_getElem (by rw [HLJ.out];exact hlt)⟩;have hst:=bP HP.out hj;obtain ⟨z,hz⟩:∃ z,aA L (L.joints.take i) j=z:=⟨_,rfl⟩;rw [hz] at hst;have HZ:=Qh hz;have HST:=Qh hst;have HJ:=Qh hj;clear hj hst hz HP;go_wp2_with fail;(with_reducible refine (rU _ A n c B p d C q e L k (H.out.belw q3) hk hk1 hn8 hp16 i hlt j HJ.out z HZ.out).mono ?_);rintro e' w4 ⟨rfl,hb4⟩;have q4:=q3.trans (hb4.mono q3.size);clear cx0 cx1 cx2 cx3;by_cases hz0:z=0
   ·have HP2:Hid (aN (aA L) (L.joints.take (i+1)) (L.joints.drop (i+1))=y2):=Qh (by
     rcases HST.out with ⟨_,u⟩ | ⟨u,_⟩
     ·exact u
     exact absurd hz0 u)
    have g0:(z == 0)=true:=beq_iff_eq.2 hz0;have g1:(z != 0)=false:=by rw [hz0];rfl
    clear hz0;go_wp2_with fail;go_roundw
    case rel=>exact ⟨i+1,by go_num,by omega,HP2,hb3.trans (hb4.mono hb3.size)⟩
    case measure=>simp [intOf];omega
   ·have hxz:x=z:=by
     rcases HST.out with ⟨u,_⟩ | ⟨_,u⟩
     ·exact absurd u hz0
     rw [HX5.out,← u,if_pos hz0]
    have g0:(z == 0)=false:=beq_eq_false_iff_ne.2 hz0;have g1:(z != 0)=true:=bne_iff_ne.2 hz0;clear hz0;go_wp2;go_ret;exact ⟨by rw [hxz];rfl,q4⟩
  have hi1:((i:Int) < (p:Int))=False:=by simp;omega
  have hy0:y2=0:=cw HP.out (by rw [HLJ.out];exact hge);have hX6:=HX5.out;rw [if_neg (by simp [hy0])] at hX6;have HX6:=Qh hX6;clear hX6 hy0 HX5;by_cases h2:2 < q
  ·have e2:((2:Int) < (q:Int))=True:=eq_true (by omega)
   have h4:x=4:=by rw [HX6.out,if_pos h2]
   go_wp2;go_ret;exact ⟨by rw [h4];rfl,q3⟩
  have e2:((2:Int) < (q:Int))=False:=eq_false (by omega);have hq2:q≤2:=by omega
  have hX7:x=y3:=by rw [HX6.out,if_neg h2]
  subst hX7;clear h2;go_wp2_with fail;clear cx0 cx1 cx2 cx3;go_loopw [6] (fun iv wr=>∃ i:Nat,iv=.int .i64 (i:Nat)∧i≤q∧Hid (aN (ap n) (L.drivers.take i) (L.drivers.drop i)=x)∧Below w3.heap.size w3 wr) (fun iv _=>q - (intOf iv).toNat)
  case atStart=>exact ⟨0,rfl,Nat.zero_le _,HY3,ae w3⟩
  case round =>
   clear HY3;obtain ⟨s,rfl,hs,HP3,hb5⟩:=hrel;rename World=>w5;have x5:=x3.below hb5 x3.lt;have q5:=q3.trans (hb5.mono q3.size);have cx0:=x5.cell 0;have cx1:=x5.cell 1;have cx2:=x5.cell 2;have cx3:=x5.cell 3;rcases Nat.lt_or_ge s q with hlt | hgs
   ·have hs1:((s:Int) < (q:Int))=True:=by simp;omega
    obtain ⟨b,hb⟩:∃ b,L.drivers[s]?=some b:=⟨_,List.getElem?_eq_getElem (by rw [HLD.out];exact hlt)⟩;have hst:=bP HP3.out hb;obtain ⟨z,hz⟩:∃ z,ap n (L.drivers.take s) b=z:=⟨_,rfl⟩;rw [hz] at hst;have HZ:=Qh hz;have HST:=Qh hst;have HB:=Qh hb;clear hb hst hz HP3;go_wp2_with fail;(with_reducible refine (qx _ A n c B p d C q e L k (H.out.belw q5) hk hn8 hq2 s hlt b HB.out z HZ.out).mono ?_);rintro e' w6 ⟨rfl,hb6⟩;have q6:=q5.trans (hb6.mono q5.size);clear cx0 cx1 cx2 cx3;by_cases hz0:z=0
    ·have HP2:Hid (aN (ap n) (L.drivers.take (s+1)) (L.drivers.drop (s+1))=x):=Qh (by
      rcases HST.out with ⟨_,u⟩ | ⟨u,_⟩
      ·exact u
      exact absurd hz0 u)
     have g0:(z == 0)=true:=beq_iff_eq.2 hz0;have g1:(z != 0)=false:=by rw [hz0];rfl
     clear hz0;go_wp2_with fail;go_roundw
     case rel=>exact ⟨s+1,by go_num,by omega,HP2,hb5.trans (hb6.mono hb5.size)⟩
     case measure=>simp [intOf];omega
    ·have hxz:x=z:=by
      rcases HST.out with ⟨u,_⟩ | ⟨_,u⟩
      ·exact absurd u hz0
      exact u.symm
     have g0:(z == 0)=false:=beq_eq_false_iff_ne.2 hz0;have g1:(z != 0)=true:=bne_iff_ne.2 hz0;clear hz0;go_wp2;go_ret;exact ⟨by rw [hxz];rfl,q6⟩
   have hs1:((s:Int) < (q:Int))=False:=by simp;omega
   have hx0:x=0:=cw HP3.out (by rw [HLD.out];exact hgs);go_wp2;go_ret;exact ⟨by rw [hx0];rfl,q5⟩
theorem wrap_i64 {u:Int}(h1:-9223372036854775808≤u) (h2:u≤9223372036854775807):IntKind.i64.wrap u=u:=by rw [IntKind.wrap_i64];omega
theorem mD {n:Nat}(h:n≤reachBytes):n≤140737488355328:=by unfold reachBytes at h;omega
theorem du.words {k:Nat}{w:World}{g o:Nat}{r:RD}(h:du w g o r k):RdW r:=by
 obtain ⟨b,A,n,c,D,m,e,_,_,_,hQ⟩:=h;exact ⟨hQ.2.1.1,hQ.2.2.1.1⟩
theorem SlS.markW {k:Nat}{w:World}{A:Option Addr}{n c:Nat}{l:List aR}(h:SlS (dB k) 7 w A n c l):∀ m∈l,MkW m:=by
 intro m hm;obtain ⟨i,hi,e⟩:=List.getElem_of_mem hm;obtain ⟨g,o,a,_,_,_,ha,hp⟩:=h.at_ (i:=i) (by rw [← h.1];exact hi);rw [List.getElem?_eq_getElem hi] at ha;injection ha with ha;rw [← ha,e] at hp;exact ⟨hp.2.1.words,hp.2.2.1.words⟩
theorem LkS.words {k:Nat}{w:World}{A B C:Option Addr}{n c p d q e:Nat}{L:au}(h:LkS k w A n c B p d C q e L):LkW L:=by
 intro b hb;obtain ⟨i,hi,e1⟩:=List.getElem_of_mem hb;obtain ⟨g,o,a,_,_,_,ha,hp⟩:=h.bodies.at_ (i:=i) (by rw [← h.bodies.1];exact hi);rw [List.getElem?_eq_getElem hi] at ha;injection ha with ha;rw [← ha,e1] at hp;obtain ⟨A',n',c',_,_,hM,_⟩:=hp;exact hM.markW
theorem du.small {K k:Nat}{w:World}{g o:Nat}{r:RD}(h:du w g o r K) (h1:r.num.length≤k) (h2:r.den.length≤k):du w g o r k:=by
 obtain ⟨b,A,n,c,D,m,e,c1,c2,c3,hQ⟩:=h;refine ⟨b,A,n,c,D,m,e,c1,c2,c3,hQ.1,hQ.2.1,hQ.2.2.1,?_,?_⟩
 ·rw [hQ.2.1.2.1];exact h1
 rw [hQ.2.2.1.2.1];exact h2
theorem SlS.mono_ {α:Type}{P P':World→Nat→Nat→α→Prop}{s:Nat}{w:World}{A:Option Addr}{n c:Nat}{l:List α}(h:SlS P s w A n c l) (hP:∀ g o a,a∈l→P w g o a→P' w g o a):SlS P' s w A n c l:=by
 refine ⟨h.1,h.2.1,fun hn=>?_⟩;obtain ⟨g,o,e,hg,h3⟩:=h.2.2 hn;exact ⟨g,o,e,hg,fun i a ha=>hP _ _ _ (List.mem_of_getElem? ha) (h3 i a ha)⟩
section
variable {P:Program}{ops:Array Oper}{Q:Exit→Act→World→Prop}{fr:(Nat→Value)→Act}{R:Nat→Value→World→Prop}{id:Nat}{w:World}{x0:Nat→Value}
end
def Grw (p:Value→World→Prop):Prop:=∀ v w w',p v w→Below w.heap.size w w'→p v w'
def l7:List (Value→World→Prop)→Prop
  | []=>True
  | p :: l=>Grw p∧l7 l
theorem l7.get:∀ (l:List (Value→World→Prop)),l7 l→∀ i v w w',l.getD i (fun _ _=>True) v w→Below w.heap.size w w'→l.getD i (fun _ _=>True) v w':=by
 intro l
 induction l with
 | nil=>intro _ i v w w' _ _;simp
 | cons p l ih =>
  intro h i v w w' hp hk
  cases i with
  | zero=>exact h.1 v w w' hp hk
  | succ i=>exact ih h.2 i v w w' hp hk
def cE (w:World) (g0:Nat):Prop:=∀ o v,w.cell? ⟨g0,o,none⟩=some v→v=ag []∨v=.slice none 0 0∨v=.bool false
def Off (g0:Nat) (w w':World):Prop:=(∀ g,g≠g0→w'.heap[g]?=w.heap[g]?)∧w'.heap.size=w.heap.size
theorem Off.refl (g0:Nat) (w:World):Off g0 w w:=⟨fun _ _=>rfl,rfl⟩
theorem Off.set {g0:Nat}{w w':World}(h:Off g0 w w') (i:Nat) (u:Value):Off g0 w (w'.setCell ⟨g0,i,none⟩ u) :=
 ⟨fun g hg=>(Below.heap_setCell w' ⟨g0,i,none⟩ u g hg).trans (h.1 g hg),by simp [World.setCell,h.2]⟩
section
variable {g0:Nat}{w w':World}
theorem cE.str {g o:Nat}{s:List UInt8}(z:cE w g0) (h:w.cell? ⟨g,o,none⟩=some (ag s)) (hs:s≠[]):g≠g0:=by
 rintro rfl;rcases z o _ h with e | e | e
 ·injection e with e
  injection e with e;injection e with e;exact hs e
 ·cases e
 cases e
theorem be {g o:Nat}(hg:g≠g0) (h:Off g0 w w'):w'.cell? ⟨g,o,none⟩=w.cell? ⟨g,o,none⟩:=by
 unfold World.cell?;rw [h.1 g hg]
theorem Wd.off {A:Option Addr}{n c:Nat}{l:List Nat}(x:Wd w A n c l) (z:cE w g0) (h:Off g0 w w'):Wd w' A n c l:=by
 refine ⟨x.1,x.2.1,x.2.2.1,fun hn=>?_⟩;obtain ⟨g,o,cur,fr,e,hr,hc⟩:=x.2.2.2 hn
 have hne:g≠g0:=by
  rintro rfl;have h0:=hc 0 hn;rw [← hr.cell] at h0;rcases z _ _ h0 with e | e | e <;> cases e
 exact ⟨g,o,cur,fr,e,hr.same (h.1 g hne),hc⟩
theorem QD.off {b:Bool}{A D:Option Addr}{n c m e k:Nat}{r:RD}(x:QD w b A n c D m e r k) (z:cE w g0) (h:Off g0 w w'):QD w' b A n c D m e r k:=⟨x.1,x.2.1.off z h,x.2.2.1.off z h,x.2.2.2⟩
theorem du.off {g o k:Nat}{r:RD}(hg:g≠g0) (x:du w g o r k) (z:cE w g0) (h:Off g0 w w'):du w' g o r k:=by
 obtain ⟨b,A,n,c,D,m,e,h1,h2,h3,h4⟩:=x;exact ⟨b,A,n,c,D,m,e,(be hg h).trans h1,(be hg h).trans h2,(be hg h).trans h3,h4.off z h⟩
theorem dB.off {g o k:Nat}{m:aR}(hm:m.name≠[]) (x:dB k w g o m) (z:cE w g0) (h:Off g0 w w'):dB k w' g o m:=by
 have hg:=z.str x.1 hm;exact ⟨(be hg h).trans x.1,x.2.1.off hg z h,x.2.2.1.off hg z h,x.2.2.2⟩
theorem SlS.off {α:Type}{P:World→Nat→Nat→α→Prop}{s:Nat}{A:Option Addr}{n c:Nat}{l:List α}(x:SlS P s w A n c l) (hP:∀ g o a,a∈l→P w g o a→P w' g o a) (h:Off g0 w w'):SlS P s w' A n c l:=by
 refine ⟨x.1,x.2.1,fun hn=>?_⟩;obtain ⟨g,o,e,hg,h3⟩:=x.2.2 hn;exact ⟨g,o,e,by rw [h.2];exact hg,fun i a ha=>hP _ _ _ (List.mem_of_getElem? ha) (h3 i a ha)⟩
theorem SlS.offM {k:Nat}{A:Option Addr}{n c:Nat}{l:List aR}(hm:∀ m∈l,m.name≠[]) (x:SlS (dB k) 7 w A n c l) (z:cE w g0) (h:Off g0 w w'):SlS (dB k) 7 w' A n c l:=x.off (fun _ _ a ha y=>y.off (hm a ha) z h) h
theorem dC.off {g o k:Nat}{b:ay}(hb:b.name≠[]) (hm:∀ m∈b.pts,m.name≠[]) (x:dC k w g o b) (z:cE w g0) (h:Off g0 w w'):dC k w' g o b:=by
 obtain ⟨A,n,c,h1,h2,h3,h4⟩:=x;have hg:=z.str h1 hb;exact ⟨A,n,c,(be hg h).trans h1,(be hg h).trans h2,h3.offM hm z h,h4⟩
theorem gU.off {g o:Nat}{j:bc}(hj:j.name≠[]) (x:gU w g o j) (z:cE w g0) (h:Off g0 w w'):gU w' g o j:=by
 have hg:=z.str x.1 hj;exact ⟨(be hg h).trans x.1,(be hg h).trans x.2.1,(be hg h).trans x.2.2.1,(be hg h).trans x.2.2.2.1,(be hg h).trans x.2.2.2.2.1,(be hg h).trans x.2.2.2.2.2.1,(be hg h).trans x.2.2.2.2.2.2.1,x.2.2.2.2.2.2.2⟩
theorem gV.off {g o:Nat}{d:bj}(hd:d.name≠[]) (x:gV w g o d) (z:cE w g0) (h:Off g0 w w'):gV w' g o d:=by
 have hg:=z.str x.1 hd;exact ⟨(be hg h).trans x.1,(be hg h).trans x.2.1,x.2.2⟩
structure ur (L:au):Prop where
  bodies:∀ b∈L.bodies,b.name≠[]∧∀ m∈b.pts,m.name≠[]
  joints:∀ j∈L.joints,j.name≠[]
  drivers:∀ d∈L.drivers,d.name≠[]
theorem LkS.off {k:Nat}{A B C:Option Addr}{n c p d q e:Nat}{L:au}(hL:ur L) (x:LkS k w A n c B p d C q e L) (z:cE w g0) (h:Off g0 w w'):LkS k w' A n c B p d C q e L :=
 ⟨x.name,x.bodies.off (fun _ _ a ha y=>y.off (hL.bodies a ha).1 (hL.bodies a ha).2 z h) h,x.joints.off (fun _ _ a ha y=>y.off (hL.joints a ha) z h) h,x.drivers.off (fun _ _ a ha y=>y.off (hL.drivers a ha) z h) h⟩
theorem Blk.zero {g t:Nat}{cs:Array Value}(x:Blk w g t cs) (h:cs.toList.all (fun v=>match v with | .string s=>s.data.isEmpty | .slice none 0 0=>true | .bool false=>true | _=>false)=true):cE w g:=by
 intro o v hv;rw [x.cell] at hv;have hm:v∈cs.toList:=by rw [Array.mem_toList_iff];exact Array.mem_of_getElem? hv
 have:=List.all_eq_true.1 h v hm;split at this
 ·rename_i s
  left;obtain ⟨d⟩:=s;have e:d=#[]:=by simpa using this
  subst e;rfl
 ·exact .inr (.inl rfl)
 ·exact .inr (.inr rfl)
 cases this
end
theorem uT (w:World) (A:Option Addr) (n c:Nat) (B:Option Addr) (p d:Nat) (C:Option Addr) (q e:Nat) (L:au) (h:LkS 40 w A n c B p d C q e L) (htab:Tab w):Calls Tryz.prog 29 #[.agg #[ag L.name,.slice A n c,.slice B p d,.slice C q e]] w (fun e' w'=>e'=.returned (.tuple #[ag (cj L),cT (bo L)])∧Below w.heap.size w w'):=by
 by_cases hc:cB L=0
 ·exact rT w A n c B p d C q e L h htab hc
 have h1:bo L=cB L:=if_pos hc;have h2:cj L=[]:=if_neg (by rw [h1];exact hc);rw [h1,h2];exact qq w A n c B p d C q e L h hc
def ig (k:Nat) (w:World) (g o:Nat) (L:au):Prop:=∃ A n c B p d C q e,w.cell? ⟨g,o,none⟩=some (ag L.name)∧w.cell? ⟨g,o+1,none⟩=some (.slice A n c)∧w.cell? ⟨g,o+2,none⟩=some (.slice B p d)∧w.cell? ⟨g,o+3,none⟩=some (.slice C q e)∧LkS k w A n c B p d C q e L
theorem ig.belw {k:Nat}{w w':World}{g o:Nat}{L:au}(h:ig k w g o L) (hb:Below w.heap.size w w'):ig k w' g o L:=by
 obtain ⟨A,n,c,B,p,d,C,q,e,h0,h1,h2,h3,h4⟩:=h;exact ⟨A,n,c,B,p,d,C,q,e,av h0 hb,av h1 hb,av h2 hb,av h3 hb,h4.belw hb⟩
theorem SlS.lk {k:Nat}{w w':World}{A:Option Addr}{n c:Nat}{l:List au}(h:SlS (ig k) 4 w A n c l) (hb:Below w.heap.size w w'):SlS (ig k) 4 w' A n c l:=h.belw (fun _ _ _ h=>h.belw hb) hb
theorem mE:∀ (Ls:List au),cC Ls=0→(Ls.flatMap pkL).length≤65600 * Ls.length
 | [],_=>by simp
 | L :: r,h=>by
  unfold cC at h;split at h
  ·rename_i h0
   have h1:=mE r h;have h2:(pkL L).length≤65600:=nN (ia h0);simp only [List.flatMap_cons,List.length_append,List.length_cons];omega
  rename_i h0;exact absurd h h0
theorem rX {Ls:List au}{i:Nat}(h:cC (Ls.take i)=0) (hi:i≤16):((Ls.take i).flatMap pkL).length≤1049600:=by
 have h1:=mE _ h;have h2:(Ls.take i).length≤i:=by rw [List.length_take];omega
 have:=Nat.mul_le_mul_left 65600 h2;omega
theorem qA (w:World) (A:Option Addr) (n c:Nat) (Ls:List au) (h:SlS (ig 40) 4 w A n c Ls) (htab:Tab w) (ht6:T64 w) (hn:n≤1000000):Calls Tryz.prog 11 #[.slice A n c] w (fun e' w'=>e'=.returned (.tuple #[ag (eI Ls),cT (cG Ls)])∧Below w.heap.size w w'):=by
 have hln:=h.1;have hnc:=h.2.1;have H:=Qh h;have HTab:=Qh htab;have HT6:=Qh ht6;clear h htab ht6;by_cases h16:16 < n
 ·have f16:((16:Int) < (n:Int))=True:=eq_true (by omega)
  have hp:=kX (Ls:=Ls) (by omega);rw [hp.1,hp.2];clear hp;go_in;go_wp2_with fail;go_ret2;exact ⟨rfl,ae w⟩
 have f16:((16:Int) < (n:Int))=False:=eq_false (by omega);obtain ⟨I,hI⟩:∃ I,Lib.itoa (n:Int)=I:=⟨_,rfl⟩;have hlI:I.length≤11:=by rw [← hI];exact ft (n:=n) (k:=0) (by omega)
 have hsI:=aq I;obtain ⟨h1,eh1⟩:∃ t,[108,105,110,107,119,111,114,107,32,49,32] ++ I=t:=⟨_,rfl⟩;have ah1:=bD ([108,105,110,107,119,111,114,107,32,49,32]) (I);rw [eh1] at ah1;have lh1:h1.length=11+I.length:=by rw [← eh1,List.length_append];try simp
 have kh1:(9223372036854775807 < 11+I.length)=False:=eq_false (by omega);have zh1:=aq h1;obtain ⟨h2,eh2⟩:∃ t,h1 ++ [10]=t:=⟨_,rfl⟩;have ah2:=bD (h1) ([10]);rw [eh2] at ah2;have lh2:h2.length=h1.length+1:=by rw [← eh2,List.length_append];try simp
 have kh2:(9223372036854775807 < h1.length+1)=False:=eq_false (by omega);have zh2:=aq h2;have hh2:cQ n=h2:=by unfold cQ;rw [hI,eh1,eh2]
 have HH:=Qh hh2;have HI:=Qh hI;have HLN:=Qh hln;have hl2:h2.length≤23:=by omega
 clear eh1 eh2 hI hh2 hln lh1 lh2 hlI;go_in;go_wp2_with fail;have B0:Bu w.heap.size w.heap.size (w.alloc (.cells #[.pointer none,.slice none 0 0] 70)) []:=Bu.new;have q0:Below w.heap.size w (w.alloc (.cells #[.pointer none,.slice none 0 0] 70)):=(ae w).alloc Qr _;generalize (w.alloc (.cells #[.pointer none,.slice none 0 0] 70))=w1 at B0 q0 ⊢;(with_reducible refine (jH w1 (n:Int) (by omega) (by omega) (HTab.out.belw q0)).mono ?_);rintro e' w2 ⟨rfl,hb2⟩;rw [HI.out];have B2:=B0.belw hb2;have q2:=q0.trans (hb2.mono q0.size);clear B0 hb2 q0;go_wp2_with fail;(with_reducible refine (bM _ _ _ _ h2 B2 (by simp only [List.length_nil];omega)).mono ?_);rintro e' w3 ⟨rfl,B3,q3,_⟩;rw [List.nil_append] at B3;have q3:=q2.trans q3;have HB3:=Qh B3;clear B2 B3 q2;go_wp2_with fail;go_loopw [21] (fun iv wr=>∃ i:Nat,iv=.int .i64 (i:Nat)∧i≤n∧Hid (cC (Ls.take i)=0)∧Hid (Bu w.heap.size w.heap.size wr (h2 ++ (Ls.take i).flatMap pkL))∧Below w.heap.size w wr) (fun iv _=>n - (intOf iv).toNat)
 case atStart=>exact ⟨0,rfl,Nat.zero_le _,Qh rfl,by simpa using HB3,q3⟩
 case round =>
  clear HB3;obtain ⟨i,rfl,hi,HE,HB,hb⟩:=hrel;rename World=>wa;rcases Nat.lt_or_ge i n with hlt | hge
  ·have hi1:((i:Int) < (n:Int))=True:=by simp;omega
   obtain ⟨g,o,L,e1,hg,_,hbi,hLk⟩:=(H.out.lk hb).at_ hlt;subst e1;obtain ⟨A1,n1,c1,B1,p1,d1,C1,q1,e1,c00,c01,c02,c03,hK⟩:=hLk;have hga:g < wa.heap.size:=hg;have HK:=Qh hK;have HBI:=Qh hbi;have hBl:w.heap.size < wa.heap.size:=HB.out.lt;clear hK hbi;go_wp2_with fail;have xp:Blk (wa.alloc (.cells #[ag L.name,.slice A1 n1 c1,.slice B1 p1 d1,.slice C1 q1 e1] 36)) wa.heap.size 36 #[ag L.name,.slice A1 n1 c1,.slice B1 p1 d1,.slice C1 q1 e1]:=ai _ _ _ rfl;have qb:Below wa.heap.size wa (wa.alloc (.cells #[ag L.name,.slice A1 n1 c1,.slice B1 p1 d1,.slice C1 q1 e1] 36)):=(ae wa).alloc Qr _;have HBb:=Qh (HB.out.belw qb);have HTb:=Qh ((HTab.out.belw hb).belw qb);have HSb:=Qh ((HT6.out.belw hb).belw qb);have HKb:=Qh (HK.out.belw qb);clear HB HK c00 c01 c02 c03;generalize (wa.alloc (.cells #[ag L.name,.slice A1 n1 c1,.slice B1 p1 d1,.slice C1 q1 e1] 36))=wb at xp qb HBb HTb HSb HKb ⊢;(with_reducible refine (uT wb A1 n1 c1 B1 p1 d1 C1 q1 e1 L HKb.out HTb.out).mono ?_);rintro e' wc ⟨rfl,qc⟩;have qbc:=af qb qc;by_cases hE:bo L=0
   ·have hT0:cj L=bt L:=if_pos hE
    have hlT:=ia hE;have hst:=dq pkL HBI.out;have HE1:Hid (cC (Ls.take (i+1))=0):=Qh (by rw [jl HBI.out HE.out];exact hE);rw [hT0,hE];obtain ⟨T,hT⟩:∃ T,bt L=T:=⟨_,rfl⟩;rw [hT] at hlT ⊢;obtain ⟨J,hJ⟩:∃ J,Lib.itoa (T.length:Int)=J:=⟨_,rfl⟩;have hlJ:J.length≤11:=by rw [← hJ];exact ft (n:=T.length) (k:=0) (by omega)
    have hsJ:=aq J;have hsT:=aq T;obtain ⟨X,hX⟩:∃ X,fq (cI T)=X:=⟨_,rfl⟩;have hlX:X.length=8:=by rw [← hX];exact g9 _
    have hsX:=aq X;obtain ⟨s1,es1⟩:∃ t,J ++ [32]=t:=⟨_,rfl⟩;have as1:=bD (J) ([32]);rw [es1] at as1;have ls1:s1.length=J.length+1:=by rw [← es1,List.length_append];try simp
    have ks1:(9223372036854775807 < J.length+1)=False:=eq_false (by omega);have zs1:=aq s1;obtain ⟨s2,es2⟩:∃ t,s1 ++ X=t:=⟨_,rfl⟩;have as2:=bD (s1) (X);rw [es2] at as2;have ls2:s2.length=s1.length+X.length:=by rw [← es2,List.length_append];try simp
    have ks2:(9223372036854775807 < s1.length+X.length)=False:=eq_false (by omega);have zs2:=aq s2;obtain ⟨s3,es3⟩:∃ t,s2 ++ [10]=t:=⟨_,rfl⟩;have as3:=bD (s2) ([10]);rw [es3] at as3;have ls3:s3.length=s2.length+1:=by rw [← es3,List.length_append];try simp
    have ks3:(9223372036854775807 < s2.length+1)=False:=eq_false (by omega);have zs3:=aq s3;obtain ⟨s4,es4⟩:∃ t,s3 ++ T=t:=⟨_,rfl⟩;have as4:=bD (s3) (T);rw [es4] at as4;have ls4:s4.length=s3.length+T.length:=by rw [← es4,List.length_append];try simp
    have ks4:(9223372036854775807 < s3.length+T.length)=False:=eq_false (by omega);have zs4:=aq s4;have hpk:pkL L=s4:=by unfold pkL jk;rw [hT,hJ,hX,es1,es2,es3,es4]
    rw [hpk] at hst;have HFS:Hid (h2 ++ (Ls.take (i+1)).flatMap pkL=h2 ++ (Ls.take i).flatMap pkL ++ s4):=Qh (by rw [hst,List.append_assoc])
    have hlw:(h2 ++ (Ls.take i).flatMap pkL).length+s4.length≤140737488355328:=by
     have:=rX HE.out (by omega);rw [List.length_append];omega
    have HW:=Qh hlw;have HJ:=Qh hJ;have HX:=Qh hX;have hev:cT 0=.nilIface:=if_pos rfl;rw [hev];clear hev hT0 hE hst hT hJ hX hlX es1 es2 es3 es4 hpk hlw ls1 ls2 ls3 ls4;go_wp2_with fail;(with_reducible refine (jH wc (T.length:Int) (by omega) (by omega) (HTb.out.belw qc)).mono ?_);rintro e' wd ⟨rfl,qd⟩;rw [HJ.out];have qcd:=af qbc qd;have qbd:=af qc qd;go_wp2_with fail;(with_reducible refine (pS wd T (by omega)).mono ?_);rintro e' we ⟨rfl,qe⟩;have qce:=af qcd qe;have qbe:=af qbd qe;go_wp2_with fail;(with_reducible refine (sq we (cI T) (gg T) (HSb.out.belw qbe)).mono ?_);rintro e' wf ⟨rfl,qf⟩;rw [HX.out];have qcf:=af qce qf;have qbf:=af qbe qf;go_wp2_with fail;(with_reducible refine (bM _ _ _ _ s4 (HBb.out.belw qbf) HW.out).mono ?_);rintro e' wg ⟨rfl,Bg,qg,_⟩;have HBg:Hid (Bu w.heap.size w.heap.size wg (h2 ++ (Ls.take (i+1)).flatMap pkL)):=Qh (by rw [HFS.out];exact Bg);have bg:=(hb.trans (qcf.mono (Nat.le_of_lt hBl))).trans qg;clear Bg HFS;go_wp2_with fail;go_roundw
    case rel=>exact ⟨i+1,by go_num,by omega,HE1,HBg,bg⟩
    case measure=>simp [intOf];omega
   have hp:=kY (Ls:=Ls) (by rw [HLN.out];exact h16) (by rw [kW HBI.out HE.out hE];exact hE);rw [kW HBI.out HE.out hE] at hp;rw [eVp hE];have HP:=Qh (And.intro hp (eVp hE));clear hp;go_wp2_with fail;go_ret2;exact ⟨by rw [HP.out.1.1,HP.out.1.2,HP.out.2];rfl,hb.trans (qbc.mono hb.size)⟩
  have hi1:((i:Int) < (n:Int))=False:=by simp;omega
  have hin:Ls.take i=Ls:=List.take_of_length_le (by rw [HLN.out];exact hge);rw [hin] at HB HE;have hbd:h2 ++ Ls.flatMap pkL=cD Ls:=by unfold cD;rw [HLN.out,HH.out]
  rw [hbd] at HB;have HP:Hid (¬ 16 < Ls.length):=Qh (by rw [HLN.out];exact h16);obtain ⟨S,hS⟩:∃ S,cD Ls=S:=⟨_,rfl⟩;rw [hS] at HB;have HS:=Qh hS;clear hin hbd hS;go_wp2_with fail;(with_reducible refine (pL _ _ _ _ HB.out).mono ?_);rintro e' wl ⟨rfl,rfl⟩;by_cases h65:65536 < S.length
  ·have f65:((65536:Int) < (S.length:Int))=True:=eq_true (by omega)
   have hp:=lV HP.out HE.out (by rw [HS.out];exact h65);have HQ:=Qh hp;clear hp;go_wp2_with fail;go_ret2;exact ⟨by rw [HQ.out.1,HQ.out.2];rfl,hb⟩
  have f65:((65536:Int) < (S.length:Int))=False:=eq_false (by omega);have hp:=pV HP.out HE.out (by rw [HS.out];exact h65);rw [HS.out] at hp;have HQ:=Qh hp;clear hp;go_wp2_with fail;(with_reducible refine (lO _ _ _ _ HB.out).mono ?_);rintro e' wm ⟨rfl,qm⟩;go_wp2_with fail;go_ret2;exact ⟨by rw [HQ.out.1,HQ.out.2];rfl,hb.trans qm⟩
def okM (m:aR):Prop:=m.x.num.length≤40∧m.x.den.length≤40∧m.y.num.length≤40∧m.y.den.length≤40
def okB (b:ay):Prop:=∀ m∈b.pts,okM m
def okL (L:au):Prop:=∀ b∈L.bodies,okB b
theorem ii {α:Type}{P:α→Prop}{l:List α}{i:Nat}{a:α}(h:l[i]?=some a) (h0:∀ x∈l.take i,P x) (ha:P a):∀ x∈l.take (i+1),P x:=by
 intro x hx;rw [List.take_add_one,h] at hx;rcases List.mem_append.1 hx with hx | hx
 ·exact h0 x hx
 simp at hx;rw [hx];exact ha
theorem LkS.ok40 {K:Nat}{w:World}{A B C:Option Addr}{n c p d q e:Nat}{L:au}(h:LkS K w A n c B p d C q e L) (hl:okL L):LkS 40 w A n c B p d C q e L:=by
 refine ⟨h.name,h.bodies.mono_ fun g o b hb hp=>?_,h.joints,h.drivers⟩;obtain ⟨A',n',c',c0,c1,hM,hn⟩:=hp;refine ⟨A',n',c',c0,c1,hM.mono_ fun g o m hm hp=>?_,hn⟩;have:=hl b hb m hm;exact ⟨hp.1,hp.2.1.small this.1 this.2.1,hp.2.2.1.small this.2.2.1 this.2.2.2,hp.2.2.2⟩
theorem SlS.ok40 {K:Nat}{w:World}{A:Option Addr}{n c:Nat}{Ls:List au}(h:SlS (ig K) 4 w A n c Ls) (hl:∀ L∈Ls,okL L):SlS (ig 40) 4 w A n c Ls :=
 h.mono_ fun g o L hL hp=>by
  obtain ⟨A,n,c,B,p,d,C,q,e,h0,h1,h2,h3,h4⟩:=hp;exact ⟨A,n,c,B,p,d,C,q,e,h0,h1,h2,h3,h4.ok40 (hl L hL)⟩
theorem nZ (w:World) (A:Option Addr) (n c:Nat) (Ls:List au) (h:SlS (ig reachBytes) 4 w A n c Ls) :
 Calls Tryz.prog 10 #[.slice A n c] w (fun e w'=>(∃ v,e=.returned (.bool v)∧(v=false→n≤40∧∀ L∈Ls,okL L))∧Below w.heap.size w w'):=by
 have hnc:=h.2.1;have HLN:=Qh h.1;have H:=Qh h;clear h;by_cases ha:40 < n
 ·have fa:((40:Int) < (n:Int))=True:=eq_true (by omega)
  go_in;go_wp2;go_ret;exact ⟨⟨true,rfl,fun h=>by cases h⟩,ae w⟩
 have fa:((40:Int) < (n:Int))=False:=eq_false (by omega);go_in;go_wp2_with fail;go_loopw [3] (fun iv wr=>∃ i:Nat,iv=.int .i64 (i:Nat)∧i≤n∧Hid (∀ L∈Ls.take i,okL L)∧Below w.heap.size w wr) (fun iv _=>n - (intOf iv).toNat)
 case atStart=>exact ⟨0,rfl,Nat.zero_le _,Qh (fun L hL=>by simp at hL),ae w⟩
 case round =>
  obtain ⟨i,rfl,hi,HI,hb⟩:=hrel;rename World=>wa;rcases Nat.lt_or_ge i n with hlt | hge
  ·have hi1:((i:Int) < (n:Int))=True:=by simp;omega
   obtain ⟨g,o,L,e1,hg,_,hbi,hLk⟩:=(H.out.lk hb).at_ hlt;subst e1;obtain ⟨A1,n1,c1,B1,p1,d1,C1,q1,e1,c00,c01,c02,c03,hK⟩:=hLk;have hga:g < wa.heap.size:=hg;have HK:=Qh hK;have HBI:=Qh hbi;have hnc1:=hK.bodies.2.1;have hln1:=hK.bodies.1;have HLN1:=Qh hln1;clear hK hbi hln1;have qb:Below wa.heap.size wa (wa.alloc (.cells #[ag L.name,.slice A1 n1 c1,.slice B1 p1 d1,.slice C1 q1 e1] 36)):=(ae wa).alloc Qr _;by_cases hb1:20 < n1
   ·have fb:((20:Int) < (n1:Int))=True:=eq_true (by omega)
    go_wp2;go_ret;exact ⟨⟨true,rfl,fun h=>by cases h⟩,hb.trans (qb.mono hb.size)⟩
   have fb:((20:Int) < (n1:Int))=False:=eq_false (by omega);by_cases hb2:40 < p1
   ·have fc:((40:Int) < (p1:Int))=True:=eq_true (by omega)
    go_wp2;go_ret;exact ⟨⟨true,rfl,fun h=>by cases h⟩,hb.trans (qb.mono hb.size)⟩
   have fc:((40:Int) < (p1:Int))=False:=eq_false (by omega);by_cases hb3:20 < q1
   ·have fd:((20:Int) < (q1:Int))=True:=eq_true (by omega)
    go_wp2;go_ret;exact ⟨⟨true,rfl,fun h=>by cases h⟩,hb.trans (qb.mono hb.size)⟩
   have fd:((20:Int) < (q1:Int))=False:=eq_false (by omega);by_cases hb4:6≤i∧n≤16
   ·have fe:((6:Int)≤(i:Int))=True:=eq_true (by omega)
    have ff:((n:Int)≤16)=True:=eq_true (by omega);go_wp2;go_ret;exact ⟨⟨true,rfl,fun h=>by cases h⟩,hb.trans (qb.mono hb.size)⟩
   obtain ⟨v6,hv6⟩:∃ v,decide ((6:Int)≤(i:Int))=v:=⟨_,rfl⟩;have xL0:Blk (wa.alloc (.cells #[ag L.name,.slice A1 n1 c1,.slice B1 p1 d1,.slice C1 q1 e1] 36)) wa.heap.size 36 #[ag L.name,.slice A1 n1 c1,.slice B1 p1 d1,.slice C1 q1 e1]:=ai _ _ _ rfl;have go2:∀ (v:Bool),(v=true→((n:Int)≤16)=False)→decide ((6:Int)≤(i:Int))=v→True:=fun _ _ _=>trivial
   clear go2
   have hs6:(((6:Int)≤(i:Int))=True∧((n:Int)≤16)=False)∨((6:Int)≤(i:Int))=False:=by
    by_cases h6:6≤i
    ·exact .inl ⟨eq_true (by omega),eq_false (by omega)⟩
    exact .inr (eq_false (by omega))
   clear hv6 v6 hb4;have HX:=Qh xL0;have HKb:=Qh (HK.out.belw qb);have hbb:=hb.trans (qb.mono hb.size);clear xL0 HK;rcases hs6 with ⟨fe,ff⟩ | fe
   all_goals
    go_wp2_with fail;generalize (wa.alloc (.cells #[ag L.name,.slice A1 n1 c1,.slice B1 p1 d1,.slice C1 q1 e1] 36))=w1 at HX HKb hbb qb ⊢;have hlL:wa.heap.size < w1.heap.size:=HX.out.lt;clear c00 c01 c02 c03;go_loopw [5] (fun jv w2=>∃ j:Nat,jv=.int .i64 (j:Nat)∧j≤n1∧Hid (∀ b∈L.bodies.take j,okB b)∧Below w1.heap.size w1 w2) (fun jv _=>n1 - (intOf jv).toNat)
    case atStart=>exact ⟨0,rfl,Nat.zero_le _,Qh (fun b hb=>by simp at hb),ae w1⟩
    case round =>
     obtain ⟨j,rfl,hj,HJ,hb2⟩:=hrel;rename World=>w2;have xL:=HX.out.below hb2 hlL;have cL:=xL.cell 1;have hlL2:wa.heap.size < w2.heap.size:=xL.lt;rcases Nat.lt_or_ge j n1 with hjl | hjg
     ·have hj1:((j:Int) < (n1:Int))=True:=by simp;omega
      obtain ⟨g,o,b,e2,hg2,_,hbj,hB⟩:=(HKb.out.bodies.bd hb2).at_ hjl;subst e2;obtain ⟨A',n',c',k0,k1,hM,hnm⟩:=hB;have hnc':=hM.2.1;have HM:=Qh hM;have HBJ:=Qh hbj;have hg3:g < w2.heap.size:=hg2;clear hM hbj;by_cases hp4:20 < n'
      ·have fp:((20:Int) < (n':Int))=True:=eq_true (by omega)
       go_wp2;go_ret;exact ⟨⟨true,rfl,fun h=>by cases h⟩,hbb.trans (hb2.mono hbb.size)⟩
      have fp:((20:Int) < (n':Int))=False:=eq_false (by omega);go_wp2_with fail;clear cL k0;go_loopw [6] (fun kv w3=>∃ k:Nat,kv=.int .i64 (k:Nat)∧k≤n'∧Hid (∀ m∈b.pts.take k,okM m)∧Below w2.heap.size w2 w3) (fun kv _=>n' - (intOf kv).toNat)
      case atStart=>exact ⟨0,rfl,Nat.zero_le _,Qh (fun m hm=>by simp at hm),ae w2⟩
      case round =>
       obtain ⟨k,rfl,hk,HKk,hb3⟩:=hrel;rename World=>w3;have xL3:=xL.below hb3 xL.lt;have cL3:=xL3.cell 1;have hlL3:wa.heap.size < w3.heap.size:=xL3.lt;have bw3:=(hbb.trans (hb2.mono hbb.size)).trans (hb3.mono (hbb.trans (hb2.mono hbb.size)).size);have k1:=av k1 hb3;have hg4:g < w3.heap.size:=Nat.lt_of_lt_of_le hg3 hb3.size;rcases Nat.lt_or_ge k n' with hkl | hkg
       ·have hk1:((k:Int) < (n':Int))=True:=by simp;omega
        obtain ⟨g',o',m,e3,hg',_,hmk,hM⟩:=(HM.out.mk_ hb3).at_ hkl;subst e3;have HMK:=Qh hmk;obtain ⟨d0,⟨b1,Ax,nx,cx,Dx,mx,ex,d1,d2,d3,hQ1⟩,⟨b2,Ay,ny,cy,Dy,my,ey,d4,d5,d6,hQ2⟩,hmn⟩:=hM;have d2:w3.cell? ⟨g',o'+k * 7+2,none⟩=some (.slice Ax nx cx):=d2;have d3:w3.cell? ⟨g',o'+k * 7+3,none⟩=some (.slice Dx mx ex):=d3;have d5:w3.cell? ⟨g',o'+k * 7+5,none⟩=some (.slice Ay ny cy):=d5;have d6:w3.cell? ⟨g',o'+k * 7+6,none⟩=some (.slice Dy my ey):=d6;have HQ:=Qh (And.intro hQ1.2.1.2.1 (And.intro hQ1.2.2.1.2.1 (And.intro hQ2.2.1.2.1 hQ2.2.2.1.2.1)));have s1:=mD hQ1.2.2.2.1;have s2:=mD hQ1.2.2.2.2;have s3:=mD hQ2.2.2.2.1;have s4:=mD hQ2.2.2.2.2;have u1:IntKind.i64.wrap ((nx:Int)+(mx:Int))=(nx:Int)+(mx:Int):=wrap_i64 (by omega) (by omega);have u2:IntKind.i64.wrap ((nx:Int)+(mx:Int)+(ny:Int))=(nx:Int)+(mx:Int)+(ny:Int):=wrap_i64 (by omega) (by omega);have u3:IntKind.i64.wrap ((nx:Int)+(mx:Int)+(ny:Int)+(my:Int))=(nx:Int)+(mx:Int)+(ny:Int)+(my:Int):=wrap_i64 (by omega) (by omega);have hgm:g' < w3.heap.size:=hg';clear hmk hQ1 hQ2;by_cases h40:20 < nx+mx+ny+my
        ·have f4:((20:Int) < (nx:Int)+(mx:Int)+(ny:Int)+(my:Int))=True:=eq_true (by omega)
         clear s1 s2 s3 s4;go_wp2;go_ret;exact ⟨⟨true,rfl,fun h=>by cases h⟩,bw3.alloc (by have:=bw3.size;omega) _⟩
        have f4:((20:Int) < (nx:Int)+(mx:Int)+(ny:Int)+(my:Int))=False:=eq_false (by omega)
        have hm6:okM m:=by
         refine ⟨?_,?_,?_,?_⟩
         ·rw [← HQ.out.1];omega
         ·rw [← HQ.out.2.1];omega
         ·rw [← HQ.out.2.2.1];omega
         rw [← HQ.out.2.2.2];omega
        have HJ2:=Qh (ii HMK.out HKk.out hm6);clear hm6 s1 s2 s3 s4;go_wp2_with fail;go_roundw
        case rel=>exact ⟨k+1,by go_num,by omega,HJ2,hb3.alloc hb3.size _⟩
        case measure=>simp [intOf];omega
       have hk1:((k:Int) < (n':Int))=False:=by simp;omega
       have hkn:b.pts.take k=b.pts:=List.take_of_length_le (by rw [HM.out.1];exact hkg);rw [hkn] at HKk;have HJ2:=Qh (ii HBJ.out HJ.out (fun m hm=>HKk.out m hm:okB b));clear hkn;go_wp2_with fail;go_roundw
       case rel=>exact ⟨j+1,by go_num,by omega,HJ2,hb2.trans (hb3.mono hb2.size)⟩
       case measure=>simp [intOf];omega
     have hj1:((j:Int) < (n1:Int))=False:=by simp;omega
     have hjn:L.bodies.take j=L.bodies:=List.take_of_length_le (by rw [HLN1.out];exact hjg);rw [hjn] at HJ;have HI2:=Qh (ii HBI.out HI.out (fun b hb=>HJ.out b hb:okL L));clear hjn;go_wp2_with fail;go_roundw
     case rel=>exact ⟨i+1,by go_num,by omega,HI2,hbb.trans (hb2.mono hbb.size)⟩
     case measure=>simp [intOf];omega
  have hi1:((i:Int) < (n:Int))=False:=by simp;omega
  have hin:Ls.take i=Ls:=List.take_of_length_le (by rw [HLN.out];exact hge);rw [hin] at HI;have hn40:n≤40:=by omega
  clear hin;go_wp2;go_ret;exact ⟨⟨false,rfl,fun _=>⟨hn40,HI.out⟩⟩,hb⟩
theorem ut:cI [97]=3826002220:=by decide +kernel
theorem dX (w:World) (htab:Tab w) (ht:T64 w):Calls Tryz.prog 9 #[] w (aw w (.bool true)):=by
 have hnil:SlS (ig 40) 4 w none 0 0 []:=⟨rfl,Qr,fun h=>absurd h (by omega)⟩;have hE:cG []=0:=by decide +kernel
 have hT:eI []=[108,105,110,107,119,111,114,107,32,49,32,48,10]:=by decide +kernel
 have HTab:=Qh htab;have HT:=Qh ht;clear htab ht;go_in;go_wp2_with fail;(with_reducible refine (qA w none 0 0 [] hnil HTab.out HT.out (by omega)).mono ?_);rintro e' w1 ⟨rfl,hb1⟩;rw [hE,hT,show cT 0=.nilIface from if_pos rfl];clear hE hT;go_wp2_with fail;(with_reducible refine (pS w1 [97] (by decide)).mono ?_);rintro e' w2 ⟨rfl,hb2⟩;rw [ut];have hb:=af hb1 hb2;go_wp2;go_ret;exact ⟨rfl,hb⟩
end Go.Proofs.YtfilnhompchciaaGreatDoor
namespace Go.Proofs.YtfilnhompchciaaGreatDoor
open Go Go.RowKit Bn Go.ChangeShapes Go.WideShapes
attribute [local go_sem ↓] Go.wp_at_zero Go.wp_at_succ
theorem su : Tryz.prog.globalNamed "math/bits.deBruijn64tab" = some 7 := by kernel_rfl
theorem tC:(Tryz.prog.globals[7]?).map (·.type)=some 265:=by kernel_rfl
theorem n0:Tryz.prog.cellsOf 265=64:=by kernel_rfl
theorem qB:Tryz.prog.cellsOf 5=1:=by kernel_rfl
theorem qC {H:Type}:(Rows.laid_math_bits_deBruijn64tab:DataW H)=Lib.tabData .u8 (Lib.deBruijn64tab.map fun z:Nat=>(z:Int)):=by kernel_rfl
theorem li {rest : List (String × DataW Unit)} {W : World} (h : laidMet Tryz.prog (("math/bits.deBruijn32tab", Rows.laid_math_bits_deBruijn32tab) :: ("math/bits.deBruijn64tab", Rows.laid_math_bits_deBruijn64tab) :: rest) W) : T64 W := by
 obtain ⟨ps,⟨_,_,_,_,_,_,_,_,_,_,⟨g,t,cs,f,p,q,hg,ht,hv,hd,_,_⟩,_⟩,_,_⟩:=h;obtain rfl:=Option.some.inj (su.symm.trans hg);obtain rfl:=Option.some.inj (tC.symm.trans ht);rw [qC] at hd
 have h9 : Lib.TabIs Tryz.prog W "math/bits.deBruijn64tab" .u8 (Lib.deBruijn64tab.map fun z : Nat => (z : Int)) := by
  unfold Lib.TabIs;rw [hv,← Lib.cells_of_tab Tryz.underlying265 Tryz.underlying5 qB n0 hd]
 exact h9.cell su 15 (by decide)
section
variable {H:Type}{enc:TypeId × Value→H}{W:World}
instance:Inhabited au:=⟨⟨[],[],[],[]⟩⟩
variable {base:Nat}
end
end Go.Proofs.YtfilnhompchciaaGreatDoor
namespace Go.Proofs.YtfilnhompchciaaGreatDoor
open Go Go.RowKit Bn
attribute [local go_sem ↓] Go.wp_at_zero Go.wp_at_succ
theorem j6 (w:World) (T:List UInt8) (h:Nat) (hh:h < 4294967296) (hne:cI T≠h) (S:List UInt8) (hS:cQ 1 ++ (bK T.length h ++ 10 :: T)=S) (hl:S.length≤65536) (htab:Tab w) (ht6:T64 w) (hmx:Mx w) :
 Calls Tryz.prog 18 #[ag S] w (fun e' w'=>e'=.returned (.tuple #[.slice none 0 0,.iface 49 (.int .i64 14)])∧Below w.heap.size w w'):=by
 have hSl:S.length=(cQ 1).length+(bK T.length h ++ 10 :: T).length:=by rw [← hS,List.length_append]
 obtain ⟨R,hR⟩:∃ R,bK T.length h ++ 10 :: T=R:=⟨_,rfl⟩;rw [hR] at hS hSl;obtain ⟨Ln,hLn⟩:∃ Ln,bK T.length h=Ln:=⟨_,rfl⟩;have hRl:R.length=Ln.length+(T.length+1):=by rw [← hR,hLn,List.length_append,List.length_cons]
 have hc1:Lib.cut R [10]=(Ln,T,true):=by rw [← hR,← hLn];exact lM (jm _ _)
 obtain ⟨I,hI⟩:∃ I,Lib.itoa (T.length:Int)=I:=⟨_,rfl⟩;obtain ⟨X,hX⟩:∃ X,fq h=X:=⟨_,rfl⟩
 have hc2:Lib.cut Ln [32]=(I,X,true):=by
  rw [← hLn,← hI,← hX,show bK T.length h=Lib.itoa (T.length:Int) ++ 32 :: fq h by unfold bK;simp];exact lM (lY (by decide))
 obtain ⟨Y,hY⟩:∃ Y,fq (cI T)=Y:=⟨_,rfl⟩;have hXY:Y≠X:=by rw [← hX,← hY];exact fun e=>hne (pX (gg T) hh e)
 have hb:(Y == X)=false:=beq_eq_false_iff_ne.2 hXY;have hT6:T.length≤65536:=by omega
 have zT:=aq T;have e1:(⟨T.toArray⟩:ByteArray).extract 0 T.length=⟨T.toArray⟩:=by rw [ud,List.drop_zero,Nat.sub_zero,List.take_length]
 have HS:=Qh hS;have HC:=Qh (And.intro hc1 hc2);have HI:=Qh hI;have HX:=Qh hX;have HY:=Qh hY;have HTab:=Qh htab;have H6:=Qh ht6;have HM:=Qh hmx;have HL:=Qh (show R.length≤65536∧Ln.length≤65536 by omega);clear hS hSl hR hLn hRl hc1 hc2 hI hX hY htab ht6 hmx hXY hne;go_in;go_wp2_with fail;(with_reducible refine (nQ w 1 (by omega) R S HS.out hl HTab.out HM.out).mono ?_);rintro e' w1 ⟨rfl,q1⟩;go_wp2_with fail;go_loopw [5,31] (fun rv iv wr=>rv=ag R∧iv=.int .i64 0∧Below w.heap.size w wr) (fun _ _ _=>0)
 case atStart=>exact ⟨rfl,rfl,q1⟩
 case round =>
  clear q1;obtain ⟨rfl,rfl,q1⟩:=hrel;rename World=>wa;go_wp2_with fail;(with_reducible refine (p7 wa R 10 Ln T true (HM.out.belw q1) HL.out.1 HC.out.1).mono ?_);rintro e' w2 ⟨rfl,hb2⟩;have q2:=af q1 hb2;clear hb2;go_wp2_with fail;(with_reducible refine (p7 w2 Ln 32 I X true (HM.out.belw q2) HL.out.2 HC.out.2).mono ?_);rintro e' w3 ⟨rfl,hb3⟩;have q3:=af q2 hb3;clear hb3;go_wp2_with fail;(with_reducible refine (mB w3 T.length (by omega) I HI.out (HTab.out.belw q3)).mono ?_);rintro e' w4 ⟨rfl,hb4⟩;have q4:=af q3 hb4;clear hb4;go_wp2_with fail;(with_reducible refine (rQ w4 h X HX.out).mono ?_);rintro e' w5 ⟨rfl,hb5⟩;have q5:=af q4 hb5;clear hb5;go_wp2_with fail;(with_reducible refine (pS w5 T (by omega)).mono ?_);rintro e' w6 ⟨rfl,hb6⟩;have q6:=af q5 hb6;clear hb6;go_wp2_with fail;(with_reducible refine (sq w6 (cI T) (gg T) (H6.out.belw q6)).mono ?_);rintro e' w7 ⟨rfl,hb7⟩;rw [HY.out];have q7:=af q6 hb7;clear hb7;go_wp2_with fail;go_ret2;exact ⟨rfl,q7⟩
theorem uu {i:Int}(h:(Lit.int .u16 i).wf=true):0≤i∧i≤65535:=by simpa [Lit.wf,IntKind.min,IntKind.max,IntKind.signed,IntKind.bits] using h
theorem lj (a b:UInt8):bits .xor .u8 ((a.toNat:Nat):Int) ((b.toNat:Nat):Int)=(((a ^^^ b).toNat:Nat):Int):=by
 have ha:=a.toNat_lt;have hb:=b.toNat_lt;have hx:a.toNat ^^^ b.toNat < 2 ^ 8:=Nat.xor_lt_two_pow ha hb
 have h1:(BitVec.ofInt 8 ((a.toNat:Nat):Int)).toNat=a.toNat:=by
  rw [BitVec.ofInt_natCast,BitVec.toNat_ofNat];exact Nat.mod_eq_of_lt (by omega)
 have h2:(BitVec.ofInt 8 ((b.toNat:Nat):Int)).toNat=b.toNat:=by
  rw [BitVec.ofInt_natCast,BitVec.toNat_ofNat];exact Nat.mod_eq_of_lt (by omega)
 show IntKind.u8.wrap ((BitVec.ofInt 8 ((a.toNat:Nat):Int) ^^^ BitVec.ofInt 8 ((b.toNat:Nat):Int)).toNat:Int)=_;rw [BitVec.toNat_xor,h1,h2,UInt8.toNat_xor];simp [IntKind.wrap,IntKind.signed,IntKind.bits];omega
theorem SlS.one {w:World}{k g:Nat}{A B C:Option Addr}{n c p d q e:Nat}{L:au}(x:Blk w g 36 #[ag L.name,.slice A n c,.slice B p d,.slice C q e]) (h:LkS k w A n c B p d C q e L):SlS (ig k) 4 w (some ⟨g,0,none⟩) 1 1 [L] :=
 ⟨rfl,Qr,fun _=>⟨g,0,rfl,x.lt,fun i a ha=>by
  match i with
  | 0 =>
   simp at ha;subst ha;exact ⟨A,n,c,B,p,d,C,q,e,x.cell 0,x.cell 1,x.cell 2,x.cell 3,h⟩
  | i+1=>cases ha⟩⟩
theorem l8 (w:World) (S:List UInt8):∃ w7 cap,(convert 9 47 (ag S)).run Tryz.prog w=.ok (.slice (some ⟨w.heap.size,0,none⟩) S.length cap) w7∧Below w.heap.size w w7∧w.heap.size < w7.heap.size∧(∀ j c,S[j]?=some c→w7.cell? ⟨w.heap.size,j,none⟩=some (.int .u8 ((c.toNat:Nat):Int)))∧∀ j,j < S.length→w7.frozen? ⟨w.heap.size,j,none⟩=false:=by
 have hcv:=run_bytes_of_string (P:=Tryz.prog) w 9 47 5 ⟨S.toArray⟩ Tryz.underlying9 Tryz.underlying47 Tryz.underlying5;refine ⟨_,_,hcv,fQ _ _,by show w.heap.size < (w.heap.push _).size;rw [Array.size_push];exact Nat.lt_succ_self _,fun j c h=>kS _ _ _ _ _ h,fun j hj=>?_⟩;have e:w.drew.heap.size=w.heap.size:=rfl;rw [← e,World.frozen?_alloc_mark];have h1:S.length≤(bytesRow ⟨S.toArray⟩ (grownCap w (⟨S.toArray⟩:ByteArray).size 0 5)).size:=by unfold bytesRow;simp
 generalize (bytesRow ⟨S.toArray⟩ (grownCap w (⟨S.toArray⟩:ByteArray).size 0 5)).size=z at h1;simp;omega
theorem qD (w:World) (A:Option Addr) (n c:Nat) (B:Option Addr) (p d:Nat) (C:Option Addr) (q e:Nat) (L:au) (h:LkS reachBytes w A n c B p d C q e L) (x:Int) (hx:0≤x∧x≤65535) (y:Int) (hy:0≤y∧y≤255) (htab:Tab w) (hmx:Mx w) (ht6:T64 w) :
 Calls Tryz.prog 6 #[.agg #[ag L.name,.slice A n c,.slice B p d,.slice C q e],.int .u16 x,.int .u8 y] w (aw w (.bool true)):=by
 obtain ⟨X,rfl⟩:∃ X:Nat,x=X:=⟨x.toNat,by omega⟩;obtain ⟨b,rfl⟩:∃ b:UInt8,y=((b.toNat:Nat):Int):=⟨UInt8.ofNat y.toNat,by rw [UInt8.toNat_ofNat'];omega⟩;have H:=Qh h;have HTab:=Qh htab;have HM:=Qh hmx;have H6:=Qh ht6;have hX:X≤65535:=by omega
 clear h htab hmx ht6 hx hy;go_in;go_wp2_with fail;have q0:Below w.heap.size w (w.alloc (.cells #[ag L.name,.slice A n c,.slice B p d,.slice C q e] 36)):=(ae w).alloc Qr _;have x0:Blk (w.alloc (.cells #[ag L.name,.slice A n c,.slice B p d,.slice C q e] 36)) w.heap.size 36 #[ag L.name,.slice A n c,.slice B p d,.slice C q e]:=ai _ _ _ rfl;generalize (w.alloc (.cells #[ag L.name,.slice A n c,.slice B p d,.slice C q e] 36))=w0 at q0 x0 ⊢;(with_reducible refine (dX w0 (HTab.out.belw q0) (H6.out.belw q0)).mono ?_);rintro e' w1 ⟨rfl,hb1⟩;have q1:=af q0 hb1;have x1:=x0.below hb1 x0.lt;have hl1:w.heap.size < w1.heap.size:=x1.lt;obtain ⟨c0,c1,c2,c3⟩:=x1.c4;clear x0 q0 hb1;go_wp2_with fail;have q2:Below w.heap.size w (w1.alloc (.cells #[ag L.name,.slice A n c,.slice B p d,.slice C q e] 36)):=q1.alloc q1.size _;have y2:Blk (w1.alloc (.cells #[ag L.name,.slice A n c,.slice B p d,.slice C q e] 36)) w1.heap.size 36 #[ag L.name,.slice A n c,.slice B p d,.slice C q e]:=ai _ _ _ rfl;have x2:=x1.below ((ae w1).alloc Qr (.cells #[ag L.name,.slice A n c,.slice B p d,.slice C q e] 36)) x1.lt;generalize (w1.alloc (.cells #[ag L.name,.slice A n c,.slice B p d,.slice C q e] 36))=w2 at q2 y2 x2 ⊢;clear c0 c1 c2 c3;(with_reducible refine (nZ w2 (some ⟨w1.heap.size,0,none⟩) 1 1 [L] (SlS.one y2 (H.out.belw q2))).mono ?_);rintro e' w3 ⟨⟨v,rfl,hv⟩,hb3⟩;have q3:=af q2 hb3;have x3:=x2.below hb3 x2.lt;have hl3:w.heap.size < w3.heap.size:=x3.lt;have HV:=Qh hv;clear hv hb3 y2 x2 x1 q2;cases v
 case true =>
  go_wp2_with fail;(with_reducible refine (dX w3 (HTab.out.belw q3) (H6.out.belw q3)).mono ?_);rintro e' w4 ⟨rfl,hb4⟩;have q4:=af q3 hb4;go_wp2;go_ret;exact ⟨rfl,q4⟩
 have H40:Hid (LkS 40 w A n c B p d C q e L):=Qh (H.out.ok40 ((HV.out rfl).2 L (by simp)));clear HV H;obtain ⟨c0,c1,c2,c3⟩:=x3.c4;obtain ⟨z,hz⟩:∃ z,cB L=z:=⟨_,rfl⟩;have HZ:=Qh hz;clear hz;go_wp2_with fail;(with_reducible refine (rV w3 A n c B p d C q e L 40 (H40.out.belw q3) (by decide) (by decide) z HZ.out).mono ?_);rintro e' w4 ⟨rfl,hb4⟩;have q4:=af q3 hb4;have x4:=x3.below hb4 x3.lt;have hl4:w.heap.size < w4.heap.size:=x4.lt;clear hb4 x3 c0 c1 c2 c3;obtain ⟨c0,c1,c2,c3⟩:=x4.c4;by_cases hz0:z=0
 case neg =>
  have hz1:(z == 0)=false:=beq_eq_false_iff_ne.2 hz0;go_wp2_with fail;(with_reducible refine (dX w4 (HTab.out.belw q4) (H6.out.belw q4)).mono ?_);rintro e' w5 ⟨rfl,hb5⟩;have q5:=af q4 hb5;go_wp2;go_ret;exact ⟨rfl,q5⟩
 subst hz0;by_cases hb0:b=0
 case pos =>
  have hb1:(((b.toNat:Nat):Int) == 0)=true:=by rw [hb0];rfl
  go_wp2_with fail;(with_reducible refine (dX w4 (HTab.out.belw q4) (H6.out.belw q4)).mono ?_);rintro e' w5 ⟨rfl,hb5⟩;have q5:=af q4 hb5;go_wp2;go_ret;exact ⟨rfl,q5⟩
 have hb1:(((b.toNat:Nat):Int) == 0)=false:=by
  rw [beq_eq_false_iff_ne];intro e;exact hb0 (UInt8.toNat.inj (by rw [show (0:UInt8).toNat=0 from rfl];omega))
 go_wp2_with fail;have q5:Below w.heap.size w (w4.alloc (.cells #[ag L.name,.slice A n c,.slice B p d,.slice C q e] 36)):=q4.alloc q4.size _;have y5:Blk (w4.alloc (.cells #[ag L.name,.slice A n c,.slice B p d,.slice C q e] 36)) w4.heap.size 36 #[ag L.name,.slice A n c,.slice B p d,.slice C q e]:=ai _ _ _ rfl;generalize (w4.alloc (.cells #[ag L.name,.slice A n c,.slice B p d,.slice C q e] 36))=w5 at q5 y5 ⊢;clear c0 c1 c2 c3 hb1 hl4 hl3 hl1 x4;(with_reducible refine (qA w5 (some ⟨w4.heap.size,0,none⟩) 1 1 [L] (SlS.one y5 (H40.out.belw q5)) (HTab.out.belw q5) (H6.out.belw q5) (by omega)).mono ?_);rintro e' w6 ⟨rfl,hb6⟩;have q6:=af q5 hb6;clear hb6 y5;by_cases hE:cG [L]=0
 case neg =>
  rw [eVp hE];go_wp2;go_ret;exact ⟨rfl,q6⟩
 have hpt:eI [L]=cD [L]:=if_pos hE
 have hpl:(cD [L]).length≤65536:=by
  unfold cG at hE;split at hE
  ·cases hE
  split at hE
  ·rename_i h1;exact absurd hE h1
  split at hE
  ·cases hE
  rename_i h1;exact Nat.le_of_not_lt h1
 rw [hpt,hE,show cT 0=.nilIface from if_pos rfl];rw [rO L] at hpl ⊢;have hT0:=nP L;have hq0:∀ t,cQ 1 ++ (bK (bt L).length (cI (bt L)) ++ 10 :: t)=gdH (bt L).length (cI (bt L)) ++ t:=p4 (bt L).length (cI (bt L));obtain ⟨T,hT⟩:∃ T,bt L=T:=⟨_,rfl⟩;rw [hT] at hT0 hpl hq0 ⊢;have hcn:=p6 T.length (cI T);obtain ⟨G,hG⟩:∃ G,gdH T.length (cI T)=G:=⟨_,rfl⟩;rw [hG] at hpl hcn hq0 ⊢;obtain ⟨S,hS⟩:∃ S,G ++ T=S:=⟨_,rfl⟩;rw [hS] at hpl ⊢;have hSl:S.length=G.length+T.length:=by rw [← hS,List.length_append]
 have hTl:0 < T.length:=List.length_pos_iff.2 hT0;have zS:=aq S;have HCN:=Qh hcn;have HQ0:=Qh hq0;have HS:=Qh hS;clear hE hpt hT0 hq0 hT hcn hG hS HZ H40;go_wp2_with fail;go_loopw [9,10] (fun hv lv wr=>∃ i:Nat,hv=.int .i64 (i:Nat)∧lv=.int .i64 (((G.take i).count 10:Nat):Int)∧i≤G.length∧Below w.heap.size w wr) (fun hv _ _=>G.length - (intOf hv).toNat)
 case atStart=>exact ⟨0,rfl,rfl,Nat.zero_le _,q6⟩
 case round =>
  clear q6;obtain ⟨i,rfl,rfl,hi,qa⟩:=hrel;rename World=>wa;have hi1:((i:Int) < (S.length:Int))=True:=eq_true (by omega);rcases Nat.lt_or_ge i G.length with hlt | hge
  ·obtain ⟨ch,hc⟩:∃ ch,G[i]?=some ch:=⟨_,List.getElem?_eq_getElem hlt⟩
   have hst:=lZ hc;have hle:=HCN.out.2 i hlt;have hi0:(0:Int)≤((i:Nat):Int):=by omega
   have hget:∀ h,(⟨S.toArray⟩:ByteArray)[i]'h=ch:=fun h=>by
    have h9:S[i]?=some ch:=by rw [← HS.out,List.getElem?_append_left hlt];exact hc
    exact (List.getElem?_eq_some_iff.1 h9).2
   obtain ⟨k,hk⟩:∃ k,(G.take i).count 10=k:=⟨_,rfl⟩;rw [hk] at hst hle ⊢;have hk2:((k:Int) < 2)=True:=eq_true (by omega);by_cases h10:ch=10
   ·have f10:(((ch.toNat:Nat):Int) == 10)=true:=by rw [h10];rfl
    rw [if_pos h10] at hst;have HST:=Qh hst;clear hst hc hk;go_wp2_with fail;go_roundw
    case rel=>exact ⟨i+1,by go_num,by rw [HST.out];go_num,by omega,qa⟩
    case measure=>simp [intOf];omega
   ·have f10:(((ch.toNat:Nat):Int) == 10)=false:=by
     rw [beq_eq_false_iff_ne];intro e;exact h10 (UInt8.toNat.inj (by rw [show (10:UInt8).toNat=10 from rfl];omega))
    rw [if_neg h10,Nat.add_zero] at hst;have HST:=Qh hst;clear hst hc hk;go_wp2_with fail;go_roundw
    case rel=>exact ⟨i+1,by go_num,by simp [HST.out],by omega,qa⟩
    case measure=>simp [intOf];omega
  obtain rfl:i=G.length:=by omega
  have hk:(G.take G.length).count 10=2:=by rw [List.take_length];exact HCN.out.1
  rw [hk];have fge:((S.length:Int)≤(G.length:Int))=False:=eq_false (by omega);obtain ⟨k,hk9⟩:∃ k,X % T.length=k:=⟨_,rfl⟩;have hkT:k < T.length:=by rw [← hk9];exact Nat.mod_lt _ hTl
  obtain ⟨m,hm⟩:∃ m,G.length+k=m:=⟨_,rfl⟩;have e1:(S.length:Int) - (G.length:Int)=(T.length:Int):=by omega
  have hTz:((T.length:Int) == 0)=false:=by rw [beq_eq_false_iff_ne];omega
  have hm8:IntKind.i64.wrap ((G.length:Int)+(X:Int) % (T.length:Int))=(m:Int):=by
   have e2:(X:Int) % (T.length:Int)=(k:Int):=by rw [← hk9];simp
   rw [e2,IntKind.wrap_i64];omega
  have hmS:m < S.length:=by omega
  obtain ⟨ch,hc⟩:∃ ch,T[k]?=some ch:=⟨_,List.getElem?_eq_getElem hkT⟩;have hcS:S[m]?=some ch:=by rw [← HS.out,← hm,List.getElem?_append_right (by omega),Nat.add_sub_cancel_left];exact hc
  obtain ⟨w7,cap,hcv,q7,hlt7,hcell,hfr⟩:=l8 wa S;have c0:=hcell m ch hcS;have f0:=hfr m hmS;have hx:=lj ch b;obtain ⟨ch2,hch2⟩:∃ ch2,ch ^^^ b=ch2:=⟨_,rfl⟩;rw [hch2] at hx;have hsl:((S.set m ch2).length)=S.length:=List.length_set
  have hcv2:=run_convert_bytes_back (P:=Tryz.prog) (w7.setCell ⟨wa.heap.size,m,none⟩ (.int .u8 ((ch2.toNat:Nat):Int))) 47 9 5 ⟨wa.heap.size,0,none⟩ cap (S.set m ch2) Tryz.underlying47 Tryz.underlying5 Tryz.underlying9 (fun j hj=>by
   rw [rR,Nat.zero_add];by_cases hjm:j=m
   ·subst hjm
    rw [World.cell?_setCell_same _ _ _ c0];simp
   rw [World.cell?_setCell_other _ _ _ _ (by simp)];rw [List.length_set] at hj
   rw [hcell j S[j] (List.getElem?_eq_getElem hj),List.getElem_set_ne (fun h=>hjm h.symm)])
  rw [hsl] at hcv2;have hset:S.set m ch2=G ++ T.set k ch2:=by rw [← HS.out,← hm,List.set_append_right _ _ (by omega),Nat.add_sub_cancel_left]
  obtain ⟨S2,hS2⟩:∃ S2,S.set m ch2=S2:=⟨_,rfl⟩;rw [hS2] at hcv2 hsl hset;have hbad:cI (T.set k ch2)≠cI T:=rJ hkT (by rw [← hch2,(List.getElem?_eq_some_iff.1 hc).2];exact tu hb0);have HB:=Qh (And.intro hbad (And.intro hset hsl));have q8:Below w.heap.size w (w7.setCell ⟨wa.heap.size,m,none⟩ (.int .u8 ((ch2.toNat:Nat):Int))):=(af qa q7).setCell qa.size _;clear hSl hbad hset hsl hch2 hcell hfr hcS hc hk9 hm hS2 q7;go_wp2_with fail;have hU:=j6 (w7.setCell ⟨wa.heap.size,m,none⟩ (.int .u8 ((ch2.toNat:Nat):Int))) (T.set k ch2) (cI T) (gg T) HB.out.1 S2 (by rw [List.length_set,HQ0.out,HB.out.2.1]) (by rw [HB.out.2.2];exact hpl) (HTab.out.belw q8) (H6.out.belw q8) (HM.out.belw q8);generalize (w7.setCell ⟨wa.heap.size,m,none⟩ (.int .u8 ((ch2.toNat:Nat):Int)))=w8 at hU q8 ⊢;(with_reducible refine hU.mono ?_);rintro e' w9 ⟨rfl,hb9⟩;have q9:=af q8 hb9;clear hU;go_wp2_with fail;(with_reducible refine (uN w9 14).mono ?_);rintro e' w10 ⟨rfl,hb10⟩;have q10:=af q9 hb10;go_wp2;go_ret;exact ⟨rfl,q10⟩
end Go.Proofs.YtfilnhompchciaaGreatDoor
