import Derived.Test.YtndhgcfajlalhaaGreatDoorCards
import Derived.Test.YtndhgcfajlalhaaGreatDoorTie
import Derived.ProofKit
import Derived.WalkKit
import Derived.OpenShut
import Derived.Deep.DeepHandedRow
import Derived.Lib.LaidTab
import Derived.Shelf.Vars
import Derived.Deep.Slices
import Derived.SizedLaws
import Derived.ChangeMaps5
import Derived.Test.YtndhgcfajlalhaaGreatDoorCQ7
set_option linter.unusedVariables false
set_option maxHeartbeats 8000000
set_option maxRecDepth 100000
/- The arguments of a row opened: integers, fractions and turns that came in. -/
namespace Go.Proofs.YtndhgcfajlalhaaGreatDoor
open Go Go.RowKit Bn Go.ChangeShapes Go.WideShapes
attribute [local go_sem ↓] Go.wp_at_zero Go.wp_at_succ

theorem nH {H:Type}{enc:TypeId × Value->H}{W:World}{P:Program}(g:laidOutB P=true) {i:World}(hb:Below W.heap.size W i):∀ {ts:List TypeId}{d:List Value}{f:List (DataW H)}{c:List MemPlace},(ts.all fun t=>P.readableRec t&&decide (t<P.types.size))=true ->
 DataW.TrodAll enc P W 0 (fun _=>true) true ts d f c->DataW.TrodAll enc P i 0 (fun b=>decide (b<W.heap.size)) true ts d f c
 | [],[],[],_,_,h=>h
 | _::_,_::_,_::_,_,hr,h=>by
  have a:=h.lt;obtain ⟨p,q,k,j,e⟩:=h;rw [List.all_cons,Bool.and_eq_true,Bool.and_eq_true,decide_eq_true_eq] at hr;exact ⟨p,q,Below.trod g hr.1.1 hr.1.2 k hb (fun x l=>a x (by rw [e];exact List.mem_append_left _ l)),nH g hb hr.2 j,e⟩
 | [],[],_::_,_,_,h=>h.elim
 | [],_::_,_,_,_,h=>h.elim
 | _::_,[],_,_,_,h=>h.elim
 | _::_,_::_,[],_,_,h=>h.elim
theorem AE {H:Type}{enc:TypeId × Value->H}{W:World}{P:Program}{B:TypeId}{f:Func}{s:ChangeSpec}{l:World}{args:Array Value}{c:List (DataW H)}{before:List MemPlace}(o:laidOutB P=true) (hB:P.underlying B=some .bool)
 (j:DataW.Whole enc P f.params.toList s.vars false W args.toList c [] before) (k:s.vars=[]) (r:f.resultTypes=#[B]) (n:(f.params.toList.all fun t=>P.readableRec t&&decide (t<P.types.size))=true)
 (g:(s.fn H (c++[])).results=[.lit (.bool true)]) (a:(s.fn H (c++[])).args=c) (b:(s.fn H (c++[])).vars=[]) (hb:Below W.heap.size W l) :
 s.post enc P f false true false false W args (.bool true) l:=by
 have i:=j;obtain ⟨p,q,m,u,rfl,_,_⟩:=j;have d:=u;rw [k] at d;obtain ⟨_,rfl⟩:=trodVars_none d;refine ⟨c,[],_,[],p,[],i,?_,?_,?_,hb.frame _,fun h=>by cases h⟩
 ·rw [r,g]
  exact trodAll_mk1 (shut_bool hB _)
 ·rw [a]
  exact nH o hb n m
 rw [k,b];rfl
theorem qB {P:Program}{f:FuncId}{fn:Func}{s:ChangeSpec}{c:OpenClaim}
 (n:(c.wf (OpenSpec.ofChange s)&&laidOutB P&&mapsRowed P&&fn.params.all (P.readableRec ·)&&namedTie P c.named s.vars&&(c.stops==[])&&(P.stops==[])&&(c.knobs==[])&&(P.stopKnobs==[]))=true)
 (q:(c.inPlace==P.inPlace f)=true) (A:(c.unfollowed==P.unfollowed f)=true) (v:(c.recurses==P.recurses f)=true) (F:(c.named==P.varsNamed f)=true)
 (o:((c.maps==(fn.params.toList++s.plain.varTypes P).any (P.mapsRec ·))&&(c.ifaces==(fn.params.toList++s.plain.varTypes P).any (P.ifacesRec ·))&&(c.mapsOut==P.mapsAmong fn.resultTypes.toList) &&
  (c.loops==(fn.params.toList++s.plain.varTypes P).any (P.loopsFrom ·))&&(c.wideKeys==(fn.params.toList++s.plain.varTypes P++fn.resultTypes.toList).any (P.wideKeysFrom ·)) &&
  s.vars.all (P.varReadable ·)&&fn.resultTypes.all (fun t=>P.readableRec t&&decide (t<P.types.size))&&(c.ifacesOut==fn.resultTypes.toList.any (P.ifacesRec ·))&&(c.loopsOut==fn.resultTypes.toList.any (P.loopsFrom ·))&&(c.plainKeys==P.plainKeys)&&c.shortTexts.isNone&&P.stopsHeard&&P.mayEnter&&(c.lifted==P.liftsFinal)&&(P.make==some c.make)&&(c.kinds==(if c.domain.isEmpty then [] else fn.params.toList.map fun t=>match P.underlying t with | some (.int k)=>some k | _=>none))&&(c.pinned==c.pinnedBy) &&
  (c.veiled==(fn.params.toList++s.plain.varTypes P++fn.resultTypes.toList).any (P.veiledRec ·))&&c.veiledFits P fn.params.toList (fn.params.toList++s.plain.varTypes P++fn.resultTypes.toList))=true):joinedFacts P f fn s c=true:=by
 unfold joinedFacts;simp only [Bool.and_eq_true] at n o ⊢;obtain ⟨⟨⟨⟨⟨⟨⟨⟨B,K⟩,C⟩,G⟩,y⟩,w⟩,J⟩,r⟩,p⟩:=n;obtain ⟨⟨⟨⟨⟨⟨⟨⟨⟨⟨⟨⟨⟨⟨⟨⟨⟨⟨b0,D⟩,H⟩,u⟩,I⟩,b5⟩,E⟩,z⟩,L⟩,x⟩,g⟩,i⟩,m⟩,h⟩,b⟩,l⟩,a⟩,j⟩,d⟩:=o;exact ⟨⟨⟨⟨⟨⟨⟨⟨⟨⟨⟨⟨⟨⟨⟨⟨⟨⟨⟨⟨⟨⟨⟨⟨⟨⟨⟨⟨⟨⟨⟨B,K⟩,C⟩,G⟩,y⟩,w⟩,J⟩,r⟩,p⟩,q⟩,A⟩,v⟩,F⟩,b0⟩,D⟩,H⟩,u⟩,I⟩,b5⟩,E⟩,z⟩,L⟩,x⟩,g⟩,i⟩,m⟩,h⟩,b⟩,l⟩,a⟩,j⟩,d⟩
theorem F4 {i:Int}(h:(Lit.int .u8 i).wf=true):0<=i/\i<=255:=by simpa [Lit.wf,IntKind.min,IntKind.max,IntKind.signed,IntKind.bits] using h
section
variable {H:Type}{enc:TypeId × Value->H}{W:World}{base:Nat}
theorem AF {t:TypeId}{l:Array Field}{ts:List TypeId}{v:Value}(f:Tryz.prog.underlying t=some (.struct l)) (g:Tryz.prog.cellTypes Tryz.prog.depth t=some ts) (n:Tryz.prog.cellsOf t=ts.length) (h:Value.okWide Tryz.prog W .any base t v) :
 ∃ cs:Array Value,v=.agg cs/\cs.size=ts.length/\∀ (i:Nat) (v:Value) (u:TypeId),cs[i]?=some v->ts[i]?=some u->Cell.okWide Tryz.prog W .any base u v:=by
 unfold Value.okWide at h;rw [f] at h;obtain ⟨cs,rfl,b,m,a,_,o⟩:=h;rw [g] at a;injection a with e;subst e;rw [n] at b;refine ⟨cs,rfl,b,fun i v u j f=>?_⟩;obtain ⟨p,c,k⟩:=o i v j;have d:i<ts.length:=by rw [<- b];exact (Array.getElem?_eq_some_iff.1 j).1
 rw [Nat.mod_eq_of_lt d,f] at c;injection c with c;subst c;exact k
end
theorem qC {W:World}(h:W.ShapedOpen Tryz.prog):∃ m,W.cell? ⟨0,0,none⟩=some (.int .i64 m) :=
 Go.Proofs.cell_of_shapedOpen_int (P:=Tryz.prog) (g:=0) (t:=3) (zero:=#[.int .i64 0]) h (of_decide_eq_true (by kernel_rfl)) (by kernel_rfl) rfl (by kernel_rfl) (by kernel_rfl) Tryz.underlying3
theorem Fw : Tryz.prog.globalNamed "internal/strconv.uint64pow10" = some 3 := by kernel_rfl
theorem Ek:(Tryz.prog.globals[3]?).map (·.type)=some 242:=by kernel_rfl
theorem xg:Tryz.prog.cellsOf 242=20:=by kernel_rfl
theorem xh:Tryz.prog.cellsOf 179=1:=by kernel_rfl
theorem AG {H:Type}:(Rows.laid_internal_strconv_uint64pow10:DataW H)=Lib.tabData .u64 Lib.pow10Tab:=by kernel_rfl
theorem sH {rest : List (String × DataW Unit)} {W : World} (h : laidMet Tryz.prog (("math/bits.deBruijn32tab", Rows.laid_math_bits_deBruijn32tab)::("math/bits.deBruijn64tab", Rows.laid_math_bits_deBruijn64tab)::("internal/strconv.uint64pow10", Rows.laid_internal_strconv_uint64pow10)::rest) W) : Tab W := by
 obtain ⟨d,⟨_,_,_,_,_,_,_,_,_,_,⟨_,_,_,_,_,_,_,_,_,_,⟨g,t,cs,f,p,q,b,c,a,hd,_,_⟩,_⟩,_⟩,_,_⟩:=h;obtain rfl:=Option.some.inj (Fw.symm.trans b);obtain rfl:=Option.some.inj (Ek.symm.trans c);rw [AG] at hd;unfold Tab Lib.TabIs;rw [a,<- Lib.cells_of_tab Tryz.underlying242 Tryz.underlying179 xh xg hd]
noncomputable def low:Nat:=(World.holding Tryz.prog default ⟨#[],#[],[]⟩).heap.size
noncomputable def lr (os:Os):World :=
  let w0:=World.holding Tryz.prog os ⟨#[.cells #[.string ⟨#[118,97,108,117,101,32,111,117,116,32,111,102,32,114,97,110,103,101]⟩] 254,.cells #[.string ⟨#[105,110,118,97,108,105,100,32,115,121,110,116,97,120]⟩] 254],#[],[]⟩
  { w0 with heap:=(((((((w0.heap.modify 3 fun
      | .cells _ t frozen=>.cells (#[.int .u64 1,.int .u64 10,.int .u64 100,.int .u64 1000,.int .u64 10000,.int .u64 100000,.int .u64 1000000,.int .u64 10000000,.int .u64 100000000,.int .u64 1000000000,.int .u64 10000000000,.int .u64 100000000000,.int .u64 1000000000000,.int .u64 10000000000000,.int .u64 100000000000000,.int .u64 1000000000000000,.int .u64 10000000000000000,.int .u64 100000000000000000,.int .u64 1000000000000000000,.int .u64 10000000000000000000]) t frozen
      | o=>o).modify 6 fun
      | .cells _ t frozen=>.cells (#[.int .u8 0,.int .u8 1,.int .u8 28,.int .u8 2,.int .u8 29,.int .u8 14,.int .u8 24,.int .u8 3,.int .u8 30,.int .u8 22,.int .u8 20,.int .u8 15,.int .u8 25,.int .u8 17,.int .u8 4,.int .u8 8,.int .u8 31,.int .u8 27,.int .u8 13,.int .u8 23,.int .u8 21,.int .u8 19,.int .u8 16,.int .u8 7,.int .u8 26,.int .u8 12,.int .u8 18,.int .u8 6,.int .u8 11,.int .u8 5,.int .u8 10,.int .u8 9]) t frozen
      | o=>o).modify 7 fun
      | .cells _ t frozen=>.cells (#[.int .u8 0,.int .u8 1,.int .u8 56,.int .u8 2,.int .u8 57,.int .u8 49,.int .u8 28,.int .u8 3,.int .u8 61,.int .u8 58,.int .u8 42,.int .u8 50,.int .u8 38,.int .u8 29,.int .u8 17,.int .u8 4,.int .u8 62,.int .u8 47,.int .u8 59,.int .u8 36,.int .u8 45,.int .u8 43,.int .u8 51,.int .u8 22,.int .u8 53,.int .u8 39,.int .u8 33,.int .u8 30,.int .u8 24,.int .u8 18,.int .u8 12,.int .u8 5,.int .u8 63,.int .u8 55,.int .u8 48,.int .u8 27,.int .u8 60,.int .u8 41,.int .u8 37,.int .u8 16,.int .u8 46,.int .u8 35,.int .u8 44,.int .u8 21,.int .u8 52,.int .u8 32,.int .u8 23,.int .u8 11,.int .u8 54,.int .u8 26,.int .u8 40,.int .u8 15,.int .u8 34,.int .u8 20,.int .u8 31,.int .u8 10,.int .u8 25,.int .u8 14,.int .u8 19,.int .u8 9,.int .u8 13,.int .u8 8,.int .u8 7,.int .u8 6]) t frozen
      | o=>o).modify 5 fun
      | .cells _ t frozen=>.cells (#[.int .u8 128,.int .u8 191,.int .u8 160,.int .u8 191,.int .u8 128,.int .u8 159,.int .u8 144,.int .u8 191,.int .u8 128,.int .u8 143,.int .u8 0,.int .u8 0,.int .u8 0,.int .u8 0,.int .u8 0,.int .u8 0,.int .u8 0,.int .u8 0,.int .u8 0,.int .u8 0,.int .u8 0,.int .u8 0,.int .u8 0,.int .u8 0,.int .u8 0,.int .u8 0,.int .u8 0,.int .u8 0,.int .u8 0,.int .u8 0,.int .u8 0,.int .u8 0]) t frozen
      | o=>o).modify 4 fun
      | .cells _ t frozen=>.cells ((Go.Pinned.utf8FirstZ.map fun z:Nat=>Value.int .u8 (z:Int)).toArray) t frozen
      | o=>o).modify 2 fun
      | .cells _ t frozen=>.cells (#[.iface 252 (.pointer (some ⟨low,0,none⟩))]) t frozen
      | o=>o).modify 1 fun
      | .cells _ t frozen=>.cells (#[.iface 252 (.pointer (some ⟨low+1,0,none⟩))]) t frozen
      | o=>o) }
theorem AH:ownKnob Tryz.prog.godebug=none:=by kernel_rfl
theorem AI:laidOutB Tryz.prog=true:=by kernel_rfl
section
variable {H:Type}{enc:TypeId × Value->H}{W:World}
theorem pf {a:Addr}{v:Value}(h:W.cell? a=some v):∃ g o,a=⟨g,o,none⟩/\g<W.heap.size:=by
 obtain ⟨g,o,s⟩:=a;unfold World.cell? at h;dsimp only at h;split at h
 ·rename_i c _ _ hb
  cases s with
  | none=>exact ⟨g,o,rfl,lt_of_block hb⟩
  | some _=>simp at h
 cases h
def Szd (t:TypeId) (d:DataW H):Prop:=∀ n∈DataW.weights Tryz.prog t d,n<=reachBytes
theorem Szd.field {t:TypeId}{b:Array Field}{a:List (DataW H × List MemPlace)}(k:Tryz.prog.underlying t=some (.struct b)) (h:Szd t (.agg (a.map (·.1)))) {i:Nat}{f:Field}{y:DataW H × List MemPlace}(c:b[i]?=some f) (g:a[i]?=some y):Szd f.type y.1:=by
 intro n l;refine h n ?_;rw [DataW.weights,k];exact DataW.weights_mem_each (j:=i) (t:=f.type) (d:=y.1) (by rw [List.getElem?_map,Array.getElem?_toList,c];rfl) (by rw [List.getElem?_map,g];rfl) n l
theorem gM {P:Program}{e:TypeId}:∀ {a:List (DataW H)}{d:DataW H},d∈a->∀ n∈DataW.weights P e d,n∈DataW.weightsAll P e a
 | x::a,d,hd,n,hn=>by
  rw [DataW.weightsAll,List.mem_append];rcases List.mem_cons.1 hd with rfl | hd
  ·exact .inl hn
  exact .inr (gM hd n hn)
 | [],_,hd,_,_=>by cases hd
theorem Szd.elem {t e:TypeId}{l a:List (DataW H)}(b:Tryz.prog.underlying t=some (.slice e)) (h:Szd t (.slice l a)) {d:DataW H}(hd:d∈l):Szd e d:=by
 intro n c;refine h n ?_;rw [DataW.weights,b];exact List.mem_cons_of_mem _ (List.mem_append_left _ (gM hd n c))
theorem Szd.room {t e:TypeId}{l a:List (DataW H)}(b:Tryz.prog.underlying t=some (.slice e)) (h:Szd t (.slice l a)):(l.length+a.length)*Tryz.prog.bytesOf e<=reachBytes:=by
 refine h _ ?_;rw [DataW.weights,b];exact List.mem_cons_self
theorem Szd.str {t:TypeId}{l:List UInt8}(h:Szd t (.lit (.string l):DataW H)):l.length<=reachBytes:=h _ (by simp [DataW.weights])
theorem El {ts:List TypeId}{a:List (DataW H)}(h:(DataW.weightsEach Tryz.prog ts a).all (·<=reachBytes)=true) {j:Nat}{t:TypeId}{d:DataW H}(b:ts[j]?=some t) (hd:a[j]?=some d):Szd t d:=fun n c=>by simpa using List.all_eq_true.1 h n (DataW.weights_mem_each b hd n c)
theorem Em {g o i:Nat}:(⟨g,o,none⟩:Addr).add i=⟨g,o+i,none⟩:=add_plain g o i
theorem nI {v:Value}{fuel:Nat}{x:DataW H × List MemPlace}(J:DataW.trod enc Tryz.prog W 0 (fun _=>true) true fuel 52 [v]=some x) (s:Szd 52 x.1) :
 ∃ A n c l,v=.slice A n c/\Wd W A n c l/\n<=reachBytes:=by
 rcases open_ints Tryz.underlying52 Tryz.underlying173 (by kernel_rfl) J with ⟨h,_⟩ | ⟨a,len,cap,zs,h,_,L,I,r,N,E,p⟩
 ·injection h with h _
  exact ⟨none,0,0,[],h,Wd.nil_ W,Nat.zero_le _⟩
 injection h with h _;subst h;rw [N] at s;have w:=s.room Tryz.underlying52;have u:Tryz.prog.bytesOf 173=4:=by kernel_rfl
 rw [u] at w;have s:zs.length=cap:=by simpa using r
 have t:len<=reachBytes:=by
  have:(lits (H:=H) .u32 (zs.take len)).length=len:=by simp [lits];omega
  omega
 have B:∀ i,i<zs.length->0<=zs.getD i 0/\zs.getD i 0<=4294967295:=by
  intro i m;have d:=p (zs.getD i 0) (by rw [List.getD_eq_getElem?_getD,List.getElem?_eq_getElem m];simp);simpa [Lit.wf,IntKind.min,IntKind.max,IntKind.signed,IntKind.bits] using d
 refine ⟨some a,len,cap,(zs.take len).map Int.toNat,rfl,⟨?_,?_,L,fun P=>?_⟩,t⟩
 ·intro y M
  obtain ⟨z,q,rfl⟩:=List.mem_map.1 M;obtain ⟨i,m,D⟩:=List.getElem_of_mem q;have j:i<zs.length:=by rw [List.length_take] at m;omega
  have d:=B i j;rw [List.getD_eq_getElem?_getD,List.getElem?_eq_getElem j] at d;rw [List.getElem_take] at D;simp only [Option.getD_some] at d;rw [D] at d;omega
 ·rw [List.length_map,List.length_take];omega
 have f:=E 0 (by omega);have F:a.add 0=a:=by simp [Addr.add]
 rw [F] at f;obtain ⟨g,o,rfl,_⟩:=pf f;have b:=f;unfold World.cell? at b;dsimp only at b;split at b
 ·rename_i cur K fr hb
  have C:fw W g cur fr:=⟨K,.inr (CR (i:=o) (k:=.u32) (z:=zs.getD 0 0) (by simpa using b)),hb⟩;refine ⟨g,o,cur,fr,rfl,C,fun i m=>?_⟩;have d:=E i (by omega);have G:=B i (by omega);rw [Em,C.cell] at d;rw [d]
  have O:wd ((zs.take len).map Int.toNat) i=(zs.getD i 0).toNat:=by
   unfold wd;rw [List.getD_eq_getElem?_getD,List.getElem?_map,List.getElem?_take,if_pos m,List.getD_eq_getElem?_getD];rcases zs[i]? with _ | z <;> rfl
  rw [O,Int.toNat_of_nonneg G.1]
 cases b
theorem tQ:Tryz.prog.cellsOf 4=1:=by kernel_rfl
theorem jg:Tryz.prog.cellsOf 3=1:=by kernel_rfl
theorem eJ:Tryz.prog.cellsOf 9=1:=by kernel_rfl
theorem sI:Tryz.prog.cellsOf 52=1:=by kernel_rfl
theorem xi:Tryz.prog.cellsOf 54=3:=by kernel_rfl
theorem au {α:Type}{a:List α}{i:Nat}(h:i<a.length):a[i]?=some a[i]:=List.getElem?_eq_getElem h
theorem sJ {k d v2:Value}{fuel:Nat}{x:DataW H × List MemPlace}(s:DataW.trod enc Tryz.prog W 0 (fun _=>true) true fuel 54 [k,d,v2]=some x) (f:Szd 54 x.1) :
 ∃ b A n c D m e r,k=.bool b/\d=.slice A n c/\v2=.slice D m e/\QD W b A n c D m e r reachBytes:=by
 obtain ⟨a,n,_,t,_,h,g⟩:=DataW.trod_struct Tryz.underlying54 s;rw [t] at f;have j:DataW.trod enc Tryz.prog W 0 (fun _=>true) true n 4 (List.take (Tryz.prog.cellsOf 4) [k,d,v2])=a[0]?:=g 0 _ rfl;have f1:DataW.trod enc Tryz.prog W 0 (fun _=>true) true n 52 (List.take (Tryz.prog.cellsOf 52) [d,v2])=a[1]?:=g 1 _ rfl;have f2:DataW.trod enc Tryz.prog W 0 (fun _=>true) true n 52 (List.take (Tryz.prog.cellsOf 52) [v2])=a[2]?:=g 2 _ rfl;rw [tQ] at j;rw [sI] at f1 f2;have v:a.length=3:=h;rw [au (show 0<a.length by omega)] at j;have C:=f.field Tryz.underlying54 (i:=0) rfl (au (show 0<a.length by omega));rw [au (show 1<a.length by omega)] at f1;have y:=f.field Tryz.underlying54 (i:=1) rfl (au (show 1<a.length by omega));rw [au (show 2<a.length by omega)] at f2;have u:=f.field Tryz.underlying54 (i:=2) rfl (au (show 2<a.length by omega));obtain ⟨b,hb,_⟩:=DataW.trod_bool Tryz.underlying4 j;obtain ⟨A,w,q,l,rfl,B,o⟩:=nI f1 y;obtain ⟨D,m,e,z,rfl,p,k2⟩:=nI f2 u;injection hb with hb _;exact ⟨b,A,w,q,D,m,e,⟨b,l,z⟩,hb,rfl,rfl,rfl,B,p,o,k2⟩
theorem iw {v:Value}{fuel:Nat}{x:DataW H × List MemPlace}(c:DataW.trod enc Tryz.prog W 0 (fun _=>true) true fuel 9 [v]=some x) (b:Szd 9 x.1):∃ t:List UInt8,v=aa t/\NmL t:=by
 obtain ⟨s,a,d,_⟩:=DataW.trod_string Tryz.underlying9 c;injection a with a _;subst a;obtain ⟨t,rfl⟩:∃ t:List UInt8,s=⟨t.toArray⟩:=⟨s.data.toList,by simp⟩;refine ⟨t,rfl,?_⟩;rw [d] at b;have f:t.length<=reachBytes:=b.str;have g:=reachBytes_lt;unfold NmL;omega
theorem kJ {α:Type} [Inhabited α] (F:World->Nat->Nat->α->Prop) {t e:TypeId}(s:Nat) (J:Tryz.prog.underlying t=some (.slice e)) (U:Tryz.prog.cellsOf e=s) (z:0<s)
 (one:∀ (fuel:Nat) (cs:List Value) (y:DataW H × List MemPlace) (g o:Nat),cs.length=s->(∀ i,i<s->W.cell? ⟨g,o+i,none⟩=cs[i]?)->DataW.trod enc Tryz.prog W 0 (fun _=>true) true fuel e cs=some y->Szd e y.1->∃ a,F W g o a)
 {v:Value}{fuel:Nat}{x:DataW H × List MemPlace}(h:DataW.trod enc Tryz.prog W 0 (fun _=>true) true fuel t [v]=some x) (K:Szd t x.1):∃ A n c l,v=.slice A n c/\SlS F s W A n c l:=by
 rcases Go.Deep.open_slice J h with ⟨k,_⟩ | ⟨a,len,cap,m,n,D,Y,k,_,S,X,w,r,G⟩
 ·injection k with k _
  exact ⟨none,0,0,[],k,⟨rfl,Qr,fun h=>absurd h (by omega)⟩⟩
 injection k with k _;subst k;rw [r] at K;have E:m=cap:=by simpa using w
 subst E;rw [U] at G;rcases Nat.eq_zero_or_pos len with I | I
 ·subst I
  exact ⟨some a,0,m,[],rfl,⟨rfl,Nat.zero_le _,fun h=>absurd h (by omega)⟩⟩
 obtain ⟨B,u,_⟩:=G 0 (by omega);obtain ⟨_,M,C⟩:=World.cells?_some u;have b:=C 0 z;rw [au (show 0<B.length by omega)] at b;have L:(a.add (0*s)).add 0=a:=by simp [Addr.add]
 rw [L] at b;obtain ⟨g,o,rfl,O⟩:=pf b
 obtain ⟨f,R⟩:=Go.Deep.choose_lt (n:=len) (p:=fun i a=>F W g (o+i*s) a) (fun i q=>by
  obtain ⟨cs,Q,N⟩:=G i (by omega);obtain ⟨_,T,P⟩:=World.cells?_some Q;refine one n cs _ g (o+i*s) T (fun j V=>?_) N (K.elem J (List.mem_map.2 ⟨i,List.mem_range.2 q,rfl⟩))
  rw [<- P j V,Em,Em])
 refine ⟨_,len,m,(List.range len).map f,rfl,⟨by simp,S,fun _=>⟨g,o,rfl,O,fun i a d=>?_⟩⟩⟩;rw [List.getElem?_map] at d;rcases Nat.lt_or_ge i len with q | q
 ·rw [List.getElem?_range q] at d
  injection d with d;subst d;exact R i q
 rw [List.getElem?_eq_none (by simpa using q)] at d;cases d
instance:Inhabited MarkL:=⟨⟨[],⟨false,[],[]⟩,⟨false,[],[]⟩⟩⟩
instance:Inhabited BodyL:=⟨⟨[],[]⟩⟩
instance:Inhabited aD:=⟨⟨[],0,0,0,0,0,0⟩⟩
instance:Inhabited aE:=⟨⟨[],0⟩⟩
theorem AJ (fuel:Nat) (cs:List Value) (y:DataW H × List MemPlace) (g o:Nat) (I:cs.length=7) (f:∀ i,i<7->W.cell? ⟨g,o+i,none⟩=cs[i]?) (w:DataW.trod enc Tryz.prog W 0 (fun _=>true) true fuel 56 cs=some y) (h:Szd 56 y.1):∃ a,cT reachBytes W g o a:=by
 match cs,I with
 | [v0,v1,v2,v3,v4,v5,v6],_ =>
  obtain ⟨d,n,_,L,_,j,l⟩:=DataW.trod_struct Tryz.underlying56 w;rw [L] at h;have k:DataW.trod enc Tryz.prog W 0 (fun _=>true) true n 9 (List.take (Tryz.prog.cellsOf 9) [v0,v1,v2,v3,v4,v5,v6])=d[0]?:=l 0 _ rfl;have f1:DataW.trod enc Tryz.prog W 0 (fun _=>true) true n 54 (List.take (Tryz.prog.cellsOf 54) [v1,v2,v3,v4,v5,v6])=d[1]?:=l 1 _ rfl;have f2:DataW.trod enc Tryz.prog W 0 (fun _=>true) true n 54 (List.take (Tryz.prog.cellsOf 54) [v4,v5,v6])=d[2]?:=l 2 _ rfl;rw [eJ] at k;rw [xi] at f1 f2;have P:d.length=3:=j;rw [au (show 0<d.length by omega)] at k;have N:=h.field Tryz.underlying56 (i:=0) rfl (au (show 0<d.length by omega));rw [au (show 1<d.length by omega)] at f1;have z:=h.field Tryz.underlying56 (i:=1) rfl (au (show 1<d.length by omega));rw [au (show 2<d.length by omega)] at f2;have x:=h.field Tryz.underlying56 (i:=2) rfl (au (show 2<d.length by omega));obtain ⟨nm,rfl,M⟩:=iw k N;obtain ⟨b,A,Q,c,D,m,e,r,rfl,rfl,rfl,C⟩:=sJ f1 z;obtain ⟨v,G,p,u,K,O,F,s,rfl,rfl,rfl,t⟩:=sJ f2 x;have B:=f 0 (by omega);have q:=f 1 (by omega);have k2:=f 2 (by omega);have k3:=f 3 (by omega);have R:=f 4 (by omega);have E:=f 5 (by omega);have J:=f 6 (by omega);exact ⟨⟨nm,r,s⟩,B,⟨b,A,Q,c,D,m,e,q,k2,k3,C⟩,⟨v,G,p,u,K,O,F,R,E,J,t⟩,M⟩
theorem AK (fuel:Nat) (cs:List Value) (y:DataW H × List MemPlace) (g o:Nat) (p:cs.length=2) (k:∀ i,i<2->W.cell? ⟨g,o+i,none⟩=cs[i]?) (q:DataW.trod enc Tryz.prog W 0 (fun _=>true) true fuel 51 cs=some y) (h:Szd 51 y.1):∃ a,dV reachBytes W g o a:=by
 match cs,p with
 | [v0,v1],_ =>
  obtain ⟨b,n,_,r,_,d,j⟩:=DataW.trod_struct Tryz.underlying51 q;rw [r] at h;have f:DataW.trod enc Tryz.prog W 0 (fun _=>true) true n 9 (List.take (Tryz.prog.cellsOf 9) [v0,v1])=b[0]?:=j 0 _ rfl;have f1:DataW.trod enc Tryz.prog W 0 (fun _=>true) true n 49 (List.take (Tryz.prog.cellsOf 49) [v1])=b[1]?:=j 1 _ rfl;have c1:Tryz.prog.cellsOf 49=1:=by kernel_rfl
  rw [eJ] at f;rw [c1] at f1;have u:b.length=2:=d;rw [au (show 0<b.length by omega)] at f;have t:=h.field Tryz.underlying51 (i:=0) rfl (au (show 0<b.length by omega));rw [au (show 1<b.length by omega)] at f1;have w:=h.field Tryz.underlying51 (i:=1) rfl (au (show 1<b.length by omega));obtain ⟨nm,rfl,s⟩:=iw f t;obtain ⟨A,v,c,l,rfl,z⟩:=kJ (cT reachBytes) 7 Tryz.underlying49 (by kernel_rfl) (by decide) AJ f1 w;have x:=k 0 (by omega);have m:=k 1 (by omega);exact ⟨⟨nm,l⟩,A,v,c,x,m,z,s⟩
theorem dp {v:Value}{fuel:Nat}{x:DataW H × List MemPlace}(b:DataW.trod enc Tryz.prog W 0 (fun _=>true) true fuel 3 [v]=some x):∃ i:Int,v=.int .i64 i:=by
 obtain ⟨i,a,_⟩:=DataW.trod_int Tryz.underlying3 b;injection a with a _;exact ⟨i,a⟩
theorem xj (fuel:Nat) (cs:List Value) (y:DataW H × List MemPlace) (g o:Nat) (t:cs.length=7) (f:∀ i,i<7->W.cell? ⟨g,o+i,none⟩=cs[i]?) (p:DataW.trod enc Tryz.prog W 0 (fun _=>true) true fuel 81 cs=some y) (c:Szd 81 y.1):∃ a,ic W g o a:=by
 match cs,t with
 | [v0,v1,v2,v3,v4,v5,v6],_ =>
  obtain ⟨b,n,_,z,_,h,d⟩:=DataW.trod_struct Tryz.underlying81 p;rw [z] at c;have j:DataW.trod enc Tryz.prog W 0 (fun _=>true) true n 9 (List.take (Tryz.prog.cellsOf 9) [v0,v1,v2,v3,v4,v5,v6])=b[0]?:=d 0 _ rfl;have f1:DataW.trod enc Tryz.prog W 0 (fun _=>true) true n 3 (List.take (Tryz.prog.cellsOf 3) [v1,v2,v3,v4,v5,v6])=b[1]?:=d 1 _ rfl;have f2:DataW.trod enc Tryz.prog W 0 (fun _=>true) true n 3 (List.take (Tryz.prog.cellsOf 3) [v2,v3,v4,v5,v6])=b[2]?:=d 2 _ rfl;have f3:DataW.trod enc Tryz.prog W 0 (fun _=>true) true n 3 (List.take (Tryz.prog.cellsOf 3) [v3,v4,v5,v6])=b[3]?:=d 3 _ rfl;have f4:DataW.trod enc Tryz.prog W 0 (fun _=>true) true n 3 (List.take (Tryz.prog.cellsOf 3) [v4,v5,v6])=b[4]?:=d 4 _ rfl;have k:DataW.trod enc Tryz.prog W 0 (fun _=>true) true n 3 (List.take (Tryz.prog.cellsOf 3) [v5,v6])=b[5]?:=d 5 _ rfl;have f6:DataW.trod enc Tryz.prog W 0 (fun _=>true) true n 3 (List.take (Tryz.prog.cellsOf 3) [v6])=b[6]?:=d 6 _ rfl;rw [eJ] at j;rw [jg] at f1 f2 f3 f4 k f6;have D:b.length=7:=h;rw [au (show 0<b.length by omega)] at j;have A:=c.field Tryz.underlying81 (i:=0) rfl (au (show 0<b.length by omega));rw [au (show 1<b.length by omega)] at f1;have J:=c.field Tryz.underlying81 (i:=1) rfl (au (show 1<b.length by omega));rw [au (show 2<b.length by omega)] at f2;have G:=c.field Tryz.underlying81 (i:=2) rfl (au (show 2<b.length by omega));rw [au (show 3<b.length by omega)] at f3;have L:=c.field Tryz.underlying81 (i:=3) rfl (au (show 3<b.length by omega));rw [au (show 4<b.length by omega)] at f4;have I:=c.field Tryz.underlying81 (i:=4) rfl (au (show 4<b.length by omega));rw [au (show 5<b.length by omega)] at k;have F:=c.field Tryz.underlying81 (i:=5) rfl (au (show 5<b.length by omega));rw [au (show 6<b.length by omega)] at f6;have K:=c.field Tryz.underlying81 (i:=6) rfl (au (show 6<b.length by omega));obtain ⟨nm,rfl,B⟩:=iw j A;obtain ⟨C,rfl⟩:=dp f1;obtain ⟨m,rfl⟩:=dp f2;obtain ⟨u,rfl⟩:=dp f3;obtain ⟨v,rfl⟩:=dp f4;obtain ⟨q,rfl⟩:=dp k;obtain ⟨x,rfl⟩:=dp f6;have r:=f 0 (by omega);have l:=f 1 (by omega);have k2:=f 2 (by omega);have k3:=f 3 (by omega);have E:=f 4 (by omega);have s:=f 5 (by omega);have w:=f 6 (by omega);exact ⟨⟨nm,C,m,u,v,q,x⟩,r,l,k2,k3,E,s,w,B⟩
theorem tR (fuel:Nat) (cs:List Value) (y:DataW H × List MemPlace) (g o:Nat) (p:cs.length=2) (j:∀ i,i<2->W.cell? ⟨g,o+i,none⟩=cs[i]?) (l:DataW.trod enc Tryz.prog W 0 (fun _=>true) true fuel 86 cs=some y) (f:Szd 86 y.1):∃ a,ig W g o a:=by
 match cs,p with
 | [v0,v1],_ =>
  obtain ⟨b,n,_,q,_,c,h⟩:=DataW.trod_struct Tryz.underlying86 l;rw [q] at f;have d:DataW.trod enc Tryz.prog W 0 (fun _=>true) true n 9 (List.take (Tryz.prog.cellsOf 9) [v0,v1])=b[0]?:=h 0 _ rfl;have f1:DataW.trod enc Tryz.prog W 0 (fun _=>true) true n 3 (List.take (Tryz.prog.cellsOf 3) [v1])=b[1]?:=h 1 _ rfl;rw [eJ] at d;rw [jg] at f1;have u:b.length=2:=c;rw [au (show 0<b.length by omega)] at d;have s:=f.field Tryz.underlying86 (i:=0) rfl (au (show 0<b.length by omega));rw [au (show 1<b.length by omega)] at f1;have v:=f.field Tryz.underlying86 (i:=1) rfl (au (show 1<b.length by omega));obtain ⟨nm,rfl,r⟩:=iw d s;obtain ⟨t,rfl⟩:=dp f1;have m:=j 0 (by omega);have k:=j 1 (by omega);exact ⟨⟨nm,t⟩,m,k,r⟩
theorem xk {k f v2 v3:Value}{fuel:Nat}{x:DataW H × List MemPlace}(m:DataW.trod enc Tryz.prog W 0 (fun _=>true) true fuel 26 [k,f,v2,v3]=some x) (b:Szd 26 x.1) :
 ∃ A n c B p d C q e L,k=aa L.name/\f=.slice A n c/\v2=.slice B p d/\v3=.slice C q e/\LkS reachBytes W A n c B p d C q e L:=by
 obtain ⟨a,n,_,v,_,h,g⟩:=DataW.trod_struct Tryz.underlying26 m;rw [v] at b;have j:DataW.trod enc Tryz.prog W 0 (fun _=>true) true n 9 (List.take (Tryz.prog.cellsOf 9) [k,f,v2,v3])=a[0]?:=g 0 _ rfl;have f1:DataW.trod enc Tryz.prog W 0 (fun _=>true) true n 22 (List.take (Tryz.prog.cellsOf 22) [f,v2,v3])=a[1]?:=g 1 _ rfl;have f2:DataW.trod enc Tryz.prog W 0 (fun _=>true) true n 23 (List.take (Tryz.prog.cellsOf 23) [v2,v3])=a[2]?:=g 2 _ rfl;have f3:DataW.trod enc Tryz.prog W 0 (fun _=>true) true n 24 (List.take (Tryz.prog.cellsOf 24) [v3])=a[3]?:=g 3 _ rfl;have c1:Tryz.prog.cellsOf 22=1:=by kernel_rfl
 have c2:Tryz.prog.cellsOf 23=1:=by kernel_rfl
 have c3:Tryz.prog.cellsOf 24=1:=by kernel_rfl
 rw [eJ] at j;rw [c1] at f1;rw [c2] at f2;rw [c3] at f3;have z:a.length=4:=h;rw [au (show 0<a.length by omega)] at j;have y:=b.field Tryz.underlying26 (i:=0) rfl (au (show 0<a.length by omega));rw [au (show 1<a.length by omega)] at f1;have r:=b.field Tryz.underlying26 (i:=1) rfl (au (show 1<a.length by omega));rw [au (show 2<a.length by omega)] at f2;have o:=b.field Tryz.underlying26 (i:=2) rfl (au (show 2<a.length by omega));rw [au (show 3<a.length by omega)] at f3;have u:=b.field Tryz.underlying26 (i:=3) rfl (au (show 3<a.length by omega));obtain ⟨nm,rfl,w⟩:=iw j y;obtain ⟨A,D,c,l1,rfl,s⟩:=kJ (dV reachBytes) 2 Tryz.underlying22 (by kernel_rfl) (by decide) AK f1 r;obtain ⟨B,p,d,l2,rfl,l⟩:=kJ ic 7 Tryz.underlying23 (by kernel_rfl) (by decide) xj f2 o;obtain ⟨C,q,e,l3,rfl,t⟩:=kJ ig 2 Tryz.underlying24 (by kernel_rfl) (by decide) tR f3 u;exact ⟨A,D,c,B,p,d,C,q,e,⟨nm,l1,l2,l3⟩,rfl,rfl,rfl,rfl,w,s,l,t⟩
variable {base:Nat}
theorem xl {v:Value}{d:DataW H}{p:List MemPlace}(a:Value.okWide Tryz.prog W .any base 26 v) (h:DataW.Trod enc Tryz.prog W 0 (fun _=>true) true 26 v d p) (g:Szd 26 d) :
 ∃ A n c B p d C q e L,v=.agg #[aa L.name,.slice A n c,.slice B p d,.slice C q e]/\LkS reachBytes W A n c B p d C q e L:=by
 obtain ⟨cs,rfl,b,_⟩:=AF (ts:=[9,22,23,24]) Tryz.underlying26 (by kernel_rfl) (by kernel_rfl) a;obtain ⟨fuel,h⟩:=h;obtain ⟨l⟩:=cs
 match l,b with
 | [v0,v1,v2,v3],_ =>
  obtain ⟨A,n,c,B,p,d,C,q,e,L,rfl,rfl,rfl,rfl,f⟩:=xk h g;exact ⟨A,n,c,B,p,d,C,q,e,L,rfl,f⟩
end
end Go.Proofs.YtndhgcfajlalhaaGreatDoor
