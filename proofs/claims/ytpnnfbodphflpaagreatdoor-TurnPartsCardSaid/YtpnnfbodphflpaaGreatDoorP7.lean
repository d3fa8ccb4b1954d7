/- Part P7: lemmas and walks that the claim rests on. No claim is made here. -/
import Derived.Test.YtpnnfbodphflpaaGreatDoorCards
import Derived.Test.YtpnnfbodphflpaaGreatDoorTie
import Derived.ProofKit
import Derived.WalkKit
import Derived.OpenShut
import Derived.Deep.DeepHandedRow
import Derived.Lib.LaidTab
import Derived.Test.YtpnnfbodphflpaaGreatDoorP6
set_option linter.unusedVariables false
/- The arguments of a row opened: integers, fractions and turns that came in. -/
namespace Go.Proofs.YtpnnfbodphflpaaGreatDoor
open Go Go.RowKit Bn Go.ChangeShapes Go.WideShapes

/-- All arguments read behind the call as they did. -/
theorem args_again {H : Type} {enc : TypeId × Value → H} {W : World} {P : Program} (hl : laidOutB P = true) {W' : World} (hb : Below W.heap.size W W') : ∀ {ts : List TypeId} {vs : List Value} {ds : List (DataW H)} {ps : List MemPlace}, (ts.all fun t => P.readableRec t && decide (t < P.types.size)) = true →
    DataW.TrodAll enc P W 0 (fun _ => true) true ts vs ds ps → DataW.TrodAll enc P W' 0 (fun b => decide (b < W.heap.size)) true ts vs ds ps
  | [], [], [], _, _, h => h
  | _ :: _, _ :: _, _ :: _, _, hr, h => by
    have hlt := h.lt
    obtain ⟨p, q, h1, h2, e⟩ := h
    rw [List.all_cons, Bool.and_eq_true, Bool.and_eq_true, decide_eq_true_eq] at hr
    exact ⟨p, q, Below.trod hl hr.1.1 hr.1.2 h1 hb (fun x hx => hlt x (by rw [e]; exact List.mem_append_left _ hx)), args_again hl hb hr.2 h2, e⟩
  | [], [], _ :: _, _, _, h => h.elim
  | [], _ :: _, _, _, _, h => h.elim
  | _ :: _, [], _, _, _, h => h.elim
  | _ :: _, _ :: _, [], _, _, h => h.elim
/-- A law that returns true and turns nothing that was there. -/
theorem law_post {H : Type} {enc : TypeId × Value → H} {W : World} {P : Program} {B : TypeId} {f : Func} {s : ChangeSpec} {W' : World} {args : Array Value} {ds : List (DataW H)} {before : List MemPlace} (hl : laidOutB P = true) (hB : P.underlying B = some .bool)
    (hW : DataW.Whole enc P f.params.toList s.vars false W args.toList ds [] before) (hv : s.vars = []) (hr : f.resultTypes = #[B]) (hp : (f.params.toList.all fun t => P.readableRec t && decide (t < P.types.size)) = true)
    (hres : (s.fn H (ds ++ [])).results = [.lit (.bool true)]) (hargs : (s.fn H (ds ++ [])).args = ds) (hvars : (s.fn H (ds ++ [])).vars = []) (hb : Below W.heap.size W W') :
    s.post enc P f false true false false W args (.bool true) W' := by
  have hW' := hW
  obtain ⟨p, q, hA, hV, rfl, _, _⟩ := hW
  have hV' := hV
  rw [hv] at hV'
  obtain ⟨_, rfl⟩ := trodVars_none hV'
  refine ⟨ds, [], _, [], p, [], hW', ?_, ?_, ?_, hb.frame _, fun h => by cases h⟩
  · rw [hr, hres]
    exact trodAll_mk1 (shut_bool hB _)
  · rw [hargs]
    exact args_again hl hb hp hA
  · rw [hv, hvars]
    rfl
/-- Nothing in a type's layout fits. -/
def bareB (p : Program) (fits : TypeId → Bool) : Nat → TypeId → Bool
  | 0, _ => true
  | d + 1, e => !fits e && match p.underlying e with
    | some (.struct fs) => fs.all fun f => bareB p fits d f.type
    | some (.array _ e') => bareB p fits d e'
    | _ => true
theorem rowAt_bare {p : Program} {fits : TypeId → Bool} : ∀ (d : Nat) (e : TypeId) (count off n : Nat), bareB p fits d e = true → rowAt p fits d e count off n = false := by
  intro d
  induction d with
  | zero => intro e count off n _; rfl
  | succ d ih =>
    intro e count off n h
    unfold bareB at h
    rw [Bool.and_eq_true] at h
    obtain ⟨h1, h2⟩ := h
    have h1 : fits e = false := by simpa using h1
    unfold rowAt
    dsimp only
    split
    · rfl
    · rw [h1, Bool.and_false, Bool.false_or]
      split at h2
      · rename_i fs hu
        rw [hu]
        dsimp only
        have : (fs.any fun f => decide (f.offset ≤ off % p.cellsOf e) && decide (off % p.cellsOf e < f.offset + p.cellsOf f.type) && rowAt p fits d f.type 1 (off % p.cellsOf e - f.offset) n) = false := by
          rw [Array.any_eq_false]
          intro i hi
          have := Array.all_eq_true.1 h2 i hi
          rw [ih _ _ _ _ this]; simp
        rw [this]; simp
      · rename_i m e' hu
        rw [hu]
        dsimp only
        rw [ih _ _ _ _ h2]; simp
      · rename_i hn1 hn2
        split
        · rename_i fs hu; exact absurd hu (hn1 _)
        · rename_i m e' hu; exact absurd hu (hn2 _ _)
        · simp
theorem lies_u32 {e : TypeId} {count off n : Nat} (h : bareB Tryz.prog (sameLayout Tryz.prog Tryz.prog.depth · 84) Tryz.prog.depth e = true) : liesAt Tryz.prog Tryz.prog.depth e count off 84 n = false := by
  have : ∀ d, liesAt Tryz.prog d e count off 84 n = false := by
    intro d
    cases d with
    | zero => rfl
    | succ d =>
      unfold liesAt
      rw [rowAt_bare _ _ _ _ _ h, Tryz.underlying84]
      rfl
  exact this _
theorem bare_rat : bareB Tryz.prog (sameLayout Tryz.prog Tryz.prog.depth · 84) Tryz.prog.depth 24 = true := by kernel_rfl
theorem bare_turn : bareB Tryz.prog (sameLayout Tryz.prog Tryz.prog.depth · 84) Tryz.prog.depth 26 = true := by kernel_rfl
theorem bare_whole : bareB Tryz.prog (sameLayout Tryz.prog Tryz.prog.depth · 84) Tryz.prog.depth 48 = true := by kernel_rfl
theorem kt_of_lies {e : TypeId} {count off n : Nat} (h : liesAt Tryz.prog Tryz.prog.depth e count off 84 n = true) : KT e = true := by
  unfold KT
  by_cases h1 : e = 48
  · subst h1; rw [lies_u32 bare_whole] at h; cases h
  by_cases h2 : e = 24
  · subst h2; rw [lies_u32 bare_rat] at h; cases h
  by_cases h3 : e = 26
  · subst h3; rw [lies_u32 bare_turn] at h; cases h
  simp [h1
   , h2
   , h3
    ]
section
variable {H : Type} {enc : TypeId × Value → H} {W : World} {base : Nat}
set_option maxRecDepth 100000 in
theorem words_open {v : Value} {fuel : Nat} {x : DataW H × List MemPlace} (hok : Cell.okWide Tryz.prog W .any base 22 v) (ht : DataW.trod enc Tryz.prog W 0 (fun _ => true) true fuel 22 [v] = some x) :
    ∃ A n c l, v = .slice A n c ∧ Wd W A n c l := by
  rcases open_ints Tryz.underlying22 Tryz.underlying84 (by kernel_rfl) ht with ⟨hv, _⟩ | ⟨a, len, cap, zs, hv, _, hl, _, hz, _, hc, hwf⟩
  · injection hv with hv _
    exact ⟨none, 0, 0, [], hv, Wd.nil_ W⟩
  · injection hv with hv _
    subst hv
    have hz : zs.length = cap := by simpa using hz
    have h0 : ∀ i, i < zs.length → 0 ≤ zs.getD i 0 ∧ zs.getD i 0 ≤ 4294967295 := by
      intro i hi
      have h1 := hwf (zs.getD i 0) (by rw [List.getD_eq_getElem?_getD, List.getElem?_eq_getElem hi]; simp)
      simpa [Lit.wf, IntKind.min, IntKind.max, IntKind.signed, IntKind.bits] using h1
    refine ⟨some a, len, cap, (zs.take len).map Int.toNat, rfl, ?_, ?_, hl, fun hn => ?_⟩
    · intro y hy
      obtain ⟨z, hz1, rfl⟩ := List.mem_map.1 hy
      obtain ⟨i, hi, he⟩ := List.getElem_of_mem hz1
      have hi2 : i < zs.length := by rw [List.length_take] at hi; omega
      have h1 := h0 i hi2
      rw [List.getD_eq_getElem?_getD, List.getElem?_eq_getElem hi2] at h1
      rw [List.getElem_take] at he
      simp only [Option.getD_some] at h1
      rw [he] at h1
      omega
    · rw [List.length_map, List.length_take]; omega
    · unfold Cell.okWide at hok
      rw [Tryz.underlying22] at hok
      unfold Cell.ok at hok
      rw [Tryz.underlying22] at hok
      obtain ⟨_, _, _, hs, row, cells, hsh, hli⟩ := hok
      unfold World.shape? at hsh
      split at hsh
      · rename_i cur el fr hb
        injection hsh with hsh; injection hsh with e1 e2
        subst e1
        obtain ⟨g, o, sp⟩ := a
        dsimp only at hs
        subst hs
        have hr : RowW W g cur fr := ⟨el, kt_of_lies hli, hb⟩
        refine ⟨g, o, cur, fr, rfl, hr, fun i hi => ?_⟩
        have h1 := hc i (by omega)
        have h2 := h0 i (by omega)
        have e3 : (⟨g, o, none⟩ : Addr).add i = ⟨g, o + i, none⟩ := by unfold Addr.add; by_cases hi0 : i = 0 <;> simp [hi0]
        rw [e3, hr.cell] at h1
        rw [h1]
        have e4 : wd ((zs.take len).map Int.toNat) i = (zs.getD i 0).toNat := by
          unfold wd
          rw [List.getD_eq_getElem?_getD, List.getElem?_map, List.getElem?_take, if_pos hi, List.getD_eq_getElem?_getD]
          rcases zs[i]? with _ | z <;> rfl
        rw [e4, Int.toNat_of_nonneg h2.1]
      · cases hsh
set_option maxRecDepth 100000 in
theorem rat_open {v0 v1 v2 : Value} {fuel : Nat} {x : DataW H × List MemPlace} (o1 : Cell.okWide Tryz.prog W .any base 22 v1) (o2 : Cell.okWide Tryz.prog W .any base 22 v2)
    (ht : DataW.trod enc Tryz.prog W 0 (fun _ => true) true fuel 24 [v0, v1, v2] = some x) :
    ∃ b A n c D m e r k, v0 = .bool b ∧ v1 = .slice A n c ∧ v2 = .slice D m e ∧ QD W b A n c D m e r k := by
  obtain ⟨xs, n, _, _, _, hxl, hf⟩ := DataW.trod_struct Tryz.underlying24 ht
  have f0 : DataW.trod enc Tryz.prog W 0 (fun _ => true) true n 4 (List.take (Tryz.prog.cellsOf 4) [v0, v1, v2]) = xs[0]? := hf 0 _ rfl
  have f1 : DataW.trod enc Tryz.prog W 0 (fun _ => true) true n 22 (List.take (Tryz.prog.cellsOf 22) [v1, v2]) = xs[1]? := hf 1 _ rfl
  have f2 : DataW.trod enc Tryz.prog W 0 (fun _ => true) true n 22 (List.take (Tryz.prog.cellsOf 22) [v2]) = xs[2]? := hf 2 _ rfl
  have c1 : Tryz.prog.cellsOf 22 = 1 := by kernel_rfl
  have c0 : Tryz.prog.cellsOf 4 = 1 := by kernel_rfl
  try dsimp only at f0 f1 f2
  rw [c0] at f0
  rw [c1] at f1 f2
  have hx0 : xs.length = 3 := hxl
  rw [List.getElem?_eq_getElem (show 0 < xs.length by omega)] at f0
  rw [List.getElem?_eq_getElem (show 1 < xs.length by omega)] at f1
  rw [List.getElem?_eq_getElem (show 2 < xs.length by omega)] at f2
  obtain ⟨b, hb, _⟩ := DataW.trod_bool Tryz.underlying4 f0
  obtain ⟨A, n1, cc, l, rfl, h1⟩ := words_open o1 f1
  obtain ⟨D, m, e, l', rfl, h2⟩ := words_open o2 f2
  injection hb with hb _
  exact ⟨b, A, n1, cc, D, m, e, ⟨b, l, l'⟩, max n1 m, hb, rfl, rfl, rfl, h1, h2, Nat.le_max_left _ _, Nat.le_max_right _ _⟩
set_option maxRecDepth 100000 in
/-- The cells' types of a struct that came in. -/
theorem cells_ok {t : TypeId} {fs : Array Field} {ts : List TypeId} {v : Value} (hu : Tryz.prog.underlying t = some (.struct fs)) (hts : Tryz.prog.cellTypes Tryz.prog.depth t = some ts) (hn : Tryz.prog.cellsOf t = ts.length) (h : Value.okWide Tryz.prog W .any base t v) :
    ∃ cs : Array Value, v = .agg cs ∧ cs.size = ts.length ∧ ∀ (i : Nat) (v : Value) (u : TypeId), cs[i]? = some v → ts[i]? = some u → Cell.okWide Tryz.prog W .any base u v := by
  unfold Value.okWide at h
  rw [hu] at h
  obtain ⟨cs, rfl, hsz, ts', hts', _, hc⟩ := h
  rw [hts] at hts'
  injection hts' with e
  subst e
  rw [hn] at hsz
  refine ⟨cs, rfl, hsz, fun i v u hi hu => ?_⟩
  obtain ⟨u', h1, h2⟩ := hc i v hi
  have hlt : i < ts.length := by rw [← hsz]; exact (Array.getElem?_eq_some_iff.1 hi).1
  rw [Nat.mod_eq_of_lt hlt, hu] at h1
  injection h1 with h1
  subst h1
  exact h2
set_option maxRecDepth 100000 in
theorem turn_open {v : Value} {d : DataW H} {p : List MemPlace} (hok : Value.okWide Tryz.prog W .any base 26 v) (h : DataW.Trod enc Tryz.prog W 0 (fun _ => true) true 26 v d p) :
    ∃ b A n c D m e r k y, v = .agg #[.bool b, .slice A n c, .slice D m e, .bool y] ∧ QD W b A n c D m e r k := by
  obtain ⟨cs, rfl, hsz, hc⟩ := cells_ok (ts := [4, 22, 22, 4]) Tryz.underlying26 (by kernel_rfl) (by kernel_rfl) hok
  obtain ⟨fuel, h⟩ := h
  obtain ⟨l⟩ := cs
  match l, hsz with
  | [v0, v1, v2, v3], _ =>
    obtain ⟨xs, n, _, _, _, hxl, hf⟩ := DataW.trod_struct Tryz.underlying26 h
    have f0 : DataW.trod enc Tryz.prog W 0 (fun _ => true) true n 24 (List.take (Tryz.prog.cellsOf 24) [v0, v1, v2, v3]) = xs[0]? := hf 0 _ rfl
    have f1 : DataW.trod enc Tryz.prog W 0 (fun _ => true) true n 4 (List.take (Tryz.prog.cellsOf 4) [v3]) = xs[1]? := hf 1 _ rfl
    have c0 : Tryz.prog.cellsOf 24 = 3 := by kernel_rfl
    have c1 : Tryz.prog.cellsOf 4 = 1 := by kernel_rfl
    try dsimp only at f0 f1
    rw [c0] at f0
    rw [c1] at f1
    have hx0 : xs.length = 2 := hxl
    rw [List.getElem?_eq_getElem (show 0 < xs.length by omega)] at f0
    rw [List.getElem?_eq_getElem (show 1 < xs.length by omega)] at f1
    obtain ⟨y, hy, _⟩ := DataW.trod_bool Tryz.underlying4 f1
    injection hy with hy _
    have hy : v3 = .bool y := hy
    obtain ⟨b, A, n1, cc, D, m, e, r, k, rfl, rfl, rfl, hq⟩ := rat_open (hc 1 v1 _ rfl rfl) (hc 2 v2 _ rfl rfl) f0
    subst hy
    exact ⟨b, A, n1, cc, D, m, e, r, k, y, rfl, hq⟩
set_option maxRecDepth 100000 in
theorem whole_open {v : Value} {d : DataW H} {p : List MemPlace} (hok : Value.okWide Tryz.prog W .any base 48 v) (h : DataW.Trod enc Tryz.prog W 0 (fun _ => true) true 48 v d p) :
    ∃ b A n c z k, v = .agg #[.bool b, .slice A n c] ∧ IZ W b A n c z k := by
  obtain ⟨cs, rfl, hsz, hc⟩ := cells_ok (ts := [4, 22]) Tryz.underlying48 (by kernel_rfl) (by kernel_rfl) hok
  obtain ⟨fuel, ht⟩ := h
  match cs, hsz with
  | ⟨[v0, v1]⟩, _ =>
    have o1 : Cell.okWide Tryz.prog W .any base 22 v1 := hc 1 v1 _ rfl rfl
    have ht' : DataW.trod enc Tryz.prog W 0 (fun _ => true) true fuel 48 [v0, v1] = some (d, p) := ht
    obtain ⟨xs, n, _, _, _, hxl, hf⟩ := DataW.trod_struct Tryz.underlying48 ht'
    have f0 : DataW.trod enc Tryz.prog W 0 (fun _ => true) true n 4 (List.take (Tryz.prog.cellsOf 4) [v0, v1]) = xs[0]? := hf 0 _ rfl
    have f1 : DataW.trod enc Tryz.prog W 0 (fun _ => true) true n 22 (List.take (Tryz.prog.cellsOf 22) [v1]) = xs[1]? := hf 1 _ rfl
    have c1 : Tryz.prog.cellsOf 22 = 1 := by kernel_rfl
    have c0 : Tryz.prog.cellsOf 4 = 1 := by kernel_rfl
    try dsimp only at f0 f1
    rw [c0] at f0
    rw [c1] at f1
    have hx0 : xs.length = 2 := hxl
    rw [List.getElem?_eq_getElem (show 0 < xs.length by omega)] at f0
    rw [List.getElem?_eq_getElem (show 1 < xs.length by omega)] at f1
    obtain ⟨b, hb, _⟩ := DataW.trod_bool Tryz.underlying4 f0
    obtain ⟨A, n1, cc, l, rfl, h1⟩ := words_open o1 f1
    injection hb with hb _
    subst hb
    exact ⟨b, A, n1, cc, _, n1, rfl, l, h1, rfl, Nat.le_refl _⟩
end
theorem g_pow : Tryz.prog.globalNamed "internal/strconv.uint64pow10" = some 4 := by kernel_rfl
theorem ty_pow : (Tryz.prog.globals[4]?).map (·.type) = some 191 := by kernel_rfl
theorem cells_pow : Tryz.prog.cellsOf 191 = 20 := by kernel_rfl
theorem cells_u64 : Tryz.prog.cellsOf 99 = 1 := by kernel_rfl
theorem pow_data {H : Type} : (Rows.laid_internal_strconv_uint64pow10 : DataW H) = Lib.tabData .u64 Lib.pow10Tab := by kernel_rfl
/-- What the row's list gives: the powers of ten. -/
theorem tab_of_laid {rest : List (String × DataW Unit)} {W : World} (h : laidMet Tryz.prog (("math/bits.deBruijn32tab", Rows.laid_math_bits_deBruijn32tab) :: ("math/bits.deBruijn64tab", Rows.laid_math_bits_deBruijn64tab) :: ("internal/strconv.uint64pow10", Rows.laid_internal_strconv_uint64pow10) :: rest) W) : Tab W := by
  obtain ⟨ps, ⟨_, _, _, _, _, _, _, _, _, _, ⟨_, _, _, _, _, _, _, _, _, _, ⟨g, t, cs, f, p, q, hg, ht, hv, hd, _, _⟩, _⟩, _⟩, _, _⟩ := h
  obtain rfl := Option.some.inj (g_pow.symm.trans hg)
  obtain rfl := Option.some.inj (ty_pow.symm.trans ht)
  rw [pow_data] at hd
  unfold Tab Lib.TabIs
  rw [hv, ← Lib.cells_of_tab Tryz.underlying191 Tryz.underlying99 cells_u64 cells_pow hd]
/-- So many blocks has the settled world. -/
noncomputable def low : Nat := (World.holding Tryz.prog default ⟨#[], #[], []⟩).heap.size
/-- A world in which the listed variables lie. -/
noncomputable def laidWorld (os : Os) : World :=
  let w0 := World.holding Tryz.prog os ⟨#[.cells #[.string ⟨#[118, 97, 108, 117, 101, 32, 111, 117, 116, 32, 111, 102, 32, 114, 97, 110, 103, 101]⟩] 189, .cells #[.string ⟨#[105, 110, 118, 97, 108, 105, 100, 32, 115, 121, 110, 116, 97, 120]⟩] 189], #[], []⟩
  { w0 with heap := (((((((w0.heap.modify 4 fun
      | .cells _ t frozen => .cells (#[.int .u64 1, .int .u64 10, .int .u64 100, .int .u64 1000, .int .u64 10000, .int .u64 100000, .int .u64 1000000, .int .u64 10000000, .int .u64 100000000, .int .u64 1000000000, .int .u64 10000000000, .int .u64 100000000000, .int .u64 1000000000000, .int .u64 10000000000000, .int .u64 100000000000000, .int .u64 1000000000000000, .int .u64 10000000000000000, .int .u64 100000000000000000, .int .u64 1000000000000000000, .int .u64 10000000000000000000]) t frozen
      | o => o).modify 6 fun
      | .cells _ t frozen => .cells (#[.int .u8 0, .int .u8 1, .int .u8 28, .int .u8 2, .int .u8 29, .int .u8 14, .int .u8 24, .int .u8 3, .int .u8 30, .int .u8 22, .int .u8 20, .int .u8 15, .int .u8 25, .int .u8 17, .int .u8 4, .int .u8 8, .int .u8 31, .int .u8 27, .int .u8 13, .int .u8 23, .int .u8 21, .int .u8 19, .int .u8 16, .int .u8 7, .int .u8 26, .int .u8 12, .int .u8 18, .int .u8 6, .int .u8 11, .int .u8 5, .int .u8 10, .int .u8 9]) t frozen
      | o => o).modify 7 fun
      | .cells _ t frozen => .cells (#[.int .u8 0, .int .u8 1, .int .u8 56, .int .u8 2, .int .u8 57, .int .u8 49, .int .u8 28, .int .u8 3, .int .u8 61, .int .u8 58, .int .u8 42, .int .u8 50, .int .u8 38, .int .u8 29, .int .u8 17, .int .u8 4, .int .u8 62, .int .u8 47, .int .u8 59, .int .u8 36, .int .u8 45, .int .u8 43, .int .u8 51, .int .u8 22, .int .u8 53, .int .u8 39, .int .u8 33, .int .u8 30, .int .u8 24, .int .u8 18, .int .u8 12, .int .u8 5, .int .u8 63, .int .u8 55, .int .u8 48, .int .u8 27, .int .u8 60, .int .u8 41, .int .u8 37, .int .u8 16, .int .u8 46, .int .u8 35, .int .u8 44, .int .u8 21, .int .u8 52, .int .u8 32, .int .u8 23, .int .u8 11, .int .u8 54, .int .u8 26, .int .u8 40, .int .u8 15, .int .u8 34, .int .u8 20, .int .u8 31, .int .u8 10, .int .u8 25, .int .u8 14, .int .u8 19, .int .u8 9, .int .u8 13, .int .u8 8, .int .u8 7, .int .u8 6]) t frozen
      | o => o).modify 3 fun
      | .cells _ t frozen => .cells (#[.int .u8 128, .int .u8 191, .int .u8 160, .int .u8 191, .int .u8 128, .int .u8 159, .int .u8 144, .int .u8 191, .int .u8 128, .int .u8 143, .int .u8 0, .int .u8 0, .int .u8 0, .int .u8 0, .int .u8 0, .int .u8 0, .int .u8 0, .int .u8 0, .int .u8 0, .int .u8 0, .int .u8 0, .int .u8 0, .int .u8 0, .int .u8 0, .int .u8 0, .int .u8 0, .int .u8 0, .int .u8 0, .int .u8 0, .int .u8 0, .int .u8 0, .int .u8 0]) t frozen
      | o => o).modify 2 fun
      | .cells _ t frozen => .cells ((Go.Pinned.utf8FirstZ.map fun z : Nat => Value.int .u8 (z : Int)).toArray) t frozen
      | o => o).modify 1 fun
      | .cells _ t frozen => .cells (#[.iface 187 (.pointer (some ⟨low, 0, none⟩))]) t frozen
      | o => o).modify 0 fun
      | .cells _ t frozen => .cells (#[.iface 187 (.pointer (some ⟨low + 1, 0, none⟩))]) t frozen
      | o => o) }
theorem own_knob : ownKnob Tryz.prog.godebug = none := by kernel_rfl
theorem laid_out : laidOutB Tryz.prog = true := by kernel_rfl
end Go.Proofs.YtpnnfbodphflpaaGreatDoor
