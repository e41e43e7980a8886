/- What the functions of this seat compute, and that the program's calls come to just that: written by this session's own program out of the translation; no condition. -/
import Derived.Test.YthgoonohpfoagaaX0
import Derived.Test.YthgoonohpfoagaaX7
import Derived.Test.YthgoonohpfoagaaX8
import Derived.Test.YthgoonohpfoagaaX10
namespace Go.Proofs.Ythgoonohpfoagaa.X
open Go.RowKit Go.Proofs.YthgoonohpfoagaaW.PrintWords Go.Proofs.YthgoonohpfoagaaW.PrintLast Go.Proofs.YthgoonohpfoagaaW.PrintMore
attribute [local go_sem] max2_int min2_int max_two min_two max_three min_three max_four min_four
set_option linter.unusedVariables false
set_option linter.unusedSimpArgs false

/-! ### atom_Raw: function 9 -/
section
open Go.Maps
/-- The place of x in a list (its length: it isn't there). -/
def num1 {α : Type} [DecidableEq α] (ms : List α) (x : α) : Nat := ms.idxOf x
theorem num1_new {α : Type} [DecidableEq α] {ms : List α} {x : α} (h : ¬ x ∈ ms) : num1 (ms ++ [x]) x = ms.length := by rw [num1, List.idxOf_append, if_neg h]; simp
structure Names_ {α : Type} [DecidableEq α] (P : Program) (k e : TypeId) (val : α → Value) (W : World) (b : Nat) (ms : List α) (D : DataW Unit) : Prop where
 own : W.ownsMap P k (plainElem P e) b ms.length D
 tidy : Tidy D
 size : Maps.size D = ms.length
 has : ∀ x l, keyOf P k (val x) = some l → Maps.has D l = decide (x ∈ ms)
 at_ : ∀ x l, keyOf P k (val x) = some l → x ∈ ms → ∀ z, D.atKey l z = .lit (.int .i64 ((num1 ms x : Nat) : Int))
theorem Names_.new {α : Type} [DecidableEq α] (P : Program) (k e : TypeId) (val : α → Value) (W : World) : Names_ P k e val (W.alloc (.map #[] 0)) W.heap.size [] (.map []) :=
 ⟨World.ownsMap_made _ _ _ _, tidy_empty, rfl, fun x l _ => by simp [Maps.has], fun x l _ h => absurd h (by simp)⟩
theorem Names_.kept {α : Type} [DecidableEq α] {P : Program} {k e : TypeId} {val : α → Value} {W w1 : World} {b : Nat} {ms : List α} {D : DataW Unit} (h : Names_ P k e val W b ms D) {row : Option Nat} (hg : W.grownBy w1 row) (hne : some b ≠ row) : Names_ P k e val w1 b ms D :=
 ⟨h.own.kept hg hne, h.tidy, h.size, h.has, h.at_⟩
theorem Names_.put {α : Type} [DecidableEq α] {P : Program} {k e : TypeId} {val : α → Value} (K : Keyed P k) (hval : ∀ x y, val x = val y → x = y) {W w1 : World} {b : Nat} {ms : List α} {D : DataW Unit} (h : Names_ P k e val W b ms D) {x : α} {l : Lit} (hk : keyOf P k (val x) = some l) (hx : ¬ x ∈ ms)
  (hown : w1.ownsMap P k (plainElem P e) b (ms.length + 1) (D.put l (.lit (.int .i64 (ms.length : Int))))) : Names_ P k e val w1 b (ms ++ [x]) (D.put l (.lit (.int .i64 (ms.length : Int)))) := by
 have kl := K.key hk
 have ne : ∀ y l', keyOf P k (val y) = some l' → y ≠ x → l' ≠ l := by
  intro y l' hy hne he; subst he; exact hne (hval _ _ (K.inj hy hk))
 have hh := h.has x l hk; rw [decide_eq_false hx] at hh; refine ⟨by rw [List.length_append]; exact hown, h.tidy.put kl _, ?_, ?_, ?_⟩
 ·rw [size_put h.tidy, hh, h.size]; simp
 ·intro y l' hy
  by_cases c : y = x
  ·subst c; rw [hk] at hy; obtain rfl := Option.some.inj hy; rw [has_put_same h.tidy.isMap kl]; simp
  ·rw [has_put_other (ne y l' hy c), h.has y l' hy]; simp [c]
 ·intro y l' hy hm z
  by_cases c : y = x
  ·subst c; rw [hk] at hy; obtain rfl := Option.some.inj hy; rw [atKey_put_same h.tidy.isMap kl, num1, List.idxOf_append, if_neg hx]; simp
  ·have : y ∈ ms := by simpa [c] using hm
   rw [atKey_put_other (ne y l' hy c), h.at_ y l' hy this, num1, num1, List.idxOf_append, if_pos this]
end
def names1 {α : Type} [DecidableEq α] (ms : List α) (x : α) : List α := if x ∈ ms then ms else ms ++ [x]
/-! The carry machine: places are numbered in the order in which they are met. -/
abbrev atom_Raw.Place := Int × Int × Bool × Bool × Bool
def atom_Raw.PV (p : atom_Raw.Place) : Value := .agg #[.int .i64 p.1, .int .i64 p.2.1, .bool p.2.2.1, .bool p.2.2.2.1, .bool p.2.2.2.2]
theorem atom_Raw.PV_inj (x y : atom_Raw.Place) (h : atom_Raw.PV x = atom_Raw.PV y) : x = y := by
 obtain ⟨a, b, c, d, e⟩ := x; obtain ⟨a', b', c', d', e'⟩ := y
 simpa [atom_Raw.PV] using h
theorem atom_Raw.laidOut : laidOutB Try.prog = true := by kernel_rfl
theorem atom_Raw.law : Go.Maps.Keyed Try.prog 59 := Go.Maps.Keyed.of_law (deep_law_laid atom_Raw.laidOut (m := 2) (by omega) (of_decide_eq_true (by kernel_rfl)) (by kernel_rfl) (by rw [Try.underlying59]))
theorem atom_Raw.key (p : atom_Raw.Place) (h1 : (Lit.int .i64 p.1).wf = true) (h2 : (Lit.int .i64 p.2.1).wf = true) : ∃ l, keyOf Try.prog 59 (atom_Raw.PV p) = some l := by
 have hk : Try.prog.keyType 59 = true := by kernel_rfl
 have hf : (atom_Raw.PV p).formed Try.prog 59 = true := by simp [atom_Raw.PV, Value.formed, Try.underlying59, show Try.prog.cellsOf 59 = 5 by kernel_rfl]
 have hl : Try.prog.keyLits (Try.prog.types.size + 1) 59 (atom_Raw.PV p).cells.toList = some [.int .i64 p.1, .int .i64 p.2.1, .bool p.2.2.1, .bool p.2.2.2.1, .bool p.2.2.2.2] := by
  obtain ⟨n, hn⟩ : ∃ n, Try.prog.types.size = n + 1 := ⟨_, (by kernel_rfl : Try.prog.types.size = (Try.prog.types.size - 1) + 1)⟩; rw [hn]
  simp [Program.keyLits, Try.underlying59, Try.underlying2, Try.underlying4, show Try.prog.cellsOf 59 = 5 by kernel_rfl, show Try.prog.cellsOf 2 = 1 by kernel_rfl, show Try.prog.cellsOf 4 = 1 by kernel_rfl, atom_Raw.PV, Value.cells, h1, h2]
 unfold keyOf
 rw [Try.underlying59]; simp only [hk, hf, hl]; exact ⟨_, rfl⟩
/-- A list of places, cell by cell. -/
def atom_Raw.PK : Kd atom_Raw.Place := Kd.pair (Kd.int .i64) (Kd.pair (Kd.int .i64) (Kd.pair Kd.bool (Kd.pair Kd.bool Kd.bool)))
theorem atom_Raw.PK_sz : atom_Raw.PK.sz = 5 := rfl
/-- The place to which a letter leads; none: its numbers leave 64 bits. -/
def atom_Raw.to (kind : Int) (p : atom_Raw.Place) (s : Int) : Option atom_Raw.Place :=
 (atom_next.f kind p.1 p.2.1 p.2.2.1 p.2.2.2.1 p.2.2.2.2 s).bind fun z => if (Lit.int .i64 z.1).wf = true then (if (Lit.int .i64 z.2.1).wf = true then some z else none) else none
/-- What is left of a row: false: too many places; the places, the row. -/
def atom_Raw.row (kind : Int) (p : atom_Raw.Place) : List Int → Nat → List atom_Raw.Place → List Int → Option (Bool × List atom_Raw.Place × List Int)
 | [], _, ps, xs => some (true, ps, xs)
 | s :: r, a, ps, xs => (atom_Raw.to kind p s).bind fun z =>
  if z ∈ ps then atom_Raw.row kind p r (a + 1) ps (xs.set a ((num1 ps z : Nat) : Int))
  else if ps.length = 256 then some (false, ps, xs) else atom_Raw.row kind p r (a + 1) (ps ++ [z]) (xs.set a ((ps.length : Nat) : Int))
def atom_Raw.noPlace : atom_Raw.Place := (0, 0, false, false, false)
def atom_Raw.go (kind : Int) (letters : List Int) : Nat → Nat → List atom_Raw.Place → List Bool → List (List Int) → Option (Bool × List Bool × List (List Int))
 | 0, _, _, _, _ => none
 | k + 1, q, ps, ac, nx =>
  if q < ps.length then (atom_Raw.row kind (ps.getD q atom_Raw.noPlace) letters 0 ps (List.replicate letters.length 0)).bind fun z =>
   if z.1 = true then atom_Raw.go kind letters k (q + 1) z.2.1 (ac ++ [(z.2.1.getD q atom_Raw.noPlace).2.2.2.2]) (nx ++ [z.2.2]) else some (false, ac, nx)
  else some (true, ac, nx)
def atom_Raw.f (k : Nat) (kind : Int) (names : List ByteArray) (coefs : List Int) (bound modulus : Int) : Option (List ByteArray × List Bool × List (List Int) × Int) :=
 (norm_Check.f k kind names coefs bound modulus).bind fun e =>
  if e = 0 then (if (6 : Int) < (names.length : Int) then some ([], [], [], 150) else
   (slices_Clone_string_string.f names).bind fun tr => (atom_sums.f coefs).bind fun letters =>
    if (Lit.int .i64 bound).wf = true then (if (Lit.int .i64 modulus).wf = true then
     (atom_Raw.go kind letters 257 0 [(bound, modulus, true, false, false)] [] []).bind fun z => if z.1 = true then some (tr, z.2.1, z.2.2, 0) else some ([], [], [], 140)
    else none) else none)
  else some ([], [], [], e)
theorem atom_Raw.res {P : Program} {fn : Func} {p u : Tmp} {ty : TypeId} (h : fn.results = #[.cell p ty, .tmp u]) (tmps : Array Value) (w : World) (g : Nat) (t : TypeId) (cs : Array Value) (fr : Nat × Nat) (d : TypeDesc) (x : Value)
  (hp : tmps.getD p undef = .pointer (some ⟨g, 0, none⟩)) (hx : tmps.getD u undef = x) (hg : w.heap[g]? = some (.cells cs t fr))
  (hu : P.underlying ty = some d) (hd : (match d with | .struct _ | .array _ _ => true | _ => false) = true) (hi : (P.info? ty).map (·.size) = some cs.size) :
  (results fn tmps).run P w = .ok (.tuple #[.agg cs, x]) w := by
 rw [results_cell_tmp h, hp, hx]
 simp [asAddr, run_loadVar_row w g t ty cs fr d hg hu hd hi, Result.andThen]
theorem atom_Raw.gate_insert {P : Program} {ops : Array Oper} {rest : List Oper} {a : Act} {Q : Exit → Act → World → Prop} {w : World} {d ty pos af g t m x v} (h : wpList P ops Q (⟨d, Op.insert t m x v, ty, pos, af, g⟩ :: rest) a w) : wpList P ops Q (⟨d, Op.insert t m x v, ty, pos, af, g⟩ :: rest) a w := h
/-- An insertion of a composite literal, at the operation. -/
theorem atom_Raw.insert_own {H : Type} {P : Program} (w : World) {ops : Array Oper} {rest : List Oper} {o : Oper} {a : Act} {Q : Exit → Act → World → Prop}
  (hg : o.guard = none) (m x v : Operand) (t : TypeId) (hop : o.op = Op.insert t m x v)
  (k e : TypeId) (K : Go.Maps.Keyed P k) (ht : P.underlying t = some (.map k e)) (R : Value → Option (DataW H × List MemPlace)) (b n : Nat) (D : DataW H)
  (hm : a.eval m = .map (some b)) (hown : w.ownsMap P k R b n D) (hn : n < maxLen) (key val : Value) (kl : Lit) (hx : a.eval x = key) (hv : a.eval v = val) (hkey : keyOf P k key = some kl)
  (d : DataW H) (ps : List MemPlace) (hval : R val = some (d, ps))
  (hK : ∀ w', w'.ownsMap P k R b (n + 1) (D.put kl d) → w.grownBy w' (some b) → wpList P ops Q rest (a.put o.dst undef) w') :
  wpList P ops Q (o :: rest) a w := by
 refine wpList_plain hg fun K' hK' => ?_
 obtain ⟨w', hrun, r1, r2⟩ := hown.update K ht hn hkey hval
 unfold Oper.wp
 simp [execOp, hop, hm, hx, hv, hrun, Result.andThen]
 exact hK' _ _ (hK w' r1 r2)

/-! ### What Raw's blocks hold -/
section
variable {α : Type} {d : Kd α} {e : TypeId} {W W1 : World} {base : Nat} {ok : Nat → Prop} {v : Value} {xs : List α}
/-- Another object has been written (of no type of the row's). -/
theorem R_off (h : d.R e W base ok v xs) {row : Option Nat} (hg : W.grownBy W1 row) (hr : ∀ g, row = some g → ok g → ∀ q, q ∈ e :: d.E → ∀ cs, W.heap[g]? ≠ some (.cells cs q (0, 0))) : d.R e W1 base ok v xs :=
 Kd.R_mono (Kd.R_move (Kd.R_bound h) (fun k hk => hg.block k hk.2.2.1 (fun he => by
  obtain ⟨h1, _, _, q, hq, cs, hc⟩ := hk
  exact hr k he.symm h1 q hq cs hc))) (fun _ hk => hk.1)
theorem S_off (h : Kd.S d e W base ok v xs) {row : Option Nat} (hg : W.grownBy W1 row) (hr : ∀ g, row = some g → ok g → ∀ q, q ∈ e :: d.E → ∀ cs, W.heap[g]? ≠ some (.cells cs q (0, 0))) : Kd.S d e W1 base ok v xs :=
 Kd.S_mono (Kd.S_move (Kd.S_bound h) (fun k hk => hg.block k hk.2.2.1 (fun he => by
  obtain ⟨h1, _, _, q, hq, cs, hc⟩ := hk
  exact hr k he.symm h1 q hq cs hc))) (fun _ hk => hk.1)
end
/-- A block that is written holds an object of no type in the list. -/
def Off (W : World) (row : Option Nat) (T : List Nat) : Prop := ∀ g, row = some g → ∀ q, q ∈ T → ∀ cs, W.heap[g]? ≠ some (.cells cs q (0, 0))
theorem Off.none (W : World) (T : List Nat) : Off W none T := fun g h => by cases h
theorem Off.typed {W : World} {row : Option Nat} {T : List Nat} {t : Nat} (h : ∀ k, row = some k → ∃ cells, W.heap[k]? = some (.cells cells t (0, 0))) (ht : ∀ q, q ∈ T → q ≠ t) : Off W row T := fun g hg q hq cs hc => by
 obtain ⟨c', h'⟩ := h g hg; rw [hc] at h'
 injection h' with h'
 injection h' with _ h' _
 exact ht q hq h'
theorem Off.map {W : World} {g : Nat} {es : Array (Lit × Value × Value)} {n : Nat} {o : Obj} (h : W.heap[g]? = some o) (ho : ∀ cs q, o ≠ .cells cs q (0, 0)) (T : List Nat) : Off W (some g) T := fun g' hg q hq cs hc => by
 obtain rfl := Option.some.inj hg; rw [h] at hc; exact ho _ _ (Option.some.inj hc)
theorem atom_Raw.PK_M (W : World) (base : Nat) (ok : Nat → Prop) (p : atom_Raw.Place) : atom_Raw.PK.M W base ok p [.int .i64 p.1, .int .i64 p.2.1, .bool p.2.2.1, .bool p.2.2.2.1, .bool p.2.2.2.2] :=
 ⟨[.int .i64 p.1], [.int .i64 p.2.1, .bool p.2.2.1, .bool p.2.2.2.1, .bool p.2.2.2.2], rfl, rfl, [.int .i64 p.2.1], [.bool p.2.2.1, .bool p.2.2.2.1, .bool p.2.2.2.2], rfl, rfl, [.bool p.2.2.1], [.bool p.2.2.2.1, .bool p.2.2.2.2], rfl, rfl, [.bool p.2.2.2.1], [.bool p.2.2.2.2], rfl, rfl, rfl⟩
theorem below_of_grown {W W1 : World} (h : W.grownBy W1 none) : Below W.heap.size W W1 := ⟨h.os, h.tape, h.output, h.size, fun i hi => h.block i hi (by simp)⟩
theorem blk_off {W W1 : World} {g t : Nat} {cs : Array Value} {row : Option Nat} {T : List Nat} (h : W.heap[g]? = some (.cells cs t (0, 0))) (hg : W.grownBy W1 row) (ho : Off W row T) (ht : t ∈ T) : W1.heap[g]? = some (.cells cs t (0, 0)) :=
 blk_grown h hg (fun e => ho g e.symm t ht cs h)
theorem grown_set (W : World) (g j : Nat) (x : Value) : W.grownBy (W.setCell ⟨g, j, none⟩ x) (some g) :=
 ⟨rfl, rfl, rfl, by simp, fun k hk hne => Below.heap_setCell W _ x k (fun e => hne (by rw [e]))⟩
structure atom_Raw.At (w0 W : World) (g1 g2 g8 mb B : Nat) (c1 : Array Value) (vL v9 vt va vn : Value) (pm ps : List atom_Raw.Place) (D : DataW Unit) (letters : List Int) (tr : List ByteArray) (ac : List Bool) (nx : List (List Int)) : Prop where
 bel : Below w0.heap.size w0 W
 lo2 : w0.heap.size ≤ g2
 lo8 : w0.heap.size ≤ g8
 lom : w0.heap.size ≤ mb
 n28 : g2 ≠ g8
 b1 : W.heap[g1]? = some (.cells c1 26 (0, 0))
 b2 : W.heap[g2]? = some (.cells #[.slice none 0 0, .slice none 0 0, .slice none 0 0] 31 (0, 0))
 b8 : W.heap[g8]? = some (.cells #[vt, va, vn] 31 (0, 0))
 map : Names_ Try.prog 59 3 atom_Raw.PV W mb pm D
 list : atom_Raw.PK.R 59 W w0.heap.size (fun _ => True) vL ps
 lets : (Kd.int .i64).R 2 W w0.heap.size (fun _ => True) v9 letters
 tr_ : Kd.string.R 9 W w0.heap.size (fun _ => True) vt tr
 ac_ : Kd.bool.R 4 W w0.heap.size (fun _ => True) va ac
 nx_ : Kd.S (Kd.slice 3 (Kd.int .i64)) 42 W w0.heap.size (fun k => k < B) vn nx
section
variable {w0 W W1 : World} {g1 g2 g8 mb B : Nat} {c1 : Array Value} {vL v9 vt va vn : Value} {pm ps : List atom_Raw.Place} {D : DataW Unit} {letters : List Int} {tr : List ByteArray} {ac : List Bool} {nx : List (List Int)}
theorem atom_Raw.At.kept (h : atom_Raw.At w0 W g1 g2 g8 mb B c1 vL v9 vt va vn pm ps D letters tr ac nx) (hb : Below W.heap.size W W1) : atom_Raw.At w0 W1 g1 g2 g8 mb B c1 vL v9 vt va vn pm ps D letters tr ac nx :=
 ⟨below_step h.bel hb, h.lo2, h.lo8, h.lom, h.n28, blk_below h.b1 hb, blk_below h.b2 hb, blk_below h.b8 hb, h.map.kept (grown_of_below hb none) (by simp), Kd.R_below h.list hb, Kd.R_below h.lets hb, Kd.R_below h.tr_ hb, Kd.R_below h.ac_ hb, Kd.S_below h.nx_ hb⟩
/-- The map has grown. -/
theorem atom_Raw.At.mapped (h : atom_Raw.At w0 W g1 g2 g8 mb B c1 vL v9 vt va vn pm ps D letters tr ac nx) (hg : W.grownBy W1 (some mb)) {pm' : List atom_Raw.Place} {D' : DataW Unit} (hm : Names_ Try.prog 59 3 atom_Raw.PV W1 mb pm' D') :
  atom_Raw.At w0 W1 g1 g2 g8 mb B c1 vL v9 vt va vn pm' ps D' letters tr ac nx := by
 have off : ∀ T, Off W (some mb) T := fun T g hg q hq cs hc => by
  obtain rfl := Option.some.inj hg; obtain ⟨es, n, ho, _⟩ := h.map.own; rw [ho] at hc; cases hc
 exact ⟨pw_below_grown h.bel (some mb) (below_size h.bel) hg (fun k hk => by obtain rfl := Option.some.inj hk; exact h.lom), h.lo2, h.lo8, h.lom, h.n28,
  blk_off h.b1 hg (off [26]) (by simp), blk_off h.b2 hg (off [31]) (by simp), blk_off h.b8 hg (off [31]) (by simp), hm,
  R_off h.list hg (fun g e _ => off _ g e), R_off h.lets hg (fun g e _ => off _ g e), R_off h.tr_ hg (fun g e _ => off _ g e), R_off h.ac_ hg (fun g e _ => off _ g e), S_off h.nx_ hg (fun g e _ => off _ g e)⟩
theorem atom_Raw.At.listed (h : atom_Raw.At w0 W g1 g2 g8 mb B c1 vL v9 vt va vn pm ps D letters tr ac nx) (hg : W.grownBy W1 vL.ownBlock) {vL' : Value} {ps' : List atom_Raw.Place} (hl : atom_Raw.PK.R 59 W1 w0.heap.size (fun _ => True) vL' ps') (hb : Below w0.heap.size w0 W1) :
  atom_Raw.At w0 W1 g1 g2 g8 mb B c1 vL' v9 vt va vn pm ps' D letters tr ac nx := by
 have ty := Kd.R_typed h.list
 have hm : vL.ownBlock ≠ some mb := fun e => by
  obtain ⟨cs, hc⟩ := ty mb e; obtain ⟨es, n, ho, _⟩ := h.map.own; rw [ho] at hc; cases hc
 exact ⟨hb, h.lo2, h.lo8, h.lom, h.n28, blk_off h.b1 hg (Off.typed (T := [26]) ty (by decide)) (by simp), blk_off h.b2 hg (Off.typed (T := [31]) ty (by decide)) (by simp), blk_off h.b8 hg (Off.typed (T := [31]) ty (by decide)) (by simp),
  h.map.kept hg (fun e => hm e.symm), hl, R_off h.lets hg (fun g e _ => Off.typed (T := [2]) ty (by decide) g e), R_off h.tr_ hg (fun g e _ => Off.typed (T := [9]) ty (by decide) g e), R_off h.ac_ hg (fun g e _ => Off.typed (T := [4]) ty (by decide) g e), S_off h.nx_ hg (fun g e _ => Off.typed (T := [42, 3]) ty (by decide) g e)⟩
/-- A row of ints that is younger than B has been written. -/
theorem atom_Raw.At.rowed (h : atom_Raw.At w0 W g1 g2 g8 mb B c1 vL v9 vt va vn pm ps D letters tr ac nx) {g j : Nat} {x : Value} {cs : Array Value} (hg : W.heap[g]? = some (.cells cs 3 (0, 0))) (hB : B ≤ g) (hw : w0.heap.size ≤ g) :
  atom_Raw.At w0 (W.setCell ⟨g, j, none⟩ x) g1 g2 g8 mb B c1 vL v9 vt va vn pm ps D letters tr ac nx := by
 have gr := grown_set W g j x
 have ty : ∀ k, some g = some k → ∃ cells, W.heap[k]? = some (.cells cells 3 (0, 0)) := fun k e => by obtain rfl := Option.some.inj e; exact ⟨_, hg⟩
 have hm : some mb ≠ some g := fun e => by
  obtain rfl := Option.some.inj e; obtain ⟨es, n, ho, _⟩ := h.map.own; rw [ho] at hg; cases hg
 exact ⟨below_set h.bel hw, h.lo2, h.lo8, h.lom, h.n28, blk_off h.b1 gr (Off.typed (T := [26]) ty (by decide)) (by simp), blk_off h.b2 gr (Off.typed (T := [31]) ty (by decide)) (by simp), blk_off h.b8 gr (Off.typed (T := [31]) ty (by decide)) (by simp),
  h.map.kept gr hm, R_off h.list gr (fun g e _ => Off.typed (T := [59]) ty (by decide) g e), R_off h.lets gr (fun g e _ => Off.typed (T := [2]) ty (by decide) g e), R_off h.tr_ gr (fun g e _ => Off.typed (T := [9]) ty (by decide) g e), R_off h.ac_ gr (fun g e _ => Off.typed (T := [4]) ty (by decide) g e),
  S_off h.nx_ gr (fun g' e hk => by obtain rfl := Option.some.inj e; exact absurd hk (by omega))⟩
/-- The answer's box has been written. -/
theorem atom_Raw.At.acc (h : atom_Raw.At w0 W g1 g2 g8 mb B c1 vL v9 vt va vn pm ps D letters tr ac nx) (hg : W.grownBy W1 va.ownBlock) {va' : Value} {ac' : List Bool} (hl : Kd.bool.R 4 W1 w0.heap.size (fun _ => True) va' ac') (hb : Below w0.heap.size w0 W1) :
  atom_Raw.At w0 (W1.setCell ⟨g8, 1, none⟩ va') g1 g2 g8 mb B c1 vL v9 vt va' vn pm ps D letters tr ac' nx := by
 have ty := Kd.R_typed h.ac_
 have hm : some mb ≠ va.ownBlock := fun e => by
  obtain ⟨cs, hc⟩ := ty mb e.symm; obtain ⟨es, n, ho, _⟩ := h.map.own; rw [ho] at hc; cases hc
 have b8 := blk_off h.b8 hg (Off.typed (T := [31]) ty (by decide)) (by simp); have b2 := blk_off h.b2 hg (Off.typed (T := [31]) ty (by decide)) (by simp); have gr := grown_set W1 g8 1 va'
 have t8 : ∀ k, some g8 = some k → ∃ cells, W1.heap[k]? = some (.cells cells 31 (0, 0)) := fun k e => by obtain rfl := Option.some.inj e; exact ⟨_, b8⟩
 have hm8 : some mb ≠ some g8 := fun e => by
  obtain rfl := Option.some.inj e; obtain ⟨es, n, ho, _⟩ := h.map.own; have hc := h.b8; rw [ho] at hc; cases hc
 have f : ∀ (T : List Nat), (∀ q, q ∈ T → q ≠ 4) → Off W va.ownBlock T := fun T hT => Off.typed ty hT
 have f8 : ∀ (T : List Nat), (∀ q, q ∈ T → q ≠ 31) → Off W1 (some g8) T := fun T hT => Off.typed t8 hT
 exact ⟨below_set hb h.lo8, h.lo2, h.lo8, h.lom, h.n28, blk_off (blk_off h.b1 hg (f [26] (by decide)) (by simp)) gr (f8 [26] (by decide)) (by simp), blk_grown b2 gr (fun e => h.n28 (Option.some.inj e)), blk_put b8 1 va' rfl,
  (h.map.kept hg hm).kept gr hm8, R_off (R_off h.list hg (fun g e _ => f [59] (by decide) g e)) gr (fun g e _ => f8 [59] (by decide) g e), R_off (R_off h.lets hg (fun g e _ => f [2] (by decide) g e)) gr (fun g e _ => f8 [2] (by decide) g e),
  R_off (R_off h.tr_ hg (fun g e _ => f [9] (by decide) g e)) gr (fun g e _ => f8 [9] (by decide) g e), R_off hl gr (fun g e _ => f8 [4] (by decide) g e), S_off (S_off h.nx_ hg (fun g e _ => f [42, 3] (by decide) g e)) gr (fun g e _ => f8 [42, 3] (by decide) g e)⟩
theorem atom_Raw.At.nex (h : atom_Raw.At w0 W g1 g2 g8 mb B c1 vL v9 vt va vn pm ps D letters tr ac nx) (hg : W.grownBy W1 vn.ownBlock) {vn' : Value} {nx' : List (List Int)} (hl : Kd.S (Kd.slice 3 (Kd.int .i64)) 42 W1 w0.heap.size (fun _ => True) vn' nx') (hb : Below w0.heap.size w0 W1) :
  atom_Raw.At w0 (W1.setCell ⟨g8, 2, none⟩ vn') g1 g2 g8 mb (W1.setCell ⟨g8, 2, none⟩ vn').heap.size c1 vL v9 vt va vn' pm ps D letters tr ac nx' := by
 have ty := Kd.S_typed h.nx_
 have hm : some mb ≠ vn.ownBlock := fun e => by
  obtain ⟨cs, hc⟩ := ty mb e.symm; obtain ⟨es, n, ho, _⟩ := h.map.own; rw [ho] at hc; cases hc
 have b8 := blk_off h.b8 hg (Off.typed (T := [31]) ty (by decide)) (by simp); have b2 := blk_off h.b2 hg (Off.typed (T := [31]) ty (by decide)) (by simp); have gr := grown_set W1 g8 2 vn'
 have t8 : ∀ k, some g8 = some k → ∃ cells, W1.heap[k]? = some (.cells cells 31 (0, 0)) := fun k e => by obtain rfl := Option.some.inj e; exact ⟨_, b8⟩
 have hm8 : some mb ≠ some g8 := fun e => by
  obtain rfl := Option.some.inj e; obtain ⟨es, n, ho, _⟩ := h.map.own; have hc := h.b8; rw [ho] at hc; cases hc
 have f : ∀ (T : List Nat), (∀ q, q ∈ T → q ≠ 42) → Off W vn.ownBlock T := fun T hT => Off.typed ty hT
 have f8 : ∀ (T : List Nat), (∀ q, q ∈ T → q ≠ 31) → Off W1 (some g8) T := fun T hT => Off.typed t8 hT
 exact ⟨below_set hb h.lo8, h.lo2, h.lo8, h.lom, h.n28, blk_off (blk_off h.b1 hg (f [26] (by decide)) (by simp)) gr (f8 [26] (by decide)) (by simp), blk_grown b2 gr (fun e => h.n28 (Option.some.inj e)), blk_put b8 2 vn' rfl,
  (h.map.kept hg hm).kept gr hm8, R_off (R_off h.list hg (fun g e _ => f [59] (by decide) g e)) gr (fun g e _ => f8 [59] (by decide) g e), R_off (R_off h.lets hg (fun g e _ => f [2] (by decide) g e)) gr (fun g e _ => f8 [2] (by decide) g e),
  R_off (R_off h.tr_ hg (fun g e _ => f [9] (by decide) g e)) gr (fun g e _ => f8 [9] (by decide) g e), R_off (R_off h.ac_ hg (fun g e _ => f [4] (by decide) g e)) gr (fun g e _ => f8 [4] (by decide) g e),
  Kd.S_mono (Kd.S_bound (S_off hl gr (fun g e _ => f8 [42, 3] (by decide) g e))) (fun k hk => hk.2.2.1)⟩
theorem atom_Raw.At.reB (h : atom_Raw.At w0 W g1 g2 g8 mb B c1 vL v9 vt va vn pm ps D letters tr ac nx) {B' : Nat} (hB : W.heap.size ≤ B') : atom_Raw.At w0 W g1 g2 g8 mb B' c1 vL v9 vt va vn pm ps D letters tr ac nx :=
 ⟨h.bel, h.lo2, h.lo8, h.lom, h.n28, h.b1, h.b2, h.b8, h.map, h.list, h.lets, h.tr_, h.ac_, Kd.S_mono (Kd.S_bound h.nx_) (fun k hk => Nat.lt_of_lt_of_le hk.2.2.1 hB)⟩
theorem atom_Raw.At.acc_row (h : atom_Raw.At w0 W g1 g2 g8 mb B c1 vL v9 vt va vn pm ps D letters tr ac nx) (hg : W.grownBy W1 va.ownBlock) {base : Nat} {ok : Nat → Prop} {u x : Value} {us : List Int} {j : Nat} (hr : (Kd.int .i64).R 3 W base ok u us) :
  (Kd.int .i64).R 3 (W1.setCell ⟨g8, j, none⟩ x) base ok u us := by
 have ty := Kd.R_typed h.ac_; have b8 := blk_off h.b8 hg (Off.typed (T := [31]) ty (by decide)) (by simp)
 have t8 : ∀ k, some g8 = some k → ∃ cells, W1.heap[k]? = some (.cells cells 31 (0, 0)) := fun k e => by obtain rfl := Option.some.inj e; exact ⟨_, b8⟩
 exact R_off (R_off hr hg (fun g e _ => Off.typed (T := [3]) ty (by decide) g e)) (grown_set _ _ _ _) (fun g e _ => Off.typed (T := [3]) t8 (by decide) g e)
/-- The answer is laid into the result's box. -/
theorem atom_Raw.At.out (h : atom_Raw.At w0 W g1 g2 g8 mb B c1 vL v9 vt va vn pm ps D letters tr ac nx) :
  (((W.setCell ⟨g2, 0, none⟩ vt).setCell ⟨g2, 1, none⟩ va).setCell ⟨g2, 2, none⟩ vn).heap[g2]? = some (.cells #[vt, va, vn] 31 (0, 0)) ∧
  Kd.string.R 9 (((W.setCell ⟨g2, 0, none⟩ vt).setCell ⟨g2, 1, none⟩ va).setCell ⟨g2, 2, none⟩ vn) w0.heap.size (fun _ => True) vt tr ∧
  Kd.bool.R 4 (((W.setCell ⟨g2, 0, none⟩ vt).setCell ⟨g2, 1, none⟩ va).setCell ⟨g2, 2, none⟩ vn) w0.heap.size (fun _ => True) va ac ∧
  Kd.S (Kd.slice 3 (Kd.int .i64)) 42 (((W.setCell ⟨g2, 0, none⟩ vt).setCell ⟨g2, 1, none⟩ va).setCell ⟨g2, 2, none⟩ vn) w0.heap.size (fun _ => True) vn nx ∧ Below w0.heap.size w0 (((W.setCell ⟨g2, 0, none⟩ vt).setCell ⟨g2, 1, none⟩ va).setCell ⟨g2, 2, none⟩ vn) := by
 have b0 := h.b2; have b1 := blk_put b0 0 vt rfl; have b2 := blk_put b1 1 va rfl
 have ty : ∀ {X : World} {cs : Array Value}, X.heap[g2]? = some (.cells cs 31 (0, 0)) → ∀ k, some g2 = some k → ∃ cells, X.heap[k]? = some (.cells cells 31 (0, 0)) := fun hx k e => by obtain rfl := Option.some.inj e; exact ⟨_, hx⟩
 have f : ∀ {X : World} {cs : Array Value}, X.heap[g2]? = some (.cells cs 31 (0, 0)) → ∀ (T : List Nat), (∀ q, q ∈ T → q ≠ 31) → Off X (some g2) T := fun hx T hT => Off.typed (ty hx) hT
 refine ⟨blk_put b2 2 vn rfl, ?_, ?_, ?_, below_set (below_set (below_set h.bel h.lo2) h.lo2) h.lo2⟩
 ·exact R_off (R_off (R_off h.tr_ (grown_set _ _ _ _) (fun g e _ => f b0 [9] (by decide) g e)) (grown_set _ _ _ _) (fun g e _ => f b1 [9] (by decide) g e)) (grown_set _ _ _ _) (fun g e _ => f b2 [9] (by decide) g e)
 ·exact R_off (R_off (R_off h.ac_ (grown_set _ _ _ _) (fun g e _ => f b0 [4] (by decide) g e)) (grown_set _ _ _ _) (fun g e _ => f b1 [4] (by decide) g e)) (grown_set _ _ _ _) (fun g e _ => f b2 [4] (by decide) g e)
 ·exact Kd.S_mono (S_off (S_off (S_off h.nx_ (grown_set _ _ _ _) (fun g e _ => f b0 [42, 3] (by decide) g e)) (grown_set _ _ _ _) (fun g e _ => f b1 [42, 3] (by decide) g e)) (grown_set _ _ _ _) (fun g e _ => f b2 [42, 3] (by decide) g e)) (fun _ _ => trivial)
end
theorem atom_Raw.sums_len {l r : List Int} (h : atom_sums.f l = some r) : 0 < r.length ∧ r.length ≤ 1073741824 := by
 have hL : ∀ (l acc : List Int), (atom_sums.L acc l).length = acc.length * 2 ^ l.length := by
  intro l
  induction l with
  | nil => intro acc; simp [atom_sums.L]
  | cons c l ih => intro acc; rw [atom_sums.L, ih, List.length_append, List.length_map, List.length_cons, Nat.pow_succ, Nat.add_mul, Nat.mul_comm (2 ^ l.length) 2, ← Nat.mul_assoc, Nat.mul_two, Nat.add_mul]
 unfold atom_sums.f at h
 by_cases hl : l.length ≤ 30
 ·rw [if_pos hl] at h; obtain rfl := Option.some.inj h; rw [hL]; have h1 : 0 < 2 ^ l.length := Nat.pow_pos (by decide); have h2 : 2 ^ l.length ≤ 2 ^ 30 := Nat.pow_le_pow_right (by decide) hl; simp only [List.length_singleton, Nat.one_mul]; exact ⟨h1, h2⟩
 ·rw [if_neg hl] at h; cases h
theorem atom_Raw.zero (w : World) : (zeroValue 3).run Try.prog w = .ok (.int .i64 0) w := by kernel_rfl
theorem atom_Raw.infoP : (Try.prog.info? 59).map (fun i => (i.zero, i.size, i.bytes)) = some (some (.agg #[.int .i64 0, .int .i64 0, .bool false, .bool false, .bool false]), 5, 24) := by kernel_rfl
theorem atom_Raw.wf {n : Nat} (h : n ≤ 35184372088832) : (Lit.int .i64 (n : Int)).wf = true := by
 simp [Lit.wf, IntKind.min, IntKind.max, IntKind.signed, IntKind.bits]; omega
theorem atom_Raw.add_spell (a : Addr) (m j : Nat) (h : 0 < j) : a.add (m + j) = ⟨(a.add m).block, (a.add m).off + j, none⟩ := by
 unfold Addr.add
 rw [if_neg (by omega)]
 by_cases c : m = 0
 ·subst c; simp
 ·rw [if_neg c]; simp [Nat.add_assoc]
theorem atom_Raw.PK_at {W : World} {A : Option Addr} {ps : List atom_Raw.Place} (h : Kd.C atom_Raw.PK W A ps.length ps) (q : Nat) (hq : q < ps.length) :
  ∃ ad, A = some ad ∧ W.cell? (ad.add (q * 5)) = some (.int .i64 (ps.getD q atom_Raw.noPlace).1) ∧ W.cell? ⟨(ad.add (q * 5)).block, (ad.add (q * 5)).off + 1, none⟩ = some (.int .i64 (ps.getD q atom_Raw.noPlace).2.1) ∧
   W.cell? ⟨(ad.add (q * 5)).block, (ad.add (q * 5)).off + 2, none⟩ = some (.bool (ps.getD q atom_Raw.noPlace).2.2.1) ∧ W.cell? ⟨(ad.add (q * 5)).block, (ad.add (q * 5)).off + 3, none⟩ = some (.bool (ps.getD q atom_Raw.noPlace).2.2.2.1) ∧
   W.cell? ⟨(ad.add (q * 5)).block, (ad.add (q * 5)).off + 4, none⟩ = some (.bool (ps.getD q atom_Raw.noPlace).2.2.2.2) := by
 obtain ⟨ad, c, e, hl, hK, hc⟩ := ReadsRow.get_ h atom_Raw.noPlace (q : Int) (by omega) (by omega); rw [Int.toNat_natCast] at hK hc; obtain ⟨_, _, rfl, rfl, _, _, rfl, rfl, _, _, rfl, rfl, _, _, rfl, rfl, rfl⟩ := hK; exact ⟨ad, e, hc 0 _ rfl, by rw [← atom_Raw.add_spell _ _ _ (by decide)]; exact hc 1 _ rfl, by rw [← atom_Raw.add_spell _ _ _ (by decide)]; exact hc 2 _ rfl, by rw [← atom_Raw.add_spell _ _ _ (by decide)]; exact hc 3 _ rfl, by rw [← atom_Raw.add_spell _ _ _ (by decide)]; exact hc 4 _ rfl⟩
theorem atom_Raw.to_some {kind : Int} {p z : atom_Raw.Place} {s : Int} (h : atom_Raw.to kind p s = some z) : atom_next.f kind p.1 p.2.1 p.2.2.1 p.2.2.2.1 p.2.2.2.2 s = some (z.1, z.2.1, z.2.2.1, z.2.2.2.1, z.2.2.2.2) ∧ (Lit.int .i64 z.1).wf = true ∧ (Lit.int .i64 z.2.1).wf = true := by
 unfold atom_Raw.to at h
 obtain ⟨y, hy, h⟩ := Option.bind_eq_some_iff.mp h
 by_cases h1 : (Lit.int .i64 y.1).wf = true
 case neg => rw [if_neg h1] at h; cases h
 by_cases h2 : (Lit.int .i64 y.2.1).wf = true
 case neg => rw [if_pos h1, if_neg h2] at h; cases h
 rw [if_pos h1, if_pos h2] at h; obtain rfl := Option.some.inj h; exact ⟨hy, h1, h2⟩
theorem Off.names {P : Program} {k e : TypeId} {val : atom_Raw.Place → Value} {W : World} {b : Nat} {ms : List atom_Raw.Place} {D : DataW Unit} (h : Names_ P k e val W b ms D) (T : List Nat) : Off W (some b) T := fun g hg q hq cs hc => by
 obtain rfl := Option.some.inj hg; obtain ⟨es, n, ho, _⟩ := h.own; rw [ho] at hc; cases hc
theorem atom_Raw.mono : ∀ a0 a1 a2 a3 a4 k, LeO (atom_Raw.f k a0 a1 a2 a3 a4) (atom_Raw.f (k + 1) a0 a1 a2 a3 a4) := fun a0 a1 a2 a3 a4 k => LeO.bind (norm_Check.mono a0 a1 a2 a3 a4 k) (fun _ => LeO.refl _)
set_option maxHeartbeats 8000000 in
set_option maxRecDepth 100000 in
theorem atom_Raw.calls (k : Nat) (a0_0 : Int) (A0_1 : Option Addr) (c0_1 : Nat) (l0_1 : List ByteArray) (A0_2 : Option Addr) (c0_2 : Nat) (l0_2 : List Int) (a0_3 : Int) (a0_4 : Int) (r1 : List ByteArray) (r2 : List Bool) (r3 : List (List Int)) (r4 : Int) (w : World)
  (hr0_1 : Kd.C Kd.string w A0_1 l0_1.length l0_1) (hc0_1 : l0_1.length ≤ c0_1) (hr0_2 : Kd.C (Kd.int .i64) w A0_2 l0_2.length l0_2) (hc0_2 : l0_2.length ≤ c0_2) (h : atom_Raw.f k a0_0 l0_1 l0_2 a0_3 a0_4 = some (r1, r2, r3, r4)) :
  Calls Try.prog 9 #[.agg #[.int .i64 a0_0, .slice A0_1 l0_1.length c0_1, .slice A0_2 l0_2.length c0_2, .int .i64 a0_3, .int .i64 a0_4]] w fun e w' => ∃ v0_ v1_ v2_ : Value, e = .returned (.tuple #[.agg #[v0_, v1_, v2_], .int .i64 r4]) ∧ Kd.R Kd.string 9 w' w.heap.size (fun _ => True) v0_ r1 ∧ Kd.R Kd.bool 4 w' w.heap.size (fun _ => True) v1_ r2 ∧ Kd.S (Kd.slice 3 (Kd.int .i64)) 42 w' w.heap.size (fun _ => True) v2_ r3 ∧ Below w.heap.size w w' := by
 unfold atom_Raw.f at h
 replace h := Option.bind_eq_some_iff.mp h; obtain ⟨e, he, h⟩ := h; have HE := Aside0.mk he; have H1 := Aside0.mk hr0_1; have H2 := Aside0.mk hr0_2; have C1 := Aside0.mk hc0_1; have C2 := Aside0.mk hc0_2; clear he hr0_1 hr0_2 hc0_1 hc0_2; have hmm := @run_makeMap Try.prog
 by_cases e0 : e = 0
 case neg =>
  rw [if_neg e0] at h
  have eb : (e != 0) = true := by simpa using e0
  simp only [Option.some.injEq, Prod.mk.injEq] at h; obtain ⟨rfl, rfl, rfl, rfl⟩ := h
  go_enter Try.func9, Try.ntmps9
  have HB := Aside0.mk (Below.refl w.heap.size w)
  go_wp2_with (first
   | ((with_reducible refine gate_dst (N := 1) rfl ?_); refine be_ (cs := #[.int .i64 a0_0, .slice A0_1 l0_1.length c0_1, .slice A0_2 l0_2.length c0_2, .int .i64 a0_3, .int .i64 a0_4]) (t := 26) ?_; intro gb1 hg w4 hbox hb; have BK1 := Aside0.mk hbox; have GE1 := gE hg (bO HB.out); replace HB := hS0 HB hb; clear hb hbox hg)
   | ((with_reducible refine gate_dst (N := 2) rfl ?_); refine be_ (cs := #[.slice none 0 0, .slice none 0 0, .slice none 0 0]) (t := 31) ?_; intro gb2 hg w5 hbox hb; have BK2 := Aside0.mk hbox; have GE2 := gE hg (bS1 HB.out GE1.out); replace HB := hS1 HB GE1 hb; have NB12 := nL hg BK1; have NB21 := nG hg BK1; replace BK1 := kB BK1 hb; clear hb hbox hg; obtain ⟨hz0, hz1, hz2, hz3, hz4, hf0, hf1, hf2, hf3, hf4⟩ := bF5 BK1.out)
   | (go_at_call 24; (with_reducible refine (norm_Check.calls k a0_0 _ _ l0_1 _ _ l0_2 a0_3 a0_4 e _ ?s1 C1.out ?s2 C2.out HE.out).mono ?_); (case s1 => exact (Kd.C_below H1.out (bS2 HB.out GE1.out GE2.out))); (case s2 => exact (Kd.C_below H2.out (bS2 HB.out GE1.out GE2.out))); rintro _ w6 ⟨rfl, hb⟩; have BQ2 := kB BK2 hb; have BQ1 := kB BK1 hb; have HBQ := hS2 HB GE1 GE2 hb; clear hb BK1 BK2 HB; obtain ⟨rz0, rz1, rz2, rf0, rf1, rf2⟩ := bF3 BQ2.out))
  refine bodyPost_ret (atom_Raw.res rfl _ _ gb2 31 #[.slice none 0 0, .slice none 0 0, .slice none 0 0] (0, 0) _ (.int .i64 e) rfl rfl (blk_put (blk_put (blk_put BQ2.out 0 _ rfl) 1 _ rfl) 2 _ rfl) Try.underlying31 rfl (by kernel_rfl)) rfl ?_; exact ⟨_, _, _, rfl, Kd.R_nil _ _ _ _ _, Kd.R_nil _ _ _ _ _, Kd.S_nil _ _ _ _ _, bS2 HBQ.out GE1.out GE2.out⟩
 case pos =>
  rw [if_pos e0] at h; subst e0
  by_cases e1 : (6 : Int) < (l0_1.length : Int)
  ·rw [if_pos e1] at h; have eb : decide ((6 : Int) < (l0_1.length : Int)) = true := decide_eq_true e1; simp only [Option.some.injEq, Prod.mk.injEq] at h; obtain ⟨rfl, rfl, rfl, rfl⟩ := h
   go_enter Try.func9, Try.ntmps9
   have HB := Aside0.mk (Below.refl w.heap.size w)
   go_wp2_with (first
   | ((with_reducible refine gate_dst (N := 1) rfl ?_); refine be_ (cs := #[.int .i64 a0_0, .slice A0_1 l0_1.length c0_1, .slice A0_2 l0_2.length c0_2, .int .i64 a0_3, .int .i64 a0_4]) (t := 26) ?_; intro gb1 hg w4 hbox hb; have BK1 := Aside0.mk hbox; have GE1 := gE hg (bO HB.out); replace HB := hS0 HB hb; clear hb hbox hg)
   | ((with_reducible refine gate_dst (N := 2) rfl ?_); refine be_ (cs := #[.slice none 0 0, .slice none 0 0, .slice none 0 0]) (t := 31) ?_; intro gb2 hg w5 hbox hb; have BK2 := Aside0.mk hbox; have GE2 := gE hg (bS1 HB.out GE1.out); replace HB := hS1 HB GE1 hb; have NB12 := nL hg BK1; have NB21 := nG hg BK1; replace BK1 := kB BK1 hb; clear hb hbox hg; obtain ⟨hz0, hz1, hz2, hz3, hz4, hf0, hf1, hf2, hf3, hf4⟩ := bF5 BK1.out)
   | (go_at_call 24; (with_reducible refine (norm_Check.calls k a0_0 _ _ l0_1 _ _ l0_2 a0_3 a0_4 0 _ ?s1 C1.out ?s2 C2.out HE.out).mono ?_); (case s1 => exact (Kd.C_below H1.out (bS2 HB.out GE1.out GE2.out))); (case s2 => exact (Kd.C_below H2.out (bS2 HB.out GE1.out GE2.out))); rintro _ w6 ⟨rfl, hb⟩; have BQ2 := kB BK2 hb; have BQ1 := kB BK1 hb; have HBQ := hS2 HB GE1 GE2 hb; clear hb BK1 BK2 HB; obtain ⟨rz0, rz1, rz2, rf0, rf1, rf2⟩ := bF3 BQ2.out; clear hz0 hz1 hz2 hz3 hz4 hf0 hf1 hf2 hf3 hf4; obtain ⟨hz0, hz1, hz2, hz3, hz4, hf0, hf1, hf2, hf3, hf4⟩ := bF5 BQ1.out))
   refine bodyPost_ret (atom_Raw.res rfl _ _ gb2 31 #[.slice none 0 0, .slice none 0 0, .slice none 0 0] (0, 0) _ (.int .i64 150) rfl rfl (blk_put (blk_put (blk_put BQ2.out 0 _ rfl) 1 _ rfl) 2 _ rfl) Try.underlying31 rfl (by kernel_rfl)) rfl ?_; exact ⟨_, _, _, rfl, Kd.R_nil _ _ _ _ _, Kd.R_nil _ _ _ _ _, Kd.S_nil _ _ _ _ _, bS2 HBQ.out GE1.out GE2.out⟩
  ·rw [if_neg e1] at h; have eb : decide ((6 : Int) < (l0_1.length : Int)) = false := decide_eq_false e1; replace h := Option.bind_eq_some_iff.mp h; obtain ⟨tr, htr, h⟩ := h; replace h := Option.bind_eq_some_iff.mp h; obtain ⟨letters, hle, h⟩ := h
   by_cases wb : (Lit.int .i64 a0_3).wf = true
   case neg => rw [if_neg wb] at h; cases h
   by_cases wm : (Lit.int .i64 a0_4).wf = true
   case neg => rw [if_pos wb, if_neg wm] at h; cases h
   rw [if_pos wb, if_pos wm] at h; replace h := Option.bind_eq_some_iff.mp h; obtain ⟨z, hgo, h⟩ := h; obtain ⟨kl, hkey⟩ := atom_Raw.key (a0_3, a0_4, true, false, false) wb wm; have hkey' : keyOf Try.prog 59 (.agg #[.int .i64 a0_3, .int .i64 a0_4, .bool true, .bool false, .bool false]) = some kl := hkey; have HTR := Aside0.mk htr; have HLE := Aside0.mk hle; have HGO := Aside0.mk hgo; have HZ := Aside0.mk h; clear htr hle hgo h wb wm
   go_enter Try.func9, Try.ntmps9
   have HB := Aside0.mk (Below.refl w.heap.size w)
   go_upto_region 6 with (first
   | ((with_reducible refine gate_dst (N := 1) rfl ?_); refine be_ (cs := #[.int .i64 a0_0, .slice A0_1 l0_1.length c0_1, .slice A0_2 l0_2.length c0_2, .int .i64 a0_3, .int .i64 a0_4]) (t := 26) ?_; intro gb1 hg w4 hbox hb; have BK1 := Aside0.mk hbox; have GE1 := gE hg (bO HB.out); replace HB := hS0 HB hb; clear hb hbox hg)
   | ((with_reducible refine gate_dst (N := 2) rfl ?_); refine be_ (cs := #[.slice none 0 0, .slice none 0 0, .slice none 0 0]) (t := 31) ?_; intro gb2 hg w5 hbox hb; have BK2 := Aside0.mk hbox; have GE2 := gE hg (bS1 HB.out GE1.out); replace HB := hS1 HB GE1 hb; have NB12 := nL hg BK1; have NB21 := nG hg BK1; replace BK1 := kB BK1 hb; clear hb hbox hg; obtain ⟨hz0, hz1, hz2, hz3, hz4, hf0, hf1, hf2, hf3, hf4⟩ := bF5 BK1.out)
   | (go_at_call 24; (with_reducible refine (norm_Check.calls k a0_0 _ _ l0_1 _ _ l0_2 a0_3 a0_4 0 _ ?s1 C1.out ?s2 C2.out HE.out).mono ?_); (case s1 => exact (Kd.C_below H1.out (bS2 HB.out GE1.out GE2.out))); (case s2 => exact (Kd.C_below H2.out (bS2 HB.out GE1.out GE2.out))); rintro _ w6 ⟨rfl, hb⟩; have BQ2 := kB BK2 hb; have BQ1 := kB BK1 hb; have HBQ := hS2 HB GE1 GE2 hb; clear hb BK1 BK2 HB; clear hz0 hz1 hz2 hz3 hz4 hf0 hf1 hf2 hf3 hf4; obtain ⟨hz0, hz1, hz2, hz3, hz4, hf0, hf1, hf2, hf3, hf4⟩ := bF5 BQ1.out))
   go_upto_region 7 with ((with_reducible refine gate_dst (N := 5) rfl ?_); refine be_ (cs := #[.int .i64 0, .int .i64 0, .bool false, .bool false, .bool false]) (t := 59) ?_; intro gb5 hg w7 hbox hb; have BK5 := Aside0.mk hbox; have GE5 := gE hg (bS2 HBQ.out GE1.out GE2.out); have HBR := hS2 HBQ GE1 GE2 hb; have NB15 := nL hg BQ1; have NB25 := nL hg BQ2; have BR1 := kB BQ1 hb; have BR2 := kB BQ2 hb; clear hb hbox hg; obtain ⟨pz0, pz1, pz2, pz3, pz4, pf0, pf1, pf2, pf3, pf4⟩ := bF5 BK5.out)
   have K5 := blk_put (blk_put (blk_put (blk_put (blk_put BK5.out 0 (.int .i64 a0_3) rfl) 1 (.int .i64 a0_4) rfl) 2 (.bool true) rfl) 3 (.bool false) rfl) 4 (.bool false) rfl
   have FB : ∀ k, k ≠ gb5 → (((((w7.setCell ⟨gb5, 0, none⟩ (.int .i64 a0_3)).setCell ⟨gb5, 1, none⟩ (.int .i64 a0_4)).setCell ⟨gb5, 2, none⟩ (.bool true)).setCell ⟨gb5, 3, none⟩ (.bool false)).setCell ⟨gb5, 4, none⟩ (.bool false)).heap[k]? = w7.heap[k]? := fun k hk => by
    rw [Below.heap_setCell _ _ _ k hk, Below.heap_setCell _ _ _ k hk, Below.heap_setCell _ _ _ k hk, Below.heap_setCell _ _ _ k hk, Below.heap_setCell _ _ _ k hk]
   have HB8 := below_set (g := gb5) (j := 4) (v := .bool false) (below_set (g := gb5) (j := 3) (v := .bool false) (below_set (g := gb5) (j := 2) (v := .bool true) (below_set (g := gb5) (j := 1) (v := .int .i64 a0_4) (below_set (g := gb5) (j := 0) (v := .int .i64 a0_3) (bS2 HBR.out GE1.out GE2.out) GE5.out) GE5.out) GE5.out) GE5.out) GE5.out; have B1 := (FB gb1 (fun e => by have := NB15.out; exact absurd e this)).trans BR1.out; have B2 := (FB gb2 (fun e => by have := NB25.out; exact absurd e this)).trans BR2.out; clear FB; generalize (((((w7.setCell ⟨gb5, 0, none⟩ (.int .i64 a0_3)).setCell ⟨gb5, 1, none⟩ (.int .i64 a0_4)).setCell ⟨gb5, 2, none⟩ (.bool true)).setCell ⟨gb5, 3, none⟩ (.bool false)).setCell ⟨gb5, 4, none⟩ (.bool false)) = w8 at K5 HB8 B1 B2 ⊢; have K5 := Aside0.mk K5; have B1 := Aside0.mk B1; have B2 := Aside0.mk B2; have HB8 := Aside0.mk HB8; clear BK5 BR1 BR2 HBR HBQ BQ1 BQ2 pz0 pz1 pz2 pz3 pz4 pf0 pf1 pf2 pf3 pf4 hz0 hz1 hz2 hz3 hz4 hf0 hf1 hf2 hf3 hf4; obtain ⟨pz0, pz1, pz2, pz3, pz4, pf0, pf1, pf2, pf3, pf4⟩ := bF5 K5.out
   have mapC : ∀ o : Obj, (w8.alloc o).cell? ⟨gb5, 0, none⟩ = some (.int .i64 a0_3) ∧ (w8.alloc o).cell? ⟨gb5, 1, none⟩ = some (.int .i64 a0_4) ∧ (w8.alloc o).cell? ⟨gb5, 2, none⟩ = some (.bool true) ∧ (w8.alloc o).cell? ⟨gb5, 3, none⟩ = some (.bool false) ∧ (w8.alloc o).cell? ⟨gb5, 4, none⟩ = some (.bool false) := fun o => by
    have b := below_alloc (Below.refl w8.heap.size w8) o; exact ⟨pw_cell_below b pz0, pw_cell_below b pz1, pw_cell_below b pz2, pw_cell_below b pz3, pw_cell_below b pz4⟩
   have mc0 := fun o => (mapC o).1
   have mc1 := fun o => (mapC o).2.1
   have mc2 := fun o => (mapC o).2.2.1
   have mc3 := fun o => (mapC o).2.2.2.1
   have mc4 := fun o => (mapC o).2.2.2.2
   clear mapC; obtain ⟨w9, hrun, hown, hgrow⟩ := World.ownsMap.update (H := Unit) (World.ownsMap_made w8 Try.prog 59 (plainElem Try.prog 3)) atom_Raw.law Try.underlying60 (by decide) hkey' (val := .int .i64 0) (d := .lit (.int .i64 0)) (ps := []) (plainElem_int (a := 0) Try.underlying3 (by decide)); have HN := Aside0.mk (Names_.put atom_Raw.law atom_Raw.PV_inj (Names_.new Try.prog 59 3 atom_Raw.PV w8) hkey (by simp) hown); have HGR := Aside0.mk hgrow; clear hown hgrow; have hg9 := HGR.out; have K9 := blk_grown (blk_alloc K5.out (.map #[] 0)) hg9 (by have := blk_lt K5.out; simp; omega); have B91 := Aside0.mk (blk_grown (blk_alloc B1.out (.map #[] 0)) hg9 (by have := blk_lt B1.out; simp; omega)); have B92 := Aside0.mk (blk_grown (blk_alloc B2.out (.map #[] 0)) hg9 (by have := blk_lt B2.out; simp; omega)); have HB9 := Aside0.mk (pw_below_grown (below_alloc HB8.out (.map #[] 0)) (some w8.heap.size) (by have := below_size HB8.out; simp; omega) hg9 (fun k hk => by cases hk; exact below_size HB8.out)); obtain ⟨mb, emb⟩ : ∃ mb, mb = w8.heap.size := ⟨_, rfl⟩; have LOM := Aside0.mk (show w.heap.size ≤ mb by rw [emb]; exact below_size HB8.out)
   go_upto_region 8 with (fail)
   rw [← emb] at HN; rw [← emb]; clear HGR hg9 hrun mc0 mc1 mc2 mc3 mc4 pz0 pz1 pz2 pz3 pz4 pf0 pf1 pf2 pf3 pf4 K5 B1 B2 HB8 emb; obtain ⟨pz0, pz1, pz2, pz3, pz4, pf0, pf1, pf2, pf3, pf4⟩ := bF5 K9; clear pf0 pf1 pf2 pf3 pf4; have K9 := Aside0.mk K9
   go_upto_region 9 with ((with_reducible refine gate_dst (N := 37) rfl ?_); go_loud (refine Kd.R_lit atom_Raw.PK (w0 := w) w.heap.size 59 ?hg (N := 37) ?hd (xs := [(a0_3, a0_4, true, false, false)]) (inner := [.int .i64 a0_3, .int .i64 a0_4, .bool true, .bool false, .bool false]) (ok := fun _ => True) (okp := fun _ => True) ?hr ?hp (fun _ hk => hk) trivial HB9.out (below_size HB9.out) (by simp) ?_; (case hd => rfl); (case hg => rfl); (case hr => first | (go_simp; done) | (go_simp; rfl)); (case hp => exact Reps.snoc (Reps.none _ _) (atom_Raw.PK_M _ _ _ (a0_3, a0_4, true, false, false)) rfl); intro vL w10 ho hb hg hn; obtain ⟨AL, cL, eL⟩ := Kd.R_slice ho; replace eL : vL = .slice AL 1 cL := eL; subst eL; have HL10 := Aside0.mk ho; have HG10 := Aside0.mk (below_of_grown hg); clear ho hb hg hn pz0 pz1 pz2 pz3 pz4))
   have B101 := Aside0.mk (blk_below B91.out HG10.out); have B102 := Aside0.mk (blk_below B92.out HG10.out); have HN10 := Aside0.mk (HN.out.kept (grown_of_below HG10.out none) (by simp)); have HB10 := Aside0.mk (below_step HB9.out HG10.out); clear HN B91 B92 HB9 HG10 K9; obtain ⟨hz0, hz1, hz2, hz3, hz4, hf0, hf1, hf2, hf3, hf4⟩ := bF5 B101.out; clear hf0 hf1 hf2 hf3 hf4 hz0 hz2 hz3 hz4
   go_upto_region 10 with (first
    | (go_at_call 25; (with_reducible refine (slices_Clone_string_string.calls _ _ l0_1 tr _ ?s0 C1.out HTR.out).mono ?_); (case s0 => exact Kd.C_below H1.out HB10.out); rintro _ w11 ⟨vt, rfl, hr, hb⟩; obtain ⟨At_, ct_, et_⟩ := Kd.R_slice hr; subst et_; have HT11 := Aside0.mk (Kd.R_lower hr (below_size HB10.out)); have HB11 := Aside0.mk (below_step HB10.out hb); have B111 := Aside0.mk (blk_below B101.out hb); have B112 := Aside0.mk (blk_below B102.out hb); have HN11 := Aside0.mk (HN10.out.kept (grown_of_below hb none) (by simp)); have HL11 := Aside0.mk (Kd.R_below HL10.out hb); clear hr hb HL10 HN10 B101 B102 HB10 hz1)
    | ((with_reducible refine gate_dst (N := 8) rfl ?_); refine be_ (cs := #[.slice none 0 0, .slice none 0 0, .slice none 0 0]) (t := 31) ?_; intro g8 hg w12 hbox hb; have BK8 := Aside0.mk hbox; have HG8 := Aside0.mk hg; have HB12 := Aside0.mk hb; clear hb hbox hg; obtain ⟨pz0, pz1, pz2, pf0, pf1, pf2⟩ := bF3 BK8.out))
   have HB13 := below_set (g := g8) (j := 2) (v := .slice none 0 0) (below_set (g := g8) (j := 1) (v := .slice none 0 0) (below_set (g := g8) (j := 0) (v := .slice At_ tr.length ct_) HB12.out (Nat.le_of_eq HG8.out.symm)) (Nat.le_of_eq HG8.out.symm)) (Nat.le_of_eq HG8.out.symm); have BK13 := blk_put (blk_put (blk_put BK8.out 0 (.slice At_ tr.length ct_) rfl) 1 (.slice none 0 0) rfl) 2 (.slice none 0 0) rfl; generalize (((w12.setCell ⟨g8, 0, none⟩ (.slice At_ tr.length ct_)).setCell ⟨g8, 1, none⟩ (.slice none 0 0)).setCell ⟨g8, 2, none⟩ (.slice none 0 0)) = w13 at HB13 BK13 ⊢; have B131 := Aside0.mk (blk_below B111.out HB13); have B132 := Aside0.mk (blk_below B112.out HB13); have HN13 := Aside0.mk (HN11.out.kept (grown_of_below HB13 none) (by simp)); have HL13 := Aside0.mk (Kd.R_below HL11.out HB13); have HT13 := Aside0.mk (Kd.R_below HT11.out HB13); have LO8 : Aside0 (w.heap.size ≤ g8) := ⟨by rw [HG8.out]; exact below_size HB11.out⟩; have N28 : Aside0 (gb2 ≠ g8) := ⟨by have := blk_lt B112.out; have := HG8.out; omega⟩; have HBD := Aside0.mk (below_step HB11.out HB13); have BK13 := Aside0.mk BK13; clear HB13 B111 B112 HN11 HL11 HT11 HG8 HB11 HB12 BK8 pz0 pz1 pz2 pf0 pf1 pf2; obtain ⟨hz0, hz1, hz2, hz3, hz4, hf0, hf1, hf2, hf3, hf4⟩ := bF5 B131.out; clear hf0 hf1 hf2 hf3 hf4 hz0 hz1 hz3 hz4
   go_upto_region 11 with (go_at_call 26; go_loud ((with_reducible refine (atom_sums.calls _ _ l0_2 letters _ ?s0 C2.out HLE.out).mono ?_); (case s0 => exact Kd.C_below H2.out HBD.out); rintro _ w14 ⟨v9, rfl, hr, hb⟩; obtain ⟨A9, c9, e9⟩ := Kd.R_slice hr; subst e9; have AT := Aside0.mk (show atom_Raw.At w w14 gb1 gb2 g8 mb w14.heap.size #[.int .i64 a0_0, .slice A0_1 l0_1.length c0_1, .slice A0_2 l0_2.length c0_2, .int .i64 a0_3, .int .i64 a0_4] (.slice AL 1 cL) (.slice A9 letters.length c9) (.slice At_ tr.length ct_) (.slice none 0 0) (.slice none 0 0) [(a0_3, a0_4, true, false, false)] [(a0_3, a0_4, true, false, false)] _ letters tr [] [] from ⟨below_step HBD.out hb, GE2.out, LO8.out, LOM.out, N28.out, blk_below B131.out hb, blk_below B132.out hb, blk_below BK13.out hb, HN13.out.kept (grown_of_below hb none) (by simp), Kd.R_below HL13.out hb, Kd.R_lower hr (below_size HBD.out), Kd.R_below HT13.out hb, Kd.R_nil _ _ _ _ _, Kd.S_nil _ _ _ _ _⟩); clear hr hb hz2))
   clear HBD B131 B132 BK13 HN13 HL13 HT13 LO8 N28 LOM GE1 GE2 GE5 NB12 NB21 NB15 NB25 H1 H2 C1 C2 HE; have HLL := Aside0.mk (atom_Raw.sums_len HLE.out); clear HLE
   go_wp2
   go_loopw [7, 10] (fun v7 v10 wr => ∃ (m q : Nat) (ps : List atom_Raw.Place) (D : DataW Unit) (ac : List Bool) (nx : List (List Int)) (AL : Option Addr) (cL B : Nat) (va vn : Value), v7 = .slice AL ps.length cL ∧ v10 = .int .i64 (q : Int) ∧ q ≤ ps.length ∧ ps.length ≤ 256 ∧ Aside0 (ac.length = q ∧ nx.length = q) ∧ Aside0 (atom_Raw.go a0_0 letters m q ps ac nx = some z) ∧ Aside0 (atom_Raw.At w wr gb1 gb2 g8 mb B #[.int .i64 a0_0, .slice A0_1 l0_1.length c0_1, .slice A0_2 l0_2.length c0_2, .int .i64 a0_3, .int .i64 a0_4] (.slice AL ps.length cL) (.slice A9 letters.length c9) (.slice At_ tr.length ct_) va vn ps ps D letters tr ac nx)) (fun _ v10 _ => 257 - (intOf v10).toNat)
   case atStart => exact ⟨257, 0, _, _, [], [], _, _, _, _, _, rfl, rfl, by simp, by simp, ⟨rfl, rfl⟩, HGO, AT⟩
   case round =>
    clear AT HGO; obtain ⟨m, q, ps, D, ac, nx, AL, cL, B, va, vn, rfl, rfl, hq, hps, HLN, HGO, AT⟩ := hrel
    by_cases cq : q < ps.length
    ·have hg := HGO.out; cases m with
     | zero => cases hg
     | succ m =>
     rw [atom_Raw.go, if_pos cq] at hg; replace hg := Option.bind_eq_some_iff.mp hg; obtain ⟨z1, hrow, hz1⟩ := hg; obtain ⟨p, hp⟩ : ∃ p, p = ps.getD q atom_Raw.noPlace := ⟨_, rfl⟩; rw [← hp] at hrow; have HROW := Aside0.mk hrow; have HZ1 := Aside0.mk hz1; have HP := Aside0.mk hp.symm; have cb : decide ((q : Int) < (ps.length : Int)) = true := decide_eq_true (by omega)
     have hll : (letters.length : Int) ≤ 1073741824 := by have := HLL.out.2; omega
     clear hrow hz1 hp HGO; have HSZ := Aside0.mk (below_size AT.out.bel)
     go_wp2_with ((with_reducible refine gate_dst (N := 53) rfl ?_); refine Kd.R_make (Kd.int .i64) (w0 := w) w.heap.size 3 rfl (N := 53) rfl 42 _ _ rfl (letters.length : Int) rfl rfl Try.underlying42 (.int .i64 0) 8 info3 rfl (by decide) (by omega) 0 (ok := fun k => wr.heap.size ≤ k) (okp := fun k => wr.heap.size ≤ k) rfl (fun _ hk => hk) (Nat.le_refl _) (by omega) (by omega) AT.out.bel (below_size AT.out.bel) ?_; intro v11 w15 ho hb hg hn; rw [Int.toNat_natCast] at ho; have HR15 := Aside0.mk ho; have AT15 := Aside0.mk ((AT.out.reB (Nat.le_refl _)).kept (below_of_grown hg)); clear ho hb hg hn AT)
     have LB := Aside0.mk (show w.heap.size ≤ wr.heap.size from HSZ.out); obtain ⟨B', eB⟩ : ∃ B', B' = wr.heap.size := ⟨_, rfl⟩; rw [← eB] at HR15 AT15 LB; clear eB
     go_loopw [7, 15, 16, 56] (fun v7 v15 v16 v56 wq => ∃ (a : Nat) (ps2 : List atom_Raw.Place) (xs : List Int) (D2 : DataW Unit) (AL2 : Option Addr) (cL2 : Nat) (x15 x16 : Value), v7 = .slice AL2 ps2.length cL2 ∧ v15 = x15 ∧ v16 = x16 ∧ v56 = .int .i64 (a : Int) ∧ a ≤ letters.length ∧ q < ps2.length ∧ ps2.length ≤ 256 ∧ Aside0 (ps2.getD q atom_Raw.noPlace = p) ∧ Aside0 (xs.length = letters.length) ∧ Aside0 (atom_Raw.row a0_0 p (letters.drop a) a ps2 xs = some z1) ∧ Aside0 (atom_Raw.At w wq gb1 gb2 g8 mb B' #[.int .i64 a0_0, .slice A0_1 l0_1.length c0_1, .slice A0_2 l0_2.length c0_2, .int .i64 a0_3, .int .i64 a0_4] (.slice AL2 ps2.length cL2) (.slice A9 letters.length c9) (.slice At_ tr.length ct_) va vn ps2 ps2 D2 letters tr ac nx) ∧ Aside0 ((Kd.int .i64).R 3 wq w.heap.size (fun k => B' ≤ k) v11 xs)) (fun _ _ _ v56 _ => letters.length - (intOf v56).toNat)
     case atStart => exact ⟨0, ps, _, D, _, _, _, _, rfl, rfl, rfl, rfl, by omega, cq, hps, HP, ⟨List.length_replicate⟩, HROW, AT15, HR15⟩
     case round =>
      clear HROW AT15 HR15 cb cq hq hps HP; obtain ⟨a, ps2, xs, D2, AL2, cL2, x15, x16, rfl, rfl, rfl, rfl, ha, hq, hps, HP, HX, HROW, AT, HR⟩ := hrel
      by_cases ca : a < letters.length
      ·have hr := HROW.out; rw [List.drop_eq_getElem_cons ca, atom_Raw.row] at hr; replace hr := Option.bind_eq_some_iff.mp hr; obtain ⟨zz, hto, hr⟩ := hr; obtain ⟨s, hs⟩ : ∃ s, s = letters[a] := ⟨_, rfl⟩; rw [← hs] at hto; obtain ⟨hnx, hw1, hw2⟩ := atom_Raw.to_some hto; obtain ⟨kl, hkey⟩ := atom_Raw.key zz hw1 hw2; have hkey' : keyOf Try.prog 59 (.agg #[.int .i64 zz.1, .int .i64 zz.2.1, .bool zz.2.2.1, .bool zz.2.2.2.1, .bool zz.2.2.2.2]) = some kl := hkey; have HNX := Aside0.mk hnx; have HRO := Aside0.mk hr; obtain ⟨ad9, e9, x9⟩ := Kd.at_int (Kd.R_reads' AT.out.lets).2.2 (a : Int) (by omega) (by omega); cases e9
       have hrd : rd letters (a : Int) = s := by rw [hs]; simp [rd, List.getD_eq_getElem?_getD, List.getElem?_eq_getElem ca]
       rw [hrd, Int.toNat_natCast] at x9; obtain ⟨ad, ead, zq0, zq1, zq2, zq3, zq4⟩ := atom_Raw.PK_at (Kd.R_reads' AT.out.list).2.2 q hq; cases ead; rw [HP.out] at zq0 zq1 zq2 zq3 zq4; obtain ⟨hz0, _, _, _, _, _, _, _, _, _⟩ := bF5 AT.out.b1; have cb : decide ((a : Int) < (letters.length : Int)) = true := decide_eq_true (by omega)
       have hal : (a : Int) < 1073741824 := by omega
       obtain ⟨g11, c11, e11, hw11, hl11, _⟩ := Kd.R_form HR.out (by rw [HX.out]; exact HLL.out.1); rw [HX.out] at e11; subst e11; have hB11 : B' ≤ g11 := HR.out.1 g11 (by simp [Value.ownBlock]); have HB11 := Aside0.mk hB11; have HW11 := Aside0.mk hw11; clear hr hto hs hnx hw1 hw2 hrd HROW hw11 hl11 hB11
       go_upto_region 18 with (fail)
       refine start_ (n := 10) (S := fun w' => w'.cell? ⟨gb1, 0, none⟩ = some (.int .i64 a0_0) ∧ w'.cell? (ad.add (q * 5)) = some (.int .i64 p.1) ∧ w'.cell? ⟨(ad.add (q * 5)).block, (ad.add (q * 5)).off + 1, none⟩ = some (.int .i64 p.2.1) ∧ w'.cell? ⟨(ad.add (q * 5)).block, (ad.add (q * 5)).off + 2, none⟩ = some (.bool p.2.2.1) ∧ w'.cell? ⟨(ad.add (q * 5)).block, (ad.add (q * 5)).off + 3, none⟩ = some (.bool p.2.2.2.1) ∧ w'.cell? ⟨(ad.add (q * 5)).block, (ad.add (q * 5)).off + 4, none⟩ = some (.bool p.2.2.2.2)) (ds := [9]) (bl 10 0) (by kernel_rfl) rfl rfl ⟨hz0, zq0, zq1, zq2, zq3, zq4⟩ (fun hHeld => ?_); refine pure_ (i := 0) (N := some 61) (v := ?_) (a' := ?_) (bl 10 1) rfl rfl (by kernel_rfl) (fun _ _ _ h => h) (Or.inl ⟨by rfl, ?_⟩) ?_ ?_; rotate_left
       ·intro w'
        go_simp
        with_reducible rfl
       rotate_left
       ·simp only [Act.put, sA, sB, sC, i64_w, i32_w]
        rfl
       refine pure_ (i := 2) (N := some 63) (v := ?_) (a' := ?_) (bl 10 5) rfl rfl (by kernel_rfl) (fun _ _ _ h => h) (Or.inl ⟨by rfl, ?_⟩) ?_ ?_; rotate_left
       ·intro w'
        go_simp
        with_reducible rfl
       rotate_left
       ·simp only [Act.put, sA, sB, sC, i64_w, i32_w]
        rfl
       refine pure_ (i := 3) (N := some 64) (v := ?_) (a' := ?_) (bl 10 13) rfl rfl (by kernel_rfl) (fun _ _ _ h => h) (Or.inl ⟨by rfl, ?_⟩) ?_ ?_; rotate_left
       ·intro w'
        go_simp
        with_reducible rfl
       rotate_left
       ·simp only [Act.put, sA, sB, sC, i64_w, i32_w]
        rfl
       refine pure_ (i := 4) (N := some 65) (v := ?_) (a' := ?_) (bl 10 29) rfl rfl (by kernel_rfl) (fun _ _ _ h => h) (Or.inl ⟨by rfl, ?_⟩) ?_ ?_; rotate_left
       ·intro w'
        go_simp
        with_reducible rfl
       rotate_left
       ·simp only [Act.put, sA, sB, sC, i64_w, i32_w]
        rfl
       refine pure_ (i := 6) (N := some 67) (v := ?_) (a' := ?_) (bl 10 93) rfl rfl (by kernel_rfl) (fun _ _ _ h => h) (Or.inl ⟨by rfl, ?_⟩) ?_ ?_; rotate_left
       ·intro w'
        go_simp
        with_reducible rfl
       rotate_left
       ·simp only [Act.put, sA, sB, sC, i64_w, i32_w]
        rfl
       refine take_ (i := 1) (N := some 62) (v := ?_) (a' := ?_) (bl 10 95) rfl rfl (by kernel_rfl) (fun _ _ _ h => h) (Or.inl ⟨by rfl, ?_⟩) hHeld ?_ ?_; rotate_left
       ·rintro w' ⟨s0, s1, s2, s3, s4, s5⟩
        go_simp
        with_reducible rfl
       rotate_left
       ·simp only [Act.put, sA, sB, sC, i64_w, i32_w]
        rfl
       refine take_ (i := 5) (N := some 66) (v := ?_) (a' := ?_) (bl 10 127) rfl rfl (by kernel_rfl) (fun _ _ _ h => h) (Or.inl ⟨by rfl, ?_⟩) hHeld ?_ ?_; rotate_left
       ·rintro w' ⟨s0, s1, s2, s3, s4, s5⟩
        go_simp
        with_reducible rfl
       rotate_left
       ·simp only [Act.put, sA, sB, sC, i64_w, i32_w]
        rfl
       refine join_ (σ := Nat) 1 (bl 10 511) (fun g => [(68, .agg #[.int .i64 zz.1, .int .i64 zz.2.1, .bool zz.2.2.1, .bool zz.2.2.2.1, .bool zz.2.2.2.2]), (14, .pointer (some ⟨g, 0, none⟩))]) (fun g w' => w'.heap[g]? = some (.cells #[.int .i64 0, .int .i64 0, .bool false, .bool false, .bool false] 59 (0, 0)) ∧ Below wr.heap.size wr w' ∧ wr.heap.size ≤ g) ?_ ?_; rotate_left
       ·intro hCont; refine two_ (i := 7) (j := 8) (Ni := some 68) (Nj := some 14) (bl 10 255) (bl 10 383) rfl rfl rfl rfl (by kernel_rfl) (by decide) (by decide) (fun K hK => ?_) (fun K hK => ?_)
        ·refine goes_ Try.func27 (by kernel_rfl) rfl #[.int .i64 a0_0, .agg #[.int .i64 p.1, .int .i64 p.2.1, .bool p.2.2.1, .bool p.2.2.2.1, .bool p.2.2.2.2], .int .i64 s] (by rfl) rfl rfl (by simp only [List.map_toArray, List.map_cons, List.map_nil]; rfl) ?_
         with_reducible refine (atom_next.calls a0_0 p.1 p.2.1 p.2.2.1 p.2.2.2.1 p.2.2.2.2 s zz.1 zz.2.1 zz.2.2.1 zz.2.2.2.1 zz.2.2.2.2 _ HNX.out).mono ?_
         rintro e wN ⟨rfl, hbN⟩; refine ⟨_, rfl, ?_⟩; have HBN := Aside0.mk (show Below wr.heap.size wr wN from below_step (below_drew (Below.refl _ _)) hbN); clear hbN; refine hK.out _ _ ⟨pw_cell_below HBN.out hz0, pw_cell_below HBN.out zq0, pw_cell_below HBN.out zq1, pw_cell_below HBN.out zq2, pw_cell_below HBN.out zq3, pw_cell_below HBN.out zq4⟩ (fun hHeld => ?_); clear hK K; refine nm_ 68 ?_; refine one_ (i := 8) (N := some 14) (bl 10 511) rfl rfl (by kernel_rfl) (by decide) (fun K hK => ?_); refine value_ (w1 := ?_) (v := ?_) (by rfl) rfl ?_ ?_; rotate_left 2
         ·go_simp
          constructor
          ·rfl
          ·rfl
         refine hK.out _ _ ⟨pw_cell_below (below_alloc HBN.out _) hz0, pw_cell_below (below_alloc HBN.out _) zq0, pw_cell_below (below_alloc HBN.out _) zq1, pw_cell_below (below_alloc HBN.out _) zq2, pw_cell_below (below_alloc HBN.out _) zq3, pw_cell_below (below_alloc HBN.out _) zq4⟩ (fun hHeld => ?_); clear hK K; refine nm_ 14 ?_; exact norm_ (by simp only [putAll, Act.put, sA, sB, sC]) (hCont wN.heap.size _ ⟨heap_alloc_new wN _, below_alloc HBN.out _, below_size HBN.out⟩)
        ·refine value_ (w1 := ?_) (v := ?_) (by rfl) rfl ?_ ?_; rotate_left 2
         ·go_simp
          constructor
          ·rfl
          ·rfl
         refine hK.out _ _ ⟨pw_cell_below (below_alloc (below_drew (Below.refl _ _)) _) hz0, pw_cell_below (below_alloc (below_drew (Below.refl _ _)) _) zq0, pw_cell_below (below_alloc (below_drew (Below.refl _ _)) _) zq1, pw_cell_below (below_alloc (below_drew (Below.refl _ _)) _) zq2, pw_cell_below (below_alloc (below_drew (Below.refl _ _)) _) zq3, pw_cell_below (below_alloc (below_drew (Below.refl _ _)) _) zq4⟩ (fun hHeld => ?_); clear hK K; refine nm_ 14 ?_; refine one_ (i := 7) (N := some 68) (bl 10 511) rfl rfl (by kernel_rfl) (by decide) (fun K hK => ?_); refine goes_ Try.func27 (by kernel_rfl) rfl #[.int .i64 a0_0, .agg #[.int .i64 p.1, .int .i64 p.2.1, .bool p.2.2.1, .bool p.2.2.2.1, .bool p.2.2.2.2], .int .i64 s] (by rfl) rfl rfl (by simp only [List.map_toArray, List.map_cons, List.map_nil]; rfl) ?_
         with_reducible refine (atom_next.calls a0_0 p.1 p.2.1 p.2.2.1 p.2.2.2.1 p.2.2.2.2 s zz.1 zz.2.1 zz.2.2.1 zz.2.2.2.1 zz.2.2.2.2 _ HNX.out).mono ?_
         rintro e wN ⟨rfl, hbN⟩; refine ⟨_, rfl, ?_⟩; have HBN := Aside0.mk (show Below wr.heap.size wr wN from below_step (below_alloc (below_drew (Below.refl _ _)) _) hbN); have hc14 := blk_below (heap_alloc_new wr.drew (.cells #[.int .i64 0, .int .i64 0, .bool false, .bool false, .bool false] 59)) hbN; clear hbN; have HC14 := Aside0.mk hc14; clear hc14; refine hK.out _ _ ⟨pw_cell_below HBN.out hz0, pw_cell_below HBN.out zq0, pw_cell_below HBN.out zq1, pw_cell_below HBN.out zq2, pw_cell_below HBN.out zq3, pw_cell_below HBN.out zq4⟩ (fun hHeld => ?_); clear hK K; refine nm_ 68 ?_; exact norm_ (by simp only [putAll, Act.put, sA, sB, sC]) (hCont wr.heap.size _ ⟨HC14.out, HBN.out, Nat.le_refl _⟩)
       rintro g14 w16 ⟨hc, hb, hg⟩; have hHeld : w16.cell? ⟨gb1, 0, none⟩ = some (.int .i64 a0_0) ∧ w16.cell? (ad.add (q * 5)) = some (.int .i64 p.1) ∧ w16.cell? ⟨(ad.add (q * 5)).block, (ad.add (q * 5)).off + 1, none⟩ = some (.int .i64 p.2.1) ∧ w16.cell? ⟨(ad.add (q * 5)).block, (ad.add (q * 5)).off + 2, none⟩ = some (.bool p.2.2.1) ∧ w16.cell? ⟨(ad.add (q * 5)).block, (ad.add (q * 5)).off + 3, none⟩ = some (.bool p.2.2.2.1) ∧ w16.cell? ⟨(ad.add (q * 5)).block, (ad.add (q * 5)).off + 4, none⟩ = some (.bool p.2.2.2.2) := ⟨pw_cell_below hb hz0, pw_cell_below hb zq0, pw_cell_below hb zq1, pw_cell_below hb zq2, pw_cell_below hb zq3, pw_cell_below hb zq4⟩; obtain ⟨pz0, pz1, pz2, pz3, pz4, pf0, pf1, pf2, pf3, pf4⟩ := bF5 hc; have HC := Aside0.mk hc; have HB16 := Aside0.mk hb; have HG14 := Aside0.mk hg; clear hc hb hg; refine norm_ (a' := ?_) ?_ ?_; rotate_left
       ·simp only [putAll, Act.put, sA, sB, sC]
        rfl
       refine last_ (i := 9) (N := none) (bl 10 1023) rfl rfl (by kernel_rfl) (by decide) (fun K hK => ?_); refine skip_ (w1 := ?_) (by rfl) rfl ?_ ?_; rotate_left
       ·go_simp
        rfl
       refine hK.out _ _ ?_; clear hK K; refine done_ (by kernel_rfl) ?_; have K14 := blk_put (blk_put (blk_put (blk_put (blk_put HC.out 0 (.int .i64 zz.1) rfl) 1 (.int .i64 zz.2.1) rfl) 2 (.bool zz.2.2.1) rfl) 3 (.bool zz.2.2.2.1) rfl) 4 (.bool zz.2.2.2.2) rfl; have HB17 := below_set (g := g14) (j := 4) (v := .bool zz.2.2.2.2) (below_set (g := g14) (j := 3) (v := .bool zz.2.2.2.1) (below_set (g := g14) (j := 2) (v := .bool zz.2.2.1) (below_set (g := g14) (j := 1) (v := .int .i64 zz.2.1) (below_set (g := g14) (j := 0) (v := .int .i64 zz.1) HB16.out HG14.out) HG14.out) HG14.out) HG14.out) HG14.out; generalize (((((w16.setCell ⟨g14, 0, none⟩ (.int .i64 zz.1)).setCell ⟨g14, 1, none⟩ (.int .i64 zz.2.1)).setCell ⟨g14, 2, none⟩ (.bool zz.2.2.1)).setCell ⟨g14, 3, none⟩ (.bool zz.2.2.2.1)).setCell ⟨g14, 4, none⟩ (.bool zz.2.2.2.2)) = w17 at K14 HB17 ⊢; have AT17 := Aside0.mk (AT.out.kept HB17); have HR17 := Aside0.mk (Kd.R_below HR.out HB17); clear HB17 HC HB16 HG14 AT HR pz0 pz1 pz2 pz3 pz4 pf0 pf1 pf2 pf3 pf4 hz0 zq0 zq1 zq2 zq3 zq4 x9
       have hwa : wrap64 ((a : Int) + 1) = ((a + 1 : Nat) : Int) := by unfold wrap64; omega
       obtain ⟨pz0, pz1, pz2, pz3, pz4, pf0, pf1, pf2, pf3, pf4⟩ := bF5 K14; clear pf0 pf1 pf2 pf3 pf4
       by_cases hm : zz ∈ ps2
       ·have hh : Go.Maps.has D2 kl = true := by rw [AT17.out.map.has _ _ hkey]; simp [hm]
        have hat := AT17.out.map.at_ _ _ hkey hm (.lit (.int .i64 0)); have hr := HRO.out; rw [if_pos hm] at hr; have HROW := Aside0.mk hr; obtain ⟨cs11, hc11⟩ := Kd.R_typed HR17.out g11 (by simp [Value.ownBlock]); obtain ⟨hy, hz⟩ := Kd.R_celln 0 HR17.out (a : Int) (by omega) (by omega); rw [Int.toNat_natCast] at hy hz; have HC11 := Aside0.mk hc11; clear hr HRO hc11
        go_wp2_with ((at_lookup; refine wpList_lookup_own_ok_int _ rfl _ _ 60 rfl 59 3 .i64 atom_Raw.law Try.underlying60 Try.underlying3 (atom_Raw.zero _) mb ps2.length D2 rfl AT17.out.map.own _ _ rfl hkey' ?_; intro c' hat' hwc; rw [hat] at hat'; injection hat' with hat'; injection hat' with _ hat'; subst hat'; rw [hh]))
        have HP2 := Kd.R_putg HR17.out (a : Int) ((num1 ps2 zz : Nat) : Int); rw [Int.toNat_natCast] at HP2; have AT18 := AT17.out.rowed (j := a) (x := .int .i64 ((num1 ps2 zz : Nat) : Int)) HC11.out HB11.out HW11.out
        go_roundw
        case rel => exact ⟨a + 1, ps2, _, D2, _, _, _, _, rfl, rfl, rfl, (by first | (rw [hwa]) | (simp)), by omega, hq, hps, HP, ⟨by rw [List.length_set]; exact HX.out⟩, HROW, ⟨AT18⟩, ⟨HP2.1⟩⟩
        case measure => (try rw [hwa]); simp [intOf]; omega
       ·have hh : Go.Maps.has D2 kl = false := by rw [AT17.out.map.has _ _ hkey]; simp [hm]
        have hr := HRO.out; rw [if_neg hm] at hr
        by_cases h256 : ps2.length = 256
        ·rw [if_pos h256] at hr; obtain rfl := Option.some.inj hr; have hz1 := HZ1.out; rw [if_neg (by simp)] at hz1; obtain rfl := Option.some.inj hz1; have hz := HZ.out; rw [if_neg (by simp)] at hz; simp only [Option.some.injEq, Prod.mk.injEq] at hz; obtain ⟨rfl, rfl, rfl, rfl⟩ := hz
         have heq : ((ps2.length : Int) == 256) = true := by rw [h256]; rfl
         obtain ⟨rz0, rz1, rz2, rf0, rf1, rf2⟩ := bF3 AT17.out.b2; clear hz1 hr HRO HZ HZ1 h256
         go_wp2_with ((at_lookup; refine wpList_lookup_own_ok_int _ rfl _ _ 60 rfl 59 3 .i64 atom_Raw.law Try.underlying60 Try.underlying3 (atom_Raw.zero _) mb ps2.length D2 rfl AT17.out.map.own _ _ rfl hkey' ?_; intro c' hat' hwc; rw [hh]))
         refine bodyPost_ret (atom_Raw.res rfl _ _ gb2 31 #[.slice none 0 0, .slice none 0 0, .slice none 0 0] (0, 0) _ (.int .i64 140) rfl rfl (blk_put (blk_put (blk_put AT17.out.b2 0 _ rfl) 1 _ rfl) 2 _ rfl) Try.underlying31 rfl (by kernel_rfl)) rfl ?_; exact ⟨_, _, _, rfl, Kd.R_nil _ _ _ _ _, Kd.R_nil _ _ _ _ _, Kd.S_nil _ _ _ _ _, below_set (below_set (below_set AT17.out.bel AT17.out.lo2) AT17.out.lo2) AT17.out.lo2⟩
        ·rw [if_neg h256] at hr; have HROW := Aside0.mk hr
         have heq : ((ps2.length : Int) == 256) = false := by rw [beq_eq_false_iff_ne]; omega
         have h255 : ps2.length < 256 := by omega
         have H14 := Aside0.mk K14; clear hr HRO h256 K14
         go_wp2_with (first
          | (at_lookup; refine wpList_lookup_own_ok_int _ rfl _ _ 60 rfl 59 3 .i64 atom_Raw.law Try.underlying60 Try.underlying3 (atom_Raw.zero _) mb ps2.length D2 rfl AT17.out.map.own _ _ rfl hkey' ?_; intro c' hat' hwc; rw [hh])
          | (at_mapUpdate; go_loud (refine wpList_mapUpdate_own _ rfl _ _ _ 60 rfl 59 3 atom_Raw.law Try.underlying60 _ mb ps2.length D2 rfl AT17.out.map.own (by unfold maxLen; omega) _ _ _ rfl rfl hkey' _ [] (plainElem_int Try.underlying3 (atom_Raw.wf (by omega))) ?_; intro w18 hown hgrow; have AT18 := Aside0.mk (AT17.out.mapped hgrow (Names_.put atom_Raw.law atom_Raw.PV_inj AT17.out.map hkey hm hown)); have HR18 := Aside0.mk (R_off HR17.out hgrow (fun g e _ => Off.names AT17.out.map _ g e)); have K18 := blk_off H14.out hgrow (Off.names AT17.out.map [59]) (by simp); clear hown hgrow pz0 pz1 pz2 pz3 pz4; obtain ⟨pz0, pz1, pz2, pz3, pz4, pf0, pf1, pf2, pf3, pf4⟩ := bF5 K18; clear pf0 pf1 pf2 pf3 pf4 K18))
          | ((with_reducible refine gate_builtin (b := .append) (xs := #[.tmp 85, .tmp 87]) rfl ?_); at_builtin; go_loud (refine Kd.R_append atom_Raw.PK (w0 := w) w.heap.size rfl (.tmp 85) (.tmp 87) 61 59 (.agg #[.int .i64 0, .int .i64 0, .bool false, .bool false, .bool false]) 24 rfl Try.underlying61 atom_Raw.infoP rfl (by decide) (by omega) (.slice (some ad) ps2.length cL2) ps2 zz [.int .i64 zz.1, .int .i64 zz.2.1, .bool zz.2.2.1, .bool zz.2.2.2.1, .bool zz.2.2.2.2] (fun _ => True) (fun _ => False) rfl rfl (atom_Raw.PK_M _ _ _ zz) (fun _ hk => hk.elim) (fun _ _ => trivial) AT18.out.list AT18.out.bel (below_size AT18.out.bel) (by omega) ?_; intro vL' w19 ho hb hg hat; obtain ⟨AL3, cL3, e3⟩ := Kd.R_slice ho; rw [List.length_append] at e3; replace e3 : vL' = .slice AL3 (ps2.length + 1) cL3 := e3; subst e3; have AT19 := Aside0.mk (AT18.out.listed hg ho hb); have HR19 := Aside0.mk (R_off HR18.out hg (fun g e _ => Off.typed (T := [3]) (Kd.R_typed AT18.out.list) (by decide) g e)); obtain ⟨hy, hz⟩ := Kd.R_celln 0 HR19.out (a : Int) (by omega) (by omega); rw [Int.toNat_natCast] at hy hz; clear ho hb hg hat)))
         obtain ⟨cs11, hc11⟩ := Kd.R_typed HR19.out g11 (by simp [Value.ownBlock]); have HP2 := Kd.R_putg HR19.out (a : Int) ((ps2.length : Nat) : Int); rw [Int.toNat_natCast] at HP2; have AT20 := AT19.out.rowed (j := a) (x := .int .i64 ((ps2.length : Nat) : Int)) hc11 HB11.out HW11.out
         have hlen : (ps2 ++ [zz]).length = ps2.length + 1 := by simp
         go_roundw
         case rel => exact ⟨a + 1, ps2 ++ [zz], _, _, AL3, cL3, _, _, by rw [hlen], rfl, rfl, (by first | (rw [hwa]) | (simp)), by omega, by omega, by omega, ⟨by rw [← HP.out]; simp [List.getD_eq_getElem?_getD, List.getElem?_append_left hq]⟩, ⟨by rw [List.length_set]; exact HX.out⟩, HROW, ⟨by rw [hlen]; exact AT20⟩, ⟨HP2.1⟩⟩
         case measure => (try rw [hwa]); simp [intOf]; omega
      ·obtain rfl : a = letters.length := by omega
       have hr := HROW.out; rw [List.drop_length, atom_Raw.row] at hr; obtain rfl := Option.some.inj hr; have hz1 := HZ1.out; rw [if_pos rfl] at hz1
       have cb : decide ((letters.length : Int) < (letters.length : Int)) = false := by simp
       replace hz1 : atom_Raw.go a0_0 letters m (q + 1) ps2 (ac ++ [p.2.2.2.2]) (nx ++ [xs]) = some z := by rw [← HP.out]; exact hz1
       clear hr HROW HZ1; have HGO := Aside0.mk hz1; clear hz1
       have hal : ac.length ≤ 256 := by have := HLN.out.1; omega
       have hnl : nx.length ≤ 256 := by have := HLN.out.2; omega
       obtain ⟨Aa, ca_, ea⟩ := Kd.R_slice AT.out.ac_; obtain ⟨An, cn_, en⟩ := Kd.R_slice (Kd.S_R AT.out.nx_); subst ea en; obtain ⟨g11, c11, e11, hw11, hl11, _⟩ := Kd.R_form HR.out (by rw [HX.out]; exact HLL.out.1); rw [HX.out] at e11; subst e11; obtain ⟨ad, ead, zq0, zq1, zq2, zq3, zq⟩ := atom_Raw.PK_at (Kd.R_reads' AT.out.list).2.2 q hq; cases ead; rw [HP.out] at zq; obtain ⟨_, z8, _, _, _, _⟩ := bF3 AT.out.b8; clear zq0 zq1 zq2 zq3 hw11 hl11
       go_upto_region 28 with (fail)
       refine start_ (n := 11) (S := fun w' => w'.cell? ⟨g8, 1, none⟩ = some (.slice Aa ac.length ca_) ∧ w'.cell? ⟨(ad.add (q * 5)).block, (ad.add (q * 5)).off + 4, none⟩ = some (.bool p.2.2.2.2)) (ds := [8, 10]) (bl 11 0) (by kernel_rfl) rfl rfl ⟨z8, zq⟩ (fun hHeld => ?_); refine pure_ (i := 0) (N := some 94) (v := ?_) (a' := ?_) (bl 11 1) rfl rfl (by kernel_rfl) (fun _ _ _ h => h) (Or.inl ⟨by rfl, ?_⟩) ?_ ?_; rotate_left
       ·intro w'
        go_simp
        with_reducible rfl
       rotate_left
       ·simp only [Act.put, sA, sB, sC, i64_w, i32_w]
        rfl
       refine pure_ (i := 2) (N := some 96) (v := ?_) (a' := ?_) (bl 11 5) rfl rfl (by kernel_rfl) (fun _ _ _ h => h) (Or.inl ⟨by rfl, ?_⟩) ?_ ?_; rotate_left
       ·intro w'
        go_simp
        with_reducible rfl
       rotate_left
       ·simp only [Act.put, sA, sB, sC, i64_w, i32_w]
        rfl
       refine pure_ (i := 3) (N := some 97) (v := ?_) (a' := ?_) (bl 11 13) rfl rfl (by kernel_rfl) (fun _ _ _ h => h) (Or.inl ⟨by rfl, ?_⟩) ?_ ?_; rotate_left
       ·intro w'
        go_simp
        with_reducible rfl
       rotate_left
       ·simp only [Act.put, sA, sB, sC, i64_w, i32_w]
        rfl
       refine pure_ (i := 4) (N := some 98) (v := ?_) (a' := ?_) (bl 11 29) rfl rfl (by kernel_rfl) (fun _ _ _ h => h) (Or.inl ⟨by rfl, ?_⟩) ?_ ?_; rotate_left
       ·intro w'
        go_simp
        with_reducible rfl
       rotate_left
       ·simp only [Act.put, sA, sB, sC, i64_w, i32_w]
        rfl
       refine pure_ (i := 5) (N := some 99) (v := ?_) (a' := ?_) (bl 11 61) rfl rfl (by kernel_rfl) (fun _ _ _ h => h) (Or.inl ⟨by rfl, ?_⟩) ?_ ?_; rotate_left
       ·intro w'
        go_simp
        with_reducible rfl
       rotate_left
       ·simp only [Act.put, sA, sB, sC, i64_w, i32_w]
        rfl
       refine take_ (i := 1) (N := some 95) (v := ?_) (a' := ?_) (bl 11 63) rfl rfl (by kernel_rfl) (fun _ _ _ h => h) (Or.inl ⟨by rfl, ?_⟩) hHeld ?_ ?_; rotate_left
       ·rintro w' ⟨s0, s1⟩
        go_simp
        with_reducible rfl
       rotate_left
       ·simp only [Act.put, sA, sB, sC, i64_w, i32_w]
        rfl
       refine take_ (i := 6) (N := some 100) (v := ?_) (a' := ?_) (bl 11 127) rfl rfl (by kernel_rfl) (fun _ _ _ h => h) (Or.inl ⟨by rfl, ?_⟩) hHeld ?_ ?_; rotate_left
       ·rintro w' ⟨s0, s1⟩
        go_simp
        with_reducible rfl
       rotate_left
       ·simp only [Act.put, sA, sB, sC, i64_w, i32_w]
        rfl
       refine one_ (i := 7) (N := some 101) (bl 11 255) rfl rfl (by kernel_rfl) (by decide) (fun K hK => ?_); refine value_ (w1 := ?_) (v := ?_) (by rfl) rfl ?_ ?_; rotate_left 2
       ·go_simp
        constructor
        ·rfl
        ·rfl
       refine hK.out _ _ ⟨pw_cell_below (below_alloc (Below.refl _ _) _) z8, pw_cell_below (below_alloc (Below.refl _ _) _) zq⟩ (fun hHeld => ?_); clear hK K; refine nm_ 101 ?_; refine last_ (i := 8) (N := some 102) (bl 11 511) rfl rfl (by kernel_rfl) (by decide) (fun K hK => ?_); refine Kd.R_append_step Kd.bool (w0 := w) w.heap.size (by rfl) (.tmp 95) (.tmp 101) 28 4 (.bool false) 1 rfl Try.underlying28 info4 rfl (by decide) (by omega) (.slice Aa ac.length ca_) ac p.2.2.2.2 [.bool p.2.2.2.2] (fun _ => True) (fun _ => False) ?aS ?aX rfl (fun _ hk => hk.elim) (fun _ _ => trivial) (AT.out.kept (below_drew (Below.refl _ _))).ac_ (AT.out.kept (below_drew (Below.refl _ _))).bel (below_size (AT.out.kept (below_drew (Below.refl _ _))).bel) (by omega) ?_
       case aS => rfl
       case aX => rfl
       intro v1 w16 ho hb hg hat; obtain ⟨A1, c1_, e1_⟩ := Kd.R_slice ho; rw [List.length_append] at e1_; replace e1_ : v1 = .slice A1 (ac.length + 1) c1_ := e1_; subst e1_; have AT2 := Aside0.mk ((AT.out.kept (below_drew (Below.refl _ _))).acc hg ho hb); have HR2 := Aside0.mk ((AT.out.kept (below_drew (Below.refl _ _))).acc_row (j := 1) (x := .slice A1 (ac.length + 1) c1_) hg (Kd.R_below HR.out (below_drew (Below.refl _ _)))); have b8_ := blk_off (AT.out.kept (below_drew (Below.refl _ _))).b8 hg (Off.typed (T := [31]) (Kd.R_typed (AT.out.kept (below_drew (Below.refl _ _))).ac_) (by decide)) (by simp); obtain ⟨pz0, pz1, pz2, pf0, pf1, pf2⟩ := bF3 b8_; clear b8_ ho hb hg hat; refine hK.out _ _ ?_; clear hK K; refine nm_ 102 ?_; refine pure_ (i := 9) (N := some 103) (v := ?_) (a' := ?_) (bl 11 1023) rfl rfl (by kernel_rfl) (fun _ _ _ h => h) (Or.inl ⟨by rfl, ?_⟩) ?_ ?_; rotate_left
       ·intro w'
        go_simp
        with_reducible rfl
       rotate_left
       ·simp only [Act.put, sA, sB, sC, i64_w, i32_w]
        rfl
       refine last_ (i := 10) (N := none) (bl 11 2047) rfl rfl (by kernel_rfl) (by decide) (fun K hK => ?_); refine skip_ (w1 := ?_) (by rfl) rfl ?_ ?_; rotate_left
       ·go_simp
        rfl
       refine hK.out _ _ ?_; clear hK K; refine done_ (by kernel_rfl) ?_; clear z8 zq pz0 pz1 pz2 pf0 pf1 pf2; obtain ⟨w17, e17⟩ : ∃ w17, w17 = w16.setCell ⟨g8, 1, none⟩ (.slice A1 (ac.length + 1) c1_) := ⟨_, rfl⟩; rw [← e17] at AT2 HR2 ⊢; clear e17 AT HR; obtain ⟨_, _, z8, _, _, _⟩ := bF3 AT2.out.b8
       go_wp2_with ((with_reducible refine gate_builtin (b := .append) (xs := #[.tmp 105, .tmp 107]) rfl ?_); at_builtin; go_loud (refine Kd.S_append (Kd.slice 3 (Kd.int .i64)) (w0 := w) w.heap.size rfl (.tmp 105) (.tmp 107) 29 42 (.slice none 0 0) 24 rfl Try.underlying29 info42 rfl (by decide) (by omega) (.slice An nx.length cn_) nx xs [.slice (some ⟨g11, 0, none⟩) letters.length c11] (fun _ => True) (fun k => B' ≤ k) rfl rfl ⟨_, rfl, HR2.out⟩ (fun k hk => ⟨trivial, fun e => absurd ((Kd.S_R AT2.out.nx_).1 k e.symm) (by omega)⟩) (fun _ _ => trivial) (Kd.S_mono AT2.out.nx_ (fun k hk => ⟨trivial, by omega⟩)) AT2.out.bel (below_size AT2.out.bel) (by omega) ?_; intro vn' w18 ho hb hg hat; obtain ⟨A2, c2_, e2_⟩ := Kd.R_slice (Kd.S_R ho); rw [List.length_append] at e2_; replace e2_ : vn' = .slice A2 (nx.length + 1) c2_ := e2_; subst e2_; have AT3 := Aside0.mk (AT2.out.nex hg ho hb); have b8_ := blk_off AT2.out.b8 hg (Off.typed (T := [31]) (Kd.S_typed AT2.out.nx_) (by decide)) (by simp); obtain ⟨pz0, pz1, pz2, pf0, pf1, pf2⟩ := bF3 b8_; clear b8_ ho hb hg hat))
       have hwq : wrap64 ((q : Int) + 1) = ((q + 1 : Nat) : Int) := by unfold wrap64; omega
       go_roundw
       case rel => exact ⟨m, q + 1, ps2, D2, _, _, _, _, _, _, _, rfl, (by first | (rw [hwq]) | (simp)), by omega, hps, ⟨by simp [HLN.out.1], by simp [HLN.out.2]⟩, HGO, AT3⟩
       case measure => (try rw [hwq]); simp [intOf]; omega
    ·have hg := HGO.out; cases m with
     | zero => cases hg
     | succ m =>
     rw [atom_Raw.go, if_neg cq] at hg; obtain rfl := Option.some.inj hg; have hz := HZ.out; rw [if_pos rfl] at hz; simp only [Option.some.injEq, Prod.mk.injEq] at hz; obtain ⟨rfl, rfl, rfl, rfl⟩ := hz; have cb : decide ((q : Int) < (ps.length : Int)) = false := decide_eq_false (by omega); obtain ⟨Aa, ca, ea⟩ := Kd.R_slice AT.out.ac_; obtain ⟨An, cn, en⟩ := Kd.R_slice (Kd.S_R AT.out.nx_); subst ea en; have OUT := Aside0.mk (AT.out.out); obtain ⟨pz0, pz1, pz2, pf0, pf1, pf2⟩ := bF3 AT.out.b8; obtain ⟨rz0, rz1, rz2, rf0, rf1, rf2⟩ := bF3 AT.out.b2; have n28 := AT.out.n28; clear hg HGO HZ
     go_wp2
     refine bodyPost_ret (atom_Raw.res rfl _ _ gb2 31 #[.slice At_ tr.length ct_, .slice Aa ac.length ca, .slice An nx.length cn] (0, 0) _ (.int .i64 0) rfl rfl OUT.out.1 Try.underlying31 rfl (by kernel_rfl)) rfl ?_; exact ⟨_, _, _, rfl, OUT.out.2⟩

end Go.Proofs.Ythgoonohpfoagaa.X
