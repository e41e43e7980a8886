/- Functions of the seat, printed, and that the program's calls come to them; no condition. -/
import Derived.Test.YthgoonohpfoagaaX0
import Derived.Test.YthgoonohpfoagaaX1
import Derived.Test.YthgoonohpfoagaaX9
namespace Go.Proofs.Ythgoonohpfoagaa.X
open Go.RowKit Go.Proofs.YthgoonohpfoagaaW.PrintWords Go.Proofs.YthgoonohpfoagaaW.PrintLast Go.Proofs.YthgoonohpfoagaaW.PrintMore
attribute [local go_sem] max2_int min2_int max_two min_two max_three min_three max_four min_four
set_option linter.unusedVariables false
set_option linter.unusedSimpArgs false

section
open Go.Maps
/-- The place of x in a list (its length: it isn't there). -/
def num1 {α : Type} [DecidableEq α] (ms : List α) (x : α) : Nat := ms.idxOf x
theorem num1_new {α : Type} [DecidableEq α] {ms : List α} {x : α} (h : ¬ x ∈ ms) : num1 (ms ++ [x]) x = ms.length := by rw [num1, List.idxOf_append, if_neg h]; simp
structure Names_ {α : Type} [DecidableEq α] (P : Program) (k e : TypeId) (val : α → Value) (W : World) (b : Nat) (ms : List α) (D : DataW Unit) : Prop where
 own : W.ownsMap P k (plainElem P e) b ms.length D
 tidy : Tidy D
 size : Maps.size D = ms.length
 has : ∀ x l, keyOf P k (val x) = some l → Maps.has D l = decide (x ∈ ms)
 at_ : ∀ x l, keyOf P k (val x) = some l → x ∈ ms → ∀ z, D.atKey l z = .lit (.int .i64 ((num1 ms x : Nat) : Int))
theorem Names_.new {α : Type} [DecidableEq α] (P : Program) (k e : TypeId) (val : α → Value) (W : World) : Names_ P k e val (W.alloc (.map #[] 0)) W.heap.size [] (.map []) :=
 ⟨World.ownsMap_made _ _ _ _, tidy_empty, rfl, fun x l _ => by simp [Maps.has], fun x l _ h => absurd h (by simp)⟩
theorem Names_.kept {α : Type} [DecidableEq α] {P : Program} {k e : TypeId} {val : α → Value} {W w1 : World} {b : Nat} {ms : List α} {D : DataW Unit} (h : Names_ P k e val W b ms D) {row : Option Nat} (hg : W.grownBy w1 row) (hne : some b ≠ row) : Names_ P k e val w1 b ms D :=
 ⟨h.own.kept hg hne, h.tidy, h.size, h.has, h.at_⟩
theorem Names_.put {α : Type} [DecidableEq α] {P : Program} {k e : TypeId} {val : α → Value} (K : Keyed P k) (hval : ∀ x y, val x = val y → x = y) {W w1 : World} {b : Nat} {ms : List α} {D : DataW Unit} (h : Names_ P k e val W b ms D) {x : α} {l : Lit} (hk : keyOf P k (val x) = some l) (hx : ¬ x ∈ ms)
  (hown : w1.ownsMap P k (plainElem P e) b (ms.length + 1) (D.put l (.lit (.int .i64 (ms.length : Int))))) : Names_ P k e val w1 b (ms ++ [x]) (D.put l (.lit (.int .i64 (ms.length : Int)))) := by
 have kl := K.key hk
 have ne : ∀ y l', keyOf P k (val y) = some l' → y ≠ x → l' ≠ l := by
  intro y l' hy hne he; subst he; exact hne (hval _ _ (K.inj hy hk))
 have hh := h.has x l hk; rw [decide_eq_false hx] at hh; refine ⟨by rw [List.length_append]; exact hown, h.tidy.put kl _, ?_, ?_, ?_⟩
 ·rw [size_put h.tidy, hh, h.size]; simp
 ·intro y l' hy
  by_cases c : y = x
  ·subst c; rw [hk] at hy; obtain rfl := Qx hy; rw [has_put_same h.tidy.isMap kl]; simp
  ·rw [has_put_other (ne y l' hy c), h.has y l' hy]; simp [c]
 ·intro y l' hy hm z
  by_cases c : y = x
  ·subst c; rw [hk] at hy; obtain rfl := Qx hy; rw [atKey_put_same h.tidy.isMap kl, num1, List.idxOf_append, if_neg hx]; simp
  ·have : y ∈ ms := by simpa [c] using hm
   rw [atKey_put_other (ne y l' hy c), h.at_ y l' hy this, num1, num1, List.idxOf_append, if_pos this]
end
def names1 {α : Type} [DecidableEq α] (ms : List α) (x : α) : List α := if x ∈ ms then ms else ms ++ [x]
/-! The carry machine: places are numbered in the order in which they are met. -/
abbrev Fa.Place := Int × Int × Bool × Bool × Bool
def Fa.PV (p : Fa.Place) : Value := .agg #[.int .i64 p.1, .int .i64 p.2.1, .bool p.2.2.1, .bool p.2.2.2.1, .bool p.2.2.2.2]
theorem Fa.PV_inj (x y : Fa.Place) (h : Fa.PV x = Fa.PV y) : x = y := by
 obtain ⟨a, b, c, d, e⟩ := x; obtain ⟨a', b', c', d', e'⟩ := y
 simpa [Fa.PV] using h
theorem Fa.laidOut : laidOutB Try.prog = true := by kernel_rfl
theorem Fa.law : Go.Maps.Keyed Try.prog 59 := Go.Maps.Keyed.of_law (deep_law_laid Fa.laidOut (m := 2) (by omega) (of_decide_eq_true (by kernel_rfl)) (by kernel_rfl) (by rw [Try.underlying59]))
theorem Fa.key (p : Fa.Place) (h1 : (Lit.int .i64 p.1).wf = true) (h2 : (Lit.int .i64 p.2.1).wf = true) : ∃ l, keyOf Try.prog 59 (Fa.PV p) = some l := by
 have hk : Try.prog.keyType 59 = true := by kernel_rfl
 have hf : (Fa.PV p).formed Try.prog 59 = true := by simp [Fa.PV, Value.formed, Try.underlying59, show Try.prog.cellsOf 59 = 5 by kernel_rfl]
 have hl : Try.prog.keyLits (Try.prog.types.size + 1) 59 (Fa.PV p).cells.toList = some [.int .i64 p.1, .int .i64 p.2.1, .bool p.2.2.1, .bool p.2.2.2.1, .bool p.2.2.2.2] := by
  obtain ⟨n, hn⟩ : ∃ n, Try.prog.types.size = n + 1 := ⟨_, (by kernel_rfl : Try.prog.types.size = (Try.prog.types.size - 1) + 1)⟩; rw [hn]
  simp [Program.keyLits, Try.underlying59, Try.underlying2, Try.underlying4, show Try.prog.cellsOf 59 = 5 by kernel_rfl, show Try.prog.cellsOf 2 = 1 by kernel_rfl, show Try.prog.cellsOf 4 = 1 by kernel_rfl, Fa.PV, Value.cells, h1, h2]
 unfold keyOf
 rw [Try.underlying59]; simp only [hk, hf, hl]; exact ⟨_, rfl⟩
/-- A list of places, cell by cell. -/
def Fa.PK : Kd Fa.Place := Kd.pair (Kd.int .i64) (Kd.pair (Kd.int .i64) (Kd.pair Kd.bool (Kd.pair Kd.bool Kd.bool)))
theorem Fa.PK_sz : Fa.PK.sz = 5 := rfl
/-- The place to which a letter leads; none: its numbers leave 64 bits. -/
def Fa.to (kind : Int) (p : Fa.Place) (s : Int) : Option Fa.Place :=
 (Fb.f kind p.1 p.2.1 p.2.2.1 p.2.2.2.1 p.2.2.2.2 s).bind fun z => if (Lit.int .i64 z.1).wf = true then (if (Lit.int .i64 z.2.1).wf = true then some z else none) else none
/-- What is left of a row: false: too many places; the places, the row. -/
def Fa.row (kind : Int) (p : Fa.Place) : List Int → Nat → List Fa.Place → List Int → Option (Bool × List Fa.Place × List Int)
 | [], _, ps, xs => some (true, ps, xs)
 | s :: r, a, ps, xs => (Fa.to kind p s).bind fun z =>
  if z ∈ ps then Fa.row kind p r (a + 1) ps (xs.set a ((num1 ps z : Nat) : Int))
  else if ps.length = 256 then some (false, ps, xs) else Fa.row kind p r (a + 1) (ps ++ [z]) (xs.set a ((ps.length : Nat) : Int))
def Fa.noPlace : Fa.Place := (0, 0, false, false, false)
def Fa.go (kind : Int) (letters : List Int) : Nat → Nat → List Fa.Place → List Bool → List (List Int) → Option (Bool × List Bool × List (List Int))
 | 0, _, _, _, _ => none
 | k + 1, q, ps, ac, nx =>
  if q < ps.length then (Fa.row kind (ps.getD q Fa.noPlace) letters 0 ps (List.replicate letters.length 0)).bind fun z =>
   if z.1 = true then Fa.go kind letters k (q + 1) z.2.1 (ac ++ [(z.2.1.getD q Fa.noPlace).2.2.2.2]) (nx ++ [z.2.2]) else some (false, ac, nx)
  else some (true, ac, nx)
def Fa.f (k : Nat) (kind : Int) (names : List ByteArray) (coefs : List Int) (bound modulus : Int) : Option (List ByteArray × List Bool × List (List Int) × Int) :=
 (Feb.f k kind names coefs bound modulus).bind fun e =>
  if e = 0 then (if (6 : Int) < (names.length : Int) then some ([], [], [], 150) else
   (Fec.f names).bind fun tr => (Fba.f coefs).bind fun letters =>
    if (Lit.int .i64 bound).wf = true then (if (Lit.int .i64 modulus).wf = true then
     (Fa.go kind letters 257 0 [(bound, modulus, true, false, false)] [] []).bind fun z => if z.1 = true then some (tr, z.2.1, z.2.2, 0) else some ([], [], [], 140)
    else none) else none)
  else some ([], [], [], e)
theorem Fa.res {P : Program} {fn : Func} {p u : Tmp} {ty : TypeId} (h : fn.results = #[.cell p ty, .tmp u]) (tmps : Array Value) (w : World) (g : Nat) (t : TypeId) (cs : Array Value) (fr : Nat × Nat) (d : TypeDesc) (x : Value)
  (hp : tmps.getD p undef = .pointer (some ⟨g, 0, none⟩)) (hx : tmps.getD u undef = x) (hg : w.heap[g]? = some (.cells cs t fr))
  (hu : P.underlying ty = some d) (hd : (match d with | .struct _ | .array _ _ => true | _ => false) = true) (hi : (P.info? ty).map (·.size) = some cs.size) :
  (results fn tmps).run P w = .ok (.tuple #[.agg cs, x]) w := by
 rw [results_cell_tmp h, hp, hx]
 simp [asAddr, run_loadVar_row w g t ty cs fr d hg hu hd hi, Result.andThen]
theorem Fa.gate_insert {P : Program} {ops : Array Oper} {rest : List Oper} {a : Act} {Q : Exit → Act → World → Prop} {w : World} {d ty pos af g t m x v} (h : wpList P ops Q (⟨d, Op.insert t m x v, ty, pos, af, g⟩ :: rest) a w) : wpList P ops Q (⟨d, Op.insert t m x v, ty, pos, af, g⟩ :: rest) a w := h
/-- An insertion of a composite literal, at the operation. -/
theorem Fa.insert_own {H : Type} {P : Program} (w : World) {ops : Array Oper} {rest : List Oper} {o : Oper} {a : Act} {Q : Exit → Act → World → Prop}
  (hg : o.guard = none) (m x v : Operand) (t : TypeId) (hop : o.op = Op.insert t m x v)
  (k e : TypeId) (K : Go.Maps.Keyed P k) (ht : P.underlying t = some (.map k e)) (R : Value → Option (DataW H × List MemPlace)) (b n : Nat) (D : DataW H)
  (hm : a.eval m = .map (some b)) (hown : w.ownsMap P k R b n D) (hn : n < maxLen) (key val : Value) (kl : Lit) (hx : a.eval x = key) (hv : a.eval v = val) (hkey : keyOf P k key = some kl)
  (d : DataW H) (ps : List MemPlace) (hval : R val = some (d, ps))
  (hK : ∀ w', w'.ownsMap P k R b (n + 1) (D.put kl d) → w.grownBy w' (some b) → wpList P ops Q rest (a.put o.dst undef) w') :
  wpList P ops Q (o :: rest) a w := by
 refine wpList_plain hg fun K' hK' => ?_
 obtain ⟨w', hrun, r1, r2⟩ := hown.update K ht hn hkey hval
 unfold Oper.wp
 simp [execOp, hop, hm, hx, hv, hrun, Result.andThen]
 exact hK' _ _ (hK w' r1 r2)
section
variable {α : Type} {d : Kd α} {e : TypeId} {W W1 : World} {base : Nat} {ok : Nat → Prop} {v : Value} {xs : List α}
/-- Another object has been written (of no type of the row's). -/
theorem R_off (h : d.R e W base ok v xs) {row : Option Nat} (hg : W.grownBy W1 row) (hr : ∀ g, row = some g → ok g → ∀ q, q ∈ e :: d.E → ∀ cs, W.heap[g]? ≠ some (.cells cs q (0, 0))) : d.R e W1 base ok v xs :=
 Q7 (Kd.R_move (Kd.R_bound h) (fun k hk => hg.block k hk.2.2.1 (fun he => by
  obtain ⟨h1, _, _, q, hq, cs, hc⟩ := hk
  exact hr k he.symm h1 q hq cs hc))) (fun _ hk => hk.1)
theorem S_off (h : Kd.S d e W base ok v xs) {row : Option Nat} (hg : W.grownBy W1 row) (hr : ∀ g, row = some g → ok g → ∀ q, q ∈ e :: d.E → ∀ cs, W.heap[g]? ≠ some (.cells cs q (0, 0))) : Kd.S d e W1 base ok v xs :=
 Kd.S_mono (Kd.S_move (Kd.S_bound h) (fun k hk => hg.block k hk.2.2.1 (fun he => by
  obtain ⟨h1, _, _, q, hq, cs, hc⟩ := hk
  exact hr k he.symm h1 q hq cs hc))) (fun _ hk => hk.1)
end
/-- A block that is written holds an object of no type in the list. -/
def Off (W : World) (row : Option Nat) (T : List Nat) : Prop := ∀ g, row = some g → ∀ q, q ∈ T → ∀ cs, W.heap[g]? ≠ some (.cells cs q (0, 0))
theorem Off.none (W : World) (T : List Nat) : Off W none T := fun g h => by cases h
theorem Off.typed {W : World} {row : Option Nat} {T : List Nat} {t : Nat} (h : ∀ k, row = some k → ∃ cells, W.heap[k]? = some (.cells cells t (0, 0))) (ht : ∀ q, q ∈ T → q ≠ t) : Off W row T := fun g hg q hq cs hc => by
 obtain ⟨c', h'⟩ := h g hg; rw [hc] at h'
 injection h' with h'
 injection h' with _ h' _
 exact ht q hq h'
theorem Off.map {W : World} {g : Nat} {es : Array (Lit × Value × Value)} {n : Nat} {o : Obj} (h : W.heap[g]? = some o) (ho : ∀ cs q, o ≠ .cells cs q (0, 0)) (T : List Nat) : Off W (some g) T := fun g' hg q hq cs hc => by
 obtain rfl := Qx hg; rw [h] at hc; exact ho _ _ (Qx hc)
theorem Fa.PK_M (W : World) (base : Nat) (ok : Nat → Prop) (p : Fa.Place) : Fa.PK.M W base ok p [.int .i64 p.1, .int .i64 p.2.1, .bool p.2.2.1, .bool p.2.2.2.1, .bool p.2.2.2.2] :=
 ⟨[.int .i64 p.1], [.int .i64 p.2.1, .bool p.2.2.1, .bool p.2.2.2.1, .bool p.2.2.2.2], rfl, rfl, [.int .i64 p.2.1], [.bool p.2.2.1, .bool p.2.2.2.1, .bool p.2.2.2.2], rfl, rfl, [.bool p.2.2.1], [.bool p.2.2.2.1, .bool p.2.2.2.2], rfl, rfl, [.bool p.2.2.2.1], [.bool p.2.2.2.2], rfl, rfl, rfl⟩
theorem below_of_grown {W W1 : World} (h : W.grownBy W1 none) : Below W.heap.size W W1 := ⟨h.os, h.tape, h.output, h.size, fun i hi => h.block i hi (by simp)⟩
theorem blk_off {W W1 : World} {g t : Nat} {cs : Array Value} {row : Option Nat} {T : List Nat} (h : W.heap[g]? = some (.cells cs t (0, 0))) (hg : W.grownBy W1 row) (ho : Off W row T) (ht : t ∈ T) : W1.heap[g]? = some (.cells cs t (0, 0)) :=
 We h hg (fun e => ho g e.symm t ht cs h)
theorem grown_set (W : World) (g j : Nat) (x : Value) : W.grownBy (W.setCell ⟨g, j, none⟩ x) (some g) :=
 ⟨rfl, rfl, rfl, by simp, fun k hk hne => Below.heap_setCell W _ x k (fun e => hne (by rw [e]))⟩
structure Fa.At (w0 W : World) (g1 g2 g8 mb B : Nat) (c1 : Array Value) (vL v9 vt va vn : Value) (pm ps : List Fa.Place) (D : DataW Unit) (letters : List Int) (tr : List ByteArray) (ac : List Bool) (nx : List (List Int)) : Prop where
 bel : Below w0.heap.size w0 W
 lo2 : w0.heap.size ≤ g2
 lo8 : w0.heap.size ≤ g8
 lom : w0.heap.size ≤ mb
 n28 : g2 ≠ g8
 b1 : W.heap[g1]? = some (.cells c1 26 (0, 0))
 b2 : W.heap[g2]? = some (.cells #[.slice none 0 0, .slice none 0 0, .slice none 0 0] 31 (0, 0))
 b8 : W.heap[g8]? = some (.cells #[vt, va, vn] 31 (0, 0))
 map : Names_ Try.prog 59 3 Fa.PV W mb pm D
 list : Fa.PK.R 59 W w0.heap.size (fun _ => True) vL ps
 lets : (Kd.int .i64).R 2 W w0.heap.size (fun _ => True) v9 letters
 tr_ : Kd.string.R 9 W w0.heap.size (fun _ => True) vt tr
 ac_ : Kd.bool.R 4 W w0.heap.size (fun _ => True) va ac
 nx_ : Kd.S (Kd.slice 3 (Kd.int .i64)) 42 W w0.heap.size (fun k => k < B) vn nx
section
variable {w0 W W1 : World} {g1 g2 g8 mb B : Nat} {c1 : Array Value} {vL v9 vt va vn : Value} {pm ps : List Fa.Place} {D : DataW Unit} {letters : List Int} {tr : List ByteArray} {ac : List Bool} {nx : List (List Int)}
theorem Fa.At.kept (h : Fa.At w0 W g1 g2 g8 mb B c1 vL v9 vt va vn pm ps D letters tr ac nx) (hb : Below W.heap.size W W1) : Fa.At w0 W1 g1 g2 g8 mb B c1 vL v9 vt va vn pm ps D letters tr ac nx :=
 ⟨below_step h.bel hb, h.lo2, h.lo8, h.lom, h.n28, Q8 h.b1 hb, Q8 h.b2 hb, Q8 h.b8 hb, h.map.kept (grown_of_below hb none) (by simp), Wz h.list hb, Wz h.lets hb, Wz h.tr_ hb, Wz h.ac_ hb, Kd.S_below h.nx_ hb⟩
/-- The map has grown. -/
theorem Fa.At.mapped (h : Fa.At w0 W g1 g2 g8 mb B c1 vL v9 vt va vn pm ps D letters tr ac nx) (hg : W.grownBy W1 (some mb)) {pm' : List Fa.Place} {D' : DataW Unit} (hm : Names_ Try.prog 59 3 Fa.PV W1 mb pm' D') :
  Fa.At w0 W1 g1 g2 g8 mb B c1 vL v9 vt va vn pm' ps D' letters tr ac nx := by
 have off : ∀ T, Off W (some mb) T := fun T g hg q hq cs hc => by
  obtain rfl := Qx hg; obtain ⟨es, n, ho, _⟩ := h.map.own; rw [ho] at hc; cases hc
 exact ⟨pw_below_grown h.bel (some mb) (Qv h.bel) hg (fun k hk => by obtain rfl := Qx hk; exact h.lom), h.lo2, h.lo8, h.lom, h.n28,
  blk_off h.b1 hg (off [26]) (by simp), blk_off h.b2 hg (off [31]) (by simp), blk_off h.b8 hg (off [31]) (by simp), hm,
  R_off h.list hg (fun g e _ => off _ g e), R_off h.lets hg (fun g e _ => off _ g e), R_off h.tr_ hg (fun g e _ => off _ g e), R_off h.ac_ hg (fun g e _ => off _ g e), S_off h.nx_ hg (fun g e _ => off _ g e)⟩
theorem Fa.At.listed (h : Fa.At w0 W g1 g2 g8 mb B c1 vL v9 vt va vn pm ps D letters tr ac nx) (hg : W.grownBy W1 vL.ownBlock) {vL' : Value} {ps' : List Fa.Place} (hl : Fa.PK.R 59 W1 w0.heap.size (fun _ => True) vL' ps') (hb : Below w0.heap.size w0 W1) :
  Fa.At w0 W1 g1 g2 g8 mb B c1 vL' v9 vt va vn pm ps' D letters tr ac nx := by
 have ty := Qi h.list
 have hm : vL.ownBlock ≠ some mb := fun e => by
  obtain ⟨cs, hc⟩ := ty mb e; obtain ⟨es, n, ho, _⟩ := h.map.own; rw [ho] at hc; cases hc
 exact ⟨hb, h.lo2, h.lo8, h.lom, h.n28, blk_off h.b1 hg (Off.typed (T := [26]) ty (by decide)) (by simp), blk_off h.b2 hg (Off.typed (T := [31]) ty (by decide)) (by simp), blk_off h.b8 hg (Off.typed (T := [31]) ty (by decide)) (by simp),
  h.map.kept hg (fun e => hm e.symm), hl, R_off h.lets hg (fun g e _ => Off.typed (T := [2]) ty (by decide) g e), R_off h.tr_ hg (fun g e _ => Off.typed (T := [9]) ty (by decide) g e), R_off h.ac_ hg (fun g e _ => Off.typed (T := [4]) ty (by decide) g e), S_off h.nx_ hg (fun g e _ => Off.typed (T := [42, 3]) ty (by decide) g e)⟩
/-- A row of ints that is younger than B has been written. -/
theorem Fa.At.rowed (h : Fa.At w0 W g1 g2 g8 mb B c1 vL v9 vt va vn pm ps D letters tr ac nx) {g j : Nat} {x : Value} {cs : Array Value} (hg : W.heap[g]? = some (.cells cs 3 (0, 0))) (hB : B ≤ g) (hw : w0.heap.size ≤ g) :
  Fa.At w0 (W.setCell ⟨g, j, none⟩ x) g1 g2 g8 mb B c1 vL v9 vt va vn pm ps D letters tr ac nx := by
 have gr := grown_set W g j x
 have ty : ∀ k, some g = some k → ∃ cells, W.heap[k]? = some (.cells cells 3 (0, 0)) := fun k e => by obtain rfl := Qx e; exact ⟨_, hg⟩
 have hm : some mb ≠ some g := fun e => by
  obtain rfl := Qx e; obtain ⟨es, n, ho, _⟩ := h.map.own; rw [ho] at hg; cases hg
 exact ⟨below_set h.bel hw, h.lo2, h.lo8, h.lom, h.n28, blk_off h.b1 gr (Off.typed (T := [26]) ty (by decide)) (by simp), blk_off h.b2 gr (Off.typed (T := [31]) ty (by decide)) (by simp), blk_off h.b8 gr (Off.typed (T := [31]) ty (by decide)) (by simp),
  h.map.kept gr hm, R_off h.list gr (fun g e _ => Off.typed (T := [59]) ty (by decide) g e), R_off h.lets gr (fun g e _ => Off.typed (T := [2]) ty (by decide) g e), R_off h.tr_ gr (fun g e _ => Off.typed (T := [9]) ty (by decide) g e), R_off h.ac_ gr (fun g e _ => Off.typed (T := [4]) ty (by decide) g e),
  S_off h.nx_ gr (fun g' e hk => by obtain rfl := Qx e; exact absurd hk (by omega))⟩
/-- The answer's box has been written. -/
theorem Fa.At.acc (h : Fa.At w0 W g1 g2 g8 mb B c1 vL v9 vt va vn pm ps D letters tr ac nx) (hg : W.grownBy W1 va.ownBlock) {va' : Value} {ac' : List Bool} (hl : Kd.bool.R 4 W1 w0.heap.size (fun _ => True) va' ac') (hb : Below w0.heap.size w0 W1) :
  Fa.At w0 (W1.setCell ⟨g8, 1, none⟩ va') g1 g2 g8 mb B c1 vL v9 vt va' vn pm ps D letters tr ac' nx := by
 have ty := Qi h.ac_
 have hm : some mb ≠ va.ownBlock := fun e => by
  obtain ⟨cs, hc⟩ := ty mb e.symm; obtain ⟨es, n, ho, _⟩ := h.map.own; rw [ho] at hc; cases hc
 have b8 := blk_off h.b8 hg (Off.typed (T := [31]) ty (by decide)) (by simp); have b2 := blk_off h.b2 hg (Off.typed (T := [31]) ty (by decide)) (by simp); have gr := grown_set W1 g8 1 va'
 have t8 : ∀ k, some g8 = some k → ∃ cells, W1.heap[k]? = some (.cells cells 31 (0, 0)) := fun k e => by obtain rfl := Qx e; exact ⟨_, b8⟩
 have hm8 : some mb ≠ some g8 := fun e => by
  obtain rfl := Qx e; obtain ⟨es, n, ho, _⟩ := h.map.own; have hc := h.b8; rw [ho] at hc; cases hc
 have f : ∀ (T : List Nat), (∀ q, q ∈ T → q ≠ 4) → Off W va.ownBlock T := fun T hT => Off.typed ty hT
 have f8 : ∀ (T : List Nat), (∀ q, q ∈ T → q ≠ 31) → Off W1 (some g8) T := fun T hT => Off.typed t8 hT
 exact ⟨below_set hb h.lo8, h.lo2, h.lo8, h.lom, h.n28, blk_off (blk_off h.b1 hg (f [26] (by decide)) (by simp)) gr (f8 [26] (by decide)) (by simp), We b2 gr (fun e => h.n28 (Qx e)), Qy b8 1 va' rfl,
  (h.map.kept hg hm).kept gr hm8, R_off (R_off h.list hg (fun g e _ => f [59] (by decide) g e)) gr (fun g e _ => f8 [59] (by decide) g e), R_off (R_off h.lets hg (fun g e _ => f [2] (by decide) g e)) gr (fun g e _ => f8 [2] (by decide) g e),
  R_off (R_off h.tr_ hg (fun g e _ => f [9] (by decide) g e)) gr (fun g e _ => f8 [9] (by decide) g e), R_off hl gr (fun g e _ => f8 [4] (by decide) g e), S_off (S_off h.nx_ hg (fun g e _ => f [42, 3] (by decide) g e)) gr (fun g e _ => f8 [42, 3] (by decide) g e)⟩
theorem Fa.At.nex (h : Fa.At w0 W g1 g2 g8 mb B c1 vL v9 vt va vn pm ps D letters tr ac nx) (hg : W.grownBy W1 vn.ownBlock) {vn' : Value} {nx' : List (List Int)} (hl : Kd.S (Kd.slice 3 (Kd.int .i64)) 42 W1 w0.heap.size (fun _ => True) vn' nx') (hb : Below w0.heap.size w0 W1) :
  Fa.At w0 (W1.setCell ⟨g8, 2, none⟩ vn') g1 g2 g8 mb (W1.setCell ⟨g8, 2, none⟩ vn').heap.size c1 vL v9 vt va vn' pm ps D letters tr ac nx' := by
 have ty := Kd.S_typed h.nx_
 have hm : some mb ≠ vn.ownBlock := fun e => by
  obtain ⟨cs, hc⟩ := ty mb e.symm; obtain ⟨es, n, ho, _⟩ := h.map.own; rw [ho] at hc; cases hc
 have b8 := blk_off h.b8 hg (Off.typed (T := [31]) ty (by decide)) (by simp); have b2 := blk_off h.b2 hg (Off.typed (T := [31]) ty (by decide)) (by simp); have gr := grown_set W1 g8 2 vn'
 have t8 : ∀ k, some g8 = some k → ∃ cells, W1.heap[k]? = some (.cells cells 31 (0, 0)) := fun k e => by obtain rfl := Qx e; exact ⟨_, b8⟩
 have hm8 : some mb ≠ some g8 := fun e => by
  obtain rfl := Qx e; obtain ⟨es, n, ho, _⟩ := h.map.own; have hc := h.b8; rw [ho] at hc; cases hc
 have f : ∀ (T : List Nat), (∀ q, q ∈ T → q ≠ 42) → Off W vn.ownBlock T := fun T hT => Off.typed ty hT
 have f8 : ∀ (T : List Nat), (∀ q, q ∈ T → q ≠ 31) → Off W1 (some g8) T := fun T hT => Off.typed t8 hT
 exact ⟨below_set hb h.lo8, h.lo2, h.lo8, h.lom, h.n28, blk_off (blk_off h.b1 hg (f [26] (by decide)) (by simp)) gr (f8 [26] (by decide)) (by simp), We b2 gr (fun e => h.n28 (Qx e)), Qy b8 2 vn' rfl,
  (h.map.kept hg hm).kept gr hm8, R_off (R_off h.list hg (fun g e _ => f [59] (by decide) g e)) gr (fun g e _ => f8 [59] (by decide) g e), R_off (R_off h.lets hg (fun g e _ => f [2] (by decide) g e)) gr (fun g e _ => f8 [2] (by decide) g e),
  R_off (R_off h.tr_ hg (fun g e _ => f [9] (by decide) g e)) gr (fun g e _ => f8 [9] (by decide) g e), R_off (R_off h.ac_ hg (fun g e _ => f [4] (by decide) g e)) gr (fun g e _ => f8 [4] (by decide) g e),
  Kd.S_mono (Kd.S_bound (S_off hl gr (fun g e _ => f8 [42, 3] (by decide) g e))) (fun k hk => hk.2.2.1)⟩
theorem Fa.At.reB (h : Fa.At w0 W g1 g2 g8 mb B c1 vL v9 vt va vn pm ps D letters tr ac nx) {B' : Nat} (hB : W.heap.size ≤ B') : Fa.At w0 W g1 g2 g8 mb B' c1 vL v9 vt va vn pm ps D letters tr ac nx :=
 ⟨h.bel, h.lo2, h.lo8, h.lom, h.n28, h.b1, h.b2, h.b8, h.map, h.list, h.lets, h.tr_, h.ac_, Kd.S_mono (Kd.S_bound h.nx_) (fun k hk => Nat.lt_of_lt_of_le hk.2.2.1 hB)⟩
theorem Fa.At.acc_row (h : Fa.At w0 W g1 g2 g8 mb B c1 vL v9 vt va vn pm ps D letters tr ac nx) (hg : W.grownBy W1 va.ownBlock) {base : Nat} {ok : Nat → Prop} {u x : Value} {us : List Int} {j : Nat} (hr : (Kd.int .i64).R 3 W base ok u us) :
  (Kd.int .i64).R 3 (W1.setCell ⟨g8, j, none⟩ x) base ok u us := by
 have ty := Qi h.ac_; have b8 := blk_off h.b8 hg (Off.typed (T := [31]) ty (by decide)) (by simp)
 have t8 : ∀ k, some g8 = some k → ∃ cells, W1.heap[k]? = some (.cells cells 31 (0, 0)) := fun k e => by obtain rfl := Qx e; exact ⟨_, b8⟩
 exact R_off (R_off hr hg (fun g e _ => Off.typed (T := [3]) ty (by decide) g e)) (grown_set _ _ _ _) (fun g e _ => Off.typed (T := [3]) t8 (by decide) g e)
/-- The answer is laid into the result's box. -/
theorem Fa.At.out (h : Fa.At w0 W g1 g2 g8 mb B c1 vL v9 vt va vn pm ps D letters tr ac nx) :
  (((W.setCell ⟨g2, 0, none⟩ vt).setCell ⟨g2, 1, none⟩ va).setCell ⟨g2, 2, none⟩ vn).heap[g2]? = some (.cells #[vt, va, vn] 31 (0, 0)) ∧
  Kd.string.R 9 (((W.setCell ⟨g2, 0, none⟩ vt).setCell ⟨g2, 1, none⟩ va).setCell ⟨g2, 2, none⟩ vn) w0.heap.size (fun _ => True) vt tr ∧
  Kd.bool.R 4 (((W.setCell ⟨g2, 0, none⟩ vt).setCell ⟨g2, 1, none⟩ va).setCell ⟨g2, 2, none⟩ vn) w0.heap.size (fun _ => True) va ac ∧
  Kd.S (Kd.slice 3 (Kd.int .i64)) 42 (((W.setCell ⟨g2, 0, none⟩ vt).setCell ⟨g2, 1, none⟩ va).setCell ⟨g2, 2, none⟩ vn) w0.heap.size (fun _ => True) vn nx ∧ Below w0.heap.size w0 (((W.setCell ⟨g2, 0, none⟩ vt).setCell ⟨g2, 1, none⟩ va).setCell ⟨g2, 2, none⟩ vn) := by
 have b0 := h.b2; have b1 := Qy b0 0 vt rfl; have b2 := Qy b1 1 va rfl
 have ty : ∀ {X : World} {cs : Array Value}, X.heap[g2]? = some (.cells cs 31 (0, 0)) → ∀ k, some g2 = some k → ∃ cells, X.heap[k]? = some (.cells cells 31 (0, 0)) := fun hx k e => by obtain rfl := Qx e; exact ⟨_, hx⟩
 have f : ∀ {X : World} {cs : Array Value}, X.heap[g2]? = some (.cells cs 31 (0, 0)) → ∀ (T : List Nat), (∀ q, q ∈ T → q ≠ 31) → Off X (some g2) T := fun hx T hT => Off.typed (ty hx) hT
 refine ⟨Qy b2 2 vn rfl, ?_, ?_, ?_, below_set (below_set (below_set h.bel h.lo2) h.lo2) h.lo2⟩
 ·exact R_off (R_off (R_off h.tr_ (grown_set _ _ _ _) (fun g e _ => f b0 [9] (by decide) g e)) (grown_set _ _ _ _) (fun g e _ => f b1 [9] (by decide) g e)) (grown_set _ _ _ _) (fun g e _ => f b2 [9] (by decide) g e)
 ·exact R_off (R_off (R_off h.ac_ (grown_set _ _ _ _) (fun g e _ => f b0 [4] (by decide) g e)) (grown_set _ _ _ _) (fun g e _ => f b1 [4] (by decide) g e)) (grown_set _ _ _ _) (fun g e _ => f b2 [4] (by decide) g e)
 ·exact Kd.S_mono (S_off (S_off (S_off h.nx_ (grown_set _ _ _ _) (fun g e _ => f b0 [42, 3] (by decide) g e)) (grown_set _ _ _ _) (fun g e _ => f b1 [42, 3] (by decide) g e)) (grown_set _ _ _ _) (fun g e _ => f b2 [42, 3] (by decide) g e)) (fun _ _ => trivial)
end
theorem Fa.sums_len {l r : List Int} (h : Fba.f l = some r) : 0 < r.length ∧ r.length ≤ 1073741824 := by
 have hL : ∀ (l acc : List Int), (Fba.L acc l).length = acc.length * 2 ^ l.length := by
  intro l
  induction l with
  | nil => intro acc; simp [Fba.L]
  | cons c l ih => intro acc; rw [Fba.L, ih, List.length_append, List.length_map, List.length_cons, Nat.pow_succ, Nat.add_mul, Nat.mul_comm (2 ^ l.length) 2, ← Nat.mul_assoc, Nat.mul_two, Nat.add_mul]
 unfold Fba.f at h
 by_cases hl : l.length ≤ 30
 ·rw [if_pos hl] at h; obtain rfl := Qx h; rw [hL]; have h1 : 0 < 2 ^ l.length := Nat.pow_pos (by decide); have h2 : 2 ^ l.length ≤ 2 ^ 30 := Nat.pow_le_pow_right (by decide) hl; simp only [List.length_singleton, Nat.one_mul]; exact ⟨h1, h2⟩
 ·rw [if_neg hl] at h; cases h
theorem Fa.zero (w : World) : (zeroValue 3).run Try.prog w = .ok (.int .i64 0) w := by kernel_rfl
theorem Fa.infoP : (Try.prog.info? 59).map (fun i => (i.zero, i.size, i.bytes)) = some (some (.agg #[.int .i64 0, .int .i64 0, .bool false, .bool false, .bool false]), 5, 24) := by kernel_rfl
theorem Fa.wf {n : Nat} (h : n ≤ 35184372088832) : (Lit.int .i64 (n : Int)).wf = true := by
 simp [Lit.wf, IntKind.min, IntKind.max, IntKind.signed, IntKind.bits]; omega
theorem Fa.add_spell (a : Addr) (m j : Nat) (h : 0 < j) : a.add (m + j) = ⟨(a.add m).block, (a.add m).off + j, none⟩ := by
 unfold Addr.add
 rw [if_neg (by omega)]
 by_cases c : m = 0
 ·subst c; simp
 ·rw [if_neg c]; simp [Nat.add_assoc]
theorem Fa.PK_at {W : World} {A : Option Addr} {ps : List Fa.Place} (h : Kd.C Fa.PK W A ps.length ps) (q : Nat) (hq : q < ps.length) :
  ∃ ad, A = some ad ∧ W.cell? (ad.add (q * 5)) = some (.int .i64 (ps.getD q Fa.noPlace).1) ∧ W.cell? ⟨(ad.add (q * 5)).block, (ad.add (q * 5)).off + 1, none⟩ = some (.int .i64 (ps.getD q Fa.noPlace).2.1) ∧
   W.cell? ⟨(ad.add (q * 5)).block, (ad.add (q * 5)).off + 2, none⟩ = some (.bool (ps.getD q Fa.noPlace).2.2.1) ∧ W.cell? ⟨(ad.add (q * 5)).block, (ad.add (q * 5)).off + 3, none⟩ = some (.bool (ps.getD q Fa.noPlace).2.2.2.1) ∧
   W.cell? ⟨(ad.add (q * 5)).block, (ad.add (q * 5)).off + 4, none⟩ = some (.bool (ps.getD q Fa.noPlace).2.2.2.2) := by
 obtain ⟨ad, c, e, hl, hK, hc⟩ := ReadsRow.get_ h Fa.noPlace (q : Int) (by omega) (by omega); rw [Int.toNat_natCast] at hK hc; obtain ⟨_, _, rfl, rfl, _, _, rfl, rfl, _, _, rfl, rfl, _, _, rfl, rfl, rfl⟩ := hK; exact ⟨ad, e, hc 0 _ rfl, by rw [← Fa.add_spell _ _ _ (by decide)]; exact hc 1 _ rfl, by rw [← Fa.add_spell _ _ _ (by decide)]; exact hc 2 _ rfl, by rw [← Fa.add_spell _ _ _ (by decide)]; exact hc 3 _ rfl, by rw [← Fa.add_spell _ _ _ (by decide)]; exact hc 4 _ rfl⟩
theorem Fa.to_some {kind : Int} {p z : Fa.Place} {s : Int} (h : Fa.to kind p s = some z) : Fb.f kind p.1 p.2.1 p.2.2.1 p.2.2.2.1 p.2.2.2.2 s = some (z.1, z.2.1, z.2.2.1, z.2.2.2.1, z.2.2.2.2) ∧ (Lit.int .i64 z.1).wf = true ∧ (Lit.int .i64 z.2.1).wf = true := by
 unfold Fa.to at h
 obtain ⟨y, hy, h⟩ := QZ h
 by_cases h1 : (Lit.int .i64 y.1).wf = true
 case neg => rw [if_neg h1] at h; cases h
 by_cases h2 : (Lit.int .i64 y.2.1).wf = true
 case neg => rw [if_pos h1, if_neg h2] at h; cases h
 rw [if_pos h1, if_pos h2] at h; obtain rfl := Qx h; exact ⟨hy, h1, h2⟩
theorem Off.names {P : Program} {k e : TypeId} {val : Fa.Place → Value} {W : World} {b : Nat} {ms : List Fa.Place} {D : DataW Unit} (h : Names_ P k e val W b ms D) (T : List Nat) : Off W (some b) T := fun g hg q hq cs hc => by
 obtain rfl := Qx hg; obtain ⟨es, n, ho, _⟩ := h.own; rw [ho] at hc; cases hc
theorem Fa.mono : ∀ a0 a1 a2 a3 a4 k, LeO (Fa.f k a0 a1 a2 a3 a4) (Fa.f (k + 1) a0 a1 a2 a3 a4) := fun a0 a1 a2 a3 a4 k => LeO.bind (Feb.mono a0 a1 a2 a3 a4 k) (fun _ => LeO.refl _)
set_option maxHeartbeats 8000000 in
set_option maxRecDepth 100000 in
theorem Fa.calls (k : Nat) (a0_0 : Int) (A0_1 : Option Addr) (c0_1 : Nat) (l0_1 : List ByteArray) (A0_2 : Option Addr) (c0_2 : Nat) (l0_2 : List Int) (a0_3 : Int) (a0_4 : Int) (r1 : List ByteArray) (r2 : List Bool) (r3 : List (List Int)) (r4 : Int) (w : World)
  (hr0_1 : Kd.C Kd.string w A0_1 l0_1.length l0_1) (hc0_1 : l0_1.length ≤ c0_1) (hr0_2 : Kd.C (Kd.int .i64) w A0_2 l0_2.length l0_2) (hc0_2 : l0_2.length ≤ c0_2) (h : Fa.f k a0_0 l0_1 l0_2 a0_3 a0_4 = some (r1, r2, r3, r4)) :
  Calls Try.prog 9 #[.agg #[.int .i64 a0_0, .slice A0_1 l0_1.length c0_1, .slice A0_2 l0_2.length c0_2, .int .i64 a0_3, .int .i64 a0_4]] w fun e w' => ∃ v0_ v1_ v2_ : Value, e = .returned (.tuple #[.agg #[v0_, v1_, v2_], .int .i64 r4]) ∧ Kd.R Kd.string 9 w' w.heap.size (fun _ => True) v0_ r1 ∧ Kd.R Kd.bool 4 w' w.heap.size (fun _ => True) v1_ r2 ∧ Kd.S (Kd.slice 3 (Kd.int .i64)) 42 w' w.heap.size (fun _ => True) v2_ r3 ∧ Below w.heap.size w w' := by
 unfold Fa.f at h
 replace h := QZ h; obtain ⟨e, he, h⟩ := h; have HE := Aside0.mk he; have H1 := Aside0.mk hr0_1; have H2 := Aside0.mk hr0_2; have C1 := Aside0.mk hc0_1; have C2 := Aside0.mk hc0_2; clear he hr0_1 hr0_2 hc0_1 hc0_2; have hmm := @run_makeMap Try.prog
 by_cases e0 : e = 0
 case neg =>
  rw [if_neg e0] at h
  have eb : (e != 0) = true := by simpa using e0
  simp only [Option.some.injEq, Prod.mk.injEq] at h; obtain ⟨rfl, rfl, rfl, rfl⟩ := h
  go_enter Try.func9, Try.ntmps9
  have HB := Aside0.mk (Qg w.heap.size w)
  go_wp2_with (first
   | ((with_reducible refine Qa (N := 1) rfl ?_); refine be_ (cs := #[.int .i64 a0_0, .slice A0_1 l0_1.length c0_1, .slice A0_2 l0_2.length c0_2, .int .i64 a0_3, .int .i64 a0_4]) (t := 26) ?_; intro gb1 hg w4 F hb; have BK1 := Aside0.mk F; have GE1 := gE hg (bO HB.out); replace HB := hS0 HB hb; clear hb F hg)
   | ((with_reducible refine Qa (N := 2) rfl ?_); refine be_ (cs := #[.slice none 0 0, .slice none 0 0, .slice none 0 0]) (t := 31) ?_; intro gb2 hg w5 F hb; have BK2 := Aside0.mk F; have GE2 := gE hg (bS1 HB.out GE1.out); replace HB := hS1 HB GE1 hb; have NB12 := nL hg BK1; have NB21 := nG hg BK1; replace BK1 := kB BK1 hb; clear hb F hg; obtain ⟨hz0, hz1, hz2, hz3, hz4, hf0, hf1, hf2, hf3, hf4⟩ := bF5 BK1.out)
   | (go_at_call 24; (with_reducible refine (Feb.calls k a0_0 _ _ l0_1 _ _ l0_2 a0_3 a0_4 e _ ?s1 C1.out ?s2 C2.out HE.out).mono ?_); (case s1 => exact (Q3 H1.out (bS2 HB.out GE1.out GE2.out))); (case s2 => exact (Q3 H2.out (bS2 HB.out GE1.out GE2.out))); rintro _ w6 ⟨rfl, hb⟩; have BQ2 := kB BK2 hb; have BQ1 := kB BK1 hb; have HBQ := hS2 HB GE1 GE2 hb; clear hb BK1 BK2 HB; obtain ⟨rz0, rz1, rz2, rf0, rf1, rf2⟩ := bF3 BQ2.out))
  refine bodyPost_ret (Fa.res rfl _ _ gb2 31 #[.slice none 0 0, .slice none 0 0, .slice none 0 0] (0, 0) _ (.int .i64 e) rfl rfl (Qy (Qy (Qy BQ2.out 0 _ rfl) 1 _ rfl) 2 _ rfl) Try.underlying31 rfl (by kernel_rfl)) rfl ?_; exact ⟨_, _, _, rfl, WV _ _ _ _ _, WV _ _ _ _ _, Wy _ _ _ _ _, bS2 HBQ.out GE1.out GE2.out⟩
 case pos =>
  rw [if_pos e0] at h; subst e0
  by_cases e1 : (6 : Int) < (l0_1.length : Int)
  ·rw [if_pos e1] at h; have eb : decide ((6 : Int) < (l0_1.length : Int)) = true := decide_eq_true e1; simp only [Option.some.injEq, Prod.mk.injEq] at h; obtain ⟨rfl, rfl, rfl, rfl⟩ := h
   go_enter Try.func9, Try.ntmps9
   have HB := Aside0.mk (Qg w.heap.size w)
   go_wp2_with (first
   | ((with_reducible refine Qa (N := 1) rfl ?_); refine be_ (cs := #[.int .i64 a0_0, .slice A0_1 l0_1.length c0_1, .slice A0_2 l0_2.length c0_2, .int .i64 a0_3, .int .i64 a0_4]) (t := 26) ?_; intro gb1 hg w4 F hb; have BK1 := Aside0.mk F; have GE1 := gE hg (bO HB.out); replace HB := hS0 HB hb; clear hb F hg)
   | ((with_reducible refine Qa (N := 2) rfl ?_); refine be_ (cs := #[.slice none 0 0, .slice none 0 0, .slice none 0 0]) (t := 31) ?_; intro gb2 hg w5 F hb; have BK2 := Aside0.mk F; have GE2 := gE hg (bS1 HB.out GE1.out); replace HB := hS1 HB GE1 hb; have NB12 := nL hg BK1; have NB21 := nG hg BK1; replace BK1 := kB BK1 hb; clear hb F hg; obtain ⟨hz0, hz1, hz2, hz3, hz4, hf0, hf1, hf2, hf3, hf4⟩ := bF5 BK1.out)
   | (go_at_call 24; (with_reducible refine (Feb.calls k a0_0 _ _ l0_1 _ _ l0_2 a0_3 a0_4 0 _ ?s1 C1.out ?s2 C2.out HE.out).mono ?_); (case s1 => exact (Q3 H1.out (bS2 HB.out GE1.out GE2.out))); (case s2 => exact (Q3 H2.out (bS2 HB.out GE1.out GE2.out))); rintro _ w6 ⟨rfl, hb⟩; have BQ2 := kB BK2 hb; have BQ1 := kB BK1 hb; have HBQ := hS2 HB GE1 GE2 hb; clear hb BK1 BK2 HB; obtain ⟨rz0, rz1, rz2, rf0, rf1, rf2⟩ := bF3 BQ2.out; clear hz0 hz1 hz2 hz3 hz4 hf0 hf1 hf2 hf3 hf4; obtain ⟨hz0, hz1, hz2, hz3, hz4, hf0, hf1, hf2, hf3, hf4⟩ := bF5 BQ1.out))
   refine bodyPost_ret (Fa.res rfl _ _ gb2 31 #[.slice none 0 0, .slice none 0 0, .slice none 0 0] (0, 0) _ (.int .i64 150) rfl rfl (Qy (Qy (Qy BQ2.out 0 _ rfl) 1 _ rfl) 2 _ rfl) Try.underlying31 rfl (by kernel_rfl)) rfl ?_; exact ⟨_, _, _, rfl, WV _ _ _ _ _, WV _ _ _ _ _, Wy _ _ _ _ _, bS2 HBQ.out GE1.out GE2.out⟩
  ·rw [if_neg e1] at h; have eb : decide ((6 : Int) < (l0_1.length : Int)) = false := decide_eq_false e1; replace h := QZ h; obtain ⟨tr, htr, h⟩ := h; replace h := QZ h; obtain ⟨letters, hle, h⟩ := h
   by_cases wb : (Lit.int .i64 a0_3).wf = true
   case neg => rw [if_neg wb] at h; cases h
   by_cases wm : (Lit.int .i64 a0_4).wf = true
   case neg => rw [if_pos wb, if_neg wm] at h; cases h
   rw [if_pos wb, if_pos wm] at h; replace h := QZ h; obtain ⟨z, hgo, h⟩ := h; obtain ⟨kl, hkey⟩ := Fa.key (a0_3, a0_4, true, false, false) wb wm; have hkey' : keyOf Try.prog 59 (.agg #[.int .i64 a0_3, .int .i64 a0_4, .bool true, .bool false, .bool false]) = some kl := hkey; have HTR := Aside0.mk htr; have HLE := Aside0.mk hle; have HGO := Aside0.mk hgo; have HZ := Aside0.mk h; clear htr hle hgo h wb wm
   go_enter Try.func9, Try.ntmps9
   have HB := Aside0.mk (Qg w.heap.size w)
   go_upto_region 6 with (first
   | ((with_reducible refine Qa (N := 1) rfl ?_); refine be_ (cs := #[.int .i64 a0_0, .slice A0_1 l0_1.length c0_1, .slice A0_2 l0_2.length c0_2, .int .i64 a0_3, .int .i64 a0_4]) (t := 26) ?_; intro gb1 hg w4 F hb; have BK1 := Aside0.mk F; have GE1 := gE hg (bO HB.out); replace HB := hS0 HB hb; clear hb F hg)
   | ((with_reducible refine Qa (N := 2) rfl ?_); refine be_ (cs := #[.slice none 0 0, .slice none 0 0, .slice none 0 0]) (t := 31) ?_; intro gb2 hg w5 F hb; have BK2 := Aside0.mk F; have GE2 := gE hg (bS1 HB.out GE1.out); replace HB := hS1 HB GE1 hb; have NB12 := nL hg BK1; have NB21 := nG hg BK1; replace BK1 := kB BK1 hb; clear hb F hg; obtain ⟨hz0, hz1, hz2, hz3, hz4, hf0, hf1, hf2, hf3, hf4⟩ := bF5 BK1.out)
   | (go_at_call 24; (with_reducible refine (Feb.calls k a0_0 _ _ l0_1 _ _ l0_2 a0_3 a0_4 0 _ ?s1 C1.out ?s2 C2.out HE.out).mono ?_); (case s1 => exact (Q3 H1.out (bS2 HB.out GE1.out GE2.out))); (case s2 => exact (Q3 H2.out (bS2 HB.out GE1.out GE2.out))); rintro _ w6 ⟨rfl, hb⟩; have BQ2 := kB BK2 hb; have BQ1 := kB BK1 hb; have HBQ := hS2 HB GE1 GE2 hb; clear hb BK1 BK2 HB; clear hz0 hz1 hz2 hz3 hz4 hf0 hf1 hf2 hf3 hf4; obtain ⟨hz0, hz1, hz2, hz3, hz4, hf0, hf1, hf2, hf3, hf4⟩ := bF5 BQ1.out))
   go_upto_region 7 with ((with_reducible refine Qa (N := 5) rfl ?_); refine be_ (cs := #[.int .i64 0, .int .i64 0, .bool false, .bool false, .bool false]) (t := 59) ?_; intro gb5 hg w7 F hb; have BK5 := Aside0.mk F; have GE5 := gE hg (bS2 HBQ.out GE1.out GE2.out); have HBR := hS2 HBQ GE1 GE2 hb; have NB15 := nL hg BQ1; have NB25 := nL hg BQ2; have BR1 := kB BQ1 hb; have BR2 := kB BQ2 hb; clear hb F hg; obtain ⟨pz0, pz1, pz2, pz3, pz4, pf0, pf1, pf2, pf3, pf4⟩ := bF5 BK5.out)
   have K5 := Qy (Qy (Qy (Qy (Qy BK5.out 0 (.int .i64 a0_3) rfl) 1 (.int .i64 a0_4) rfl) 2 (.bool true) rfl) 3 (.bool false) rfl) 4 (.bool false) rfl
   have FB : ∀ k, k ≠ gb5 → (((((w7.setCell ⟨gb5, 0, none⟩ (.int .i64 a0_3)).setCell ⟨gb5, 1, none⟩ (.int .i64 a0_4)).setCell ⟨gb5, 2, none⟩ (.bool true)).setCell ⟨gb5, 3, none⟩ (.bool false)).setCell ⟨gb5, 4, none⟩ (.bool false)).heap[k]? = w7.heap[k]? := fun k hk => by
    rw [Below.heap_setCell _ _ _ k hk, Below.heap_setCell _ _ _ k hk, Below.heap_setCell _ _ _ k hk, Below.heap_setCell _ _ _ k hk, Below.heap_setCell _ _ _ k hk]
   have HB8 := below_set (g := gb5) (j := 4) (v := .bool false) (below_set (g := gb5) (j := 3) (v := .bool false) (below_set (g := gb5) (j := 2) (v := .bool true) (below_set (g := gb5) (j := 1) (v := .int .i64 a0_4) (below_set (g := gb5) (j := 0) (v := .int .i64 a0_3) (bS2 HBR.out GE1.out GE2.out) GE5.out) GE5.out) GE5.out) GE5.out) GE5.out; have B1 := (FB gb1 (fun e => by have := NB15.out; exact absurd e this)).trans BR1.out; have B2 := (FB gb2 (fun e => by have := NB25.out; exact absurd e this)).trans BR2.out; clear FB; generalize (((((w7.setCell ⟨gb5, 0, none⟩ (.int .i64 a0_3)).setCell ⟨gb5, 1, none⟩ (.int .i64 a0_4)).setCell ⟨gb5, 2, none⟩ (.bool true)).setCell ⟨gb5, 3, none⟩ (.bool false)).setCell ⟨gb5, 4, none⟩ (.bool false)) = w8 at K5 HB8 B1 B2 ⊢; have K5 := Aside0.mk K5; have B1 := Aside0.mk B1; have B2 := Aside0.mk B2; have HB8 := Aside0.mk HB8; clear BK5 BR1 BR2 HBR HBQ BQ1 BQ2 pz0 pz1 pz2 pz3 pz4 pf0 pf1 pf2 pf3 pf4 hz0 hz1 hz2 hz3 hz4 hf0 hf1 hf2 hf3 hf4; obtain ⟨pz0, pz1, pz2, pz3, pz4, pf0, pf1, pf2, pf3, pf4⟩ := bF5 K5.out
   have mapC : ∀ o : Obj, (w8.alloc o).cell? ⟨gb5, 0, none⟩ = some (.int .i64 a0_3) ∧ (w8.alloc o).cell? ⟨gb5, 1, none⟩ = some (.int .i64 a0_4) ∧ (w8.alloc o).cell? ⟨gb5, 2, none⟩ = some (.bool true) ∧ (w8.alloc o).cell? ⟨gb5, 3, none⟩ = some (.bool false) ∧ (w8.alloc o).cell? ⟨gb5, 4, none⟩ = some (.bool false) := fun o => by
    have b := below_alloc (Qg w8.heap.size w8) o; exact ⟨Qs b pz0, Qs b pz1, Qs b pz2, Qs b pz3, Qs b pz4⟩
   have mc0 := fun o => (mapC o).1
   have mc1 := fun o => (mapC o).2.1
   have mc2 := fun o => (mapC o).2.2.1
   have mc3 := fun o => (mapC o).2.2.2.1
   have mc4 := fun o => (mapC o).2.2.2.2
   clear mapC; obtain ⟨w9, hrun, hown, hgrow⟩ := World.ownsMap.update (H := Unit) (World.ownsMap_made w8 Try.prog 59 (plainElem Try.prog 3)) Fa.law Try.underlying60 (by decide) hkey' (val := .int .i64 0) (d := .lit (.int .i64 0)) (ps := []) (plainElem_int (a := 0) Try.underlying3 (by decide)); have HN := Aside0.mk (Names_.put Fa.law Fa.PV_inj (Names_.new Try.prog 59 3 Fa.PV w8) hkey (by simp) hown); have HGR := Aside0.mk hgrow; clear hown hgrow; have hg9 := HGR.out; have K9 := We (Qz K5.out (.map #[] 0)) hg9 (by have := blk_lt K5.out; simp; omega); have B91 := Aside0.mk (We (Qz B1.out (.map #[] 0)) hg9 (by have := blk_lt B1.out; simp; omega)); have B92 := Aside0.mk (We (Qz B2.out (.map #[] 0)) hg9 (by have := blk_lt B2.out; simp; omega)); have HB9 := Aside0.mk (pw_below_grown (below_alloc HB8.out (.map #[] 0)) (some w8.heap.size) (by have := Qv HB8.out; simp; omega) hg9 (fun k hk => by cases hk; exact Qv HB8.out)); obtain ⟨mb, emb⟩ : ∃ mb, mb = w8.heap.size := ⟨_, rfl⟩; have LOM := Aside0.mk (show w.heap.size ≤ mb by rw [emb]; exact Qv HB8.out)
   go_upto_region 8 with (fail)
   rw [← emb] at HN; rw [← emb]; clear HGR hg9 hrun mc0 mc1 mc2 mc3 mc4 pz0 pz1 pz2 pz3 pz4 pf0 pf1 pf2 pf3 pf4 K5 B1 B2 HB8 emb; obtain ⟨pz0, pz1, pz2, pz3, pz4, pf0, pf1, pf2, pf3, pf4⟩ := bF5 K9; clear pf0 pf1 pf2 pf3 pf4; have K9 := Aside0.mk K9
   go_upto_region 9 with ((with_reducible refine Qa (N := 37) rfl ?_); go_loud (refine Wx Fa.PK (w0 := w) w.heap.size 59 ?hg (N := 37) ?hd (xs := [(a0_3, a0_4, true, false, false)]) (inner := [.int .i64 a0_3, .int .i64 a0_4, .bool true, .bool false, .bool false]) (ok := fun _ => True) (okp := fun _ => True) ?hr ?hp (fun _ hk => hk) trivial HB9.out (Qv HB9.out) (by simp) ?_; (case hd => rfl); (case hg => rfl); (case hr => first | (go_simp; done) | (go_simp; rfl)); (case hp => exact Reps.snoc (Reps.none _ _) (Fa.PK_M _ _ _ (a0_3, a0_4, true, false, false)) rfl); intro vL w10 ho hb hg hn; obtain ⟨AL, cL, eL⟩ := Wf ho; replace eL : vL = .slice AL 1 cL := eL; subst eL; have HL10 := Aside0.mk ho; have HG10 := Aside0.mk (below_of_grown hg); clear ho hb hg hn pz0 pz1 pz2 pz3 pz4))
   have B101 := Aside0.mk (Q8 B91.out HG10.out); have B102 := Aside0.mk (Q8 B92.out HG10.out); have HN10 := Aside0.mk (HN.out.kept (grown_of_below HG10.out none) (by simp)); have HB10 := Aside0.mk (below_step HB9.out HG10.out); clear HN B91 B92 HB9 HG10 K9; obtain ⟨hz0, hz1, hz2, hz3, hz4, hf0, hf1, hf2, hf3, hf4⟩ := bF5 B101.out; clear hf0 hf1 hf2 hf3 hf4 hz0 hz2 hz3 hz4
   go_upto_region 10 with (first
    | (go_at_call 25; (with_reducible refine (Fec.calls _ _ l0_1 tr _ ?s0 C1.out HTR.out).mono ?_); (case s0 => exact Q3 H1.out HB10.out); rintro _ w11 ⟨vt, rfl, hr, hb⟩; obtain ⟨At_, ct_, et_⟩ := Wf hr; subst et_; have HT11 := Aside0.mk (Kd.R_lower hr (Qv HB10.out)); have HB11 := Aside0.mk (below_step HB10.out hb); have B111 := Aside0.mk (Q8 B101.out hb); have B112 := Aside0.mk (Q8 B102.out hb); have HN11 := Aside0.mk (HN10.out.kept (grown_of_below hb none) (by simp)); have HL11 := Aside0.mk (Wz HL10.out hb); clear hr hb HL10 HN10 B101 B102 HB10 hz1)
    | ((with_reducible refine Qa (N := 8) rfl ?_); refine be_ (cs := #[.slice none 0 0, .slice none 0 0, .slice none 0 0]) (t := 31) ?_; intro g8 hg w12 F hb; have BK8 := Aside0.mk F; have HG8 := Aside0.mk hg; have HB12 := Aside0.mk hb; clear hb F hg; obtain ⟨pz0, pz1, pz2, pf0, pf1, pf2⟩ := bF3 BK8.out))
   have HB13 := below_set (g := g8) (j := 2) (v := .slice none 0 0) (below_set (g := g8) (j := 1) (v := .slice none 0 0) (below_set (g := g8) (j := 0) (v := .slice At_ tr.length ct_) HB12.out (Qd HG8.out.symm)) (Qd HG8.out.symm)) (Qd HG8.out.symm); have BK13 := Qy (Qy (Qy BK8.out 0 (.slice At_ tr.length ct_) rfl) 1 (.slice none 0 0) rfl) 2 (.slice none 0 0) rfl; generalize (((w12.setCell ⟨g8, 0, none⟩ (.slice At_ tr.length ct_)).setCell ⟨g8, 1, none⟩ (.slice none 0 0)).setCell ⟨g8, 2, none⟩ (.slice none 0 0)) = w13 at HB13 BK13 ⊢; have B131 := Aside0.mk (Q8 B111.out HB13); have B132 := Aside0.mk (Q8 B112.out HB13); have HN13 := Aside0.mk (HN11.out.kept (grown_of_below HB13 none) (by simp)); have HL13 := Aside0.mk (Wz HL11.out HB13); have HT13 := Aside0.mk (Wz HT11.out HB13); have LO8 : Aside0 (w.heap.size ≤ g8) := ⟨by rw [HG8.out]; exact Qv HB11.out⟩; have N28 : Aside0 (gb2 ≠ g8) := ⟨by have := blk_lt B112.out; have := HG8.out; omega⟩; have HBD := Aside0.mk (below_step HB11.out HB13); have BK13 := Aside0.mk BK13; clear HB13 B111 B112 HN11 HL11 HT11 HG8 HB11 HB12 BK8 pz0 pz1 pz2 pf0 pf1 pf2; obtain ⟨hz0, hz1, hz2, hz3, hz4, hf0, hf1, hf2, hf3, hf4⟩ := bF5 B131.out; clear hf0 hf1 hf2 hf3 hf4 hz0 hz1 hz3 hz4
   go_upto_region 11 with (go_at_call 26; go_loud ((with_reducible refine (Fba.calls _ _ l0_2 letters _ ?s0 C2.out HLE.out).mono ?_); (case s0 => exact Q3 H2.out HBD.out); rintro _ w14 ⟨v9, rfl, hr, hb⟩; obtain ⟨A9, c9, e9⟩ := Wf hr; subst e9; have AT := Aside0.mk (show Fa.At w w14 gb1 gb2 g8 mb w14.heap.size #[.int .i64 a0_0, .slice A0_1 l0_1.length c0_1, .slice A0_2 l0_2.length c0_2, .int .i64 a0_3, .int .i64 a0_4] (.slice AL 1 cL) (.slice A9 letters.length c9) (.slice At_ tr.length ct_) (.slice none 0 0) (.slice none 0 0) [(a0_3, a0_4, true, false, false)] [(a0_3, a0_4, true, false, false)] _ letters tr [] [] from ⟨below_step HBD.out hb, GE2.out, LO8.out, LOM.out, N28.out, Q8 B131.out hb, Q8 B132.out hb, Q8 BK13.out hb, HN13.out.kept (grown_of_below hb none) (by simp), Wz HL13.out hb, Kd.R_lower hr (Qv HBD.out), Wz HT13.out hb, WV _ _ _ _ _, Wy _ _ _ _ _⟩); clear hr hb hz2))
   clear HBD B131 B132 BK13 HN13 HL13 HT13 LO8 N28 LOM GE1 GE2 GE5 NB12 NB21 NB15 NB25 H1 H2 C1 C2 HE; have HLL := Aside0.mk (Fa.sums_len HLE.out); clear HLE
   go_wp2
   go_loopw [7, 10] (fun v7 v10 wr => ∃ (m q : Nat) (ps : List Fa.Place) (D : DataW Unit) (ac : List Bool) (nx : List (List Int)) (AL : Option Addr) (cL B : Nat) (va vn : Value), v7 = .slice AL ps.length cL ∧ v10 = .int .i64 (q : Int) ∧ q ≤ ps.length ∧ ps.length ≤ 256 ∧ Aside0 (ac.length = q ∧ nx.length = q) ∧ Aside0 (Fa.go a0_0 letters m q ps ac nx = some z) ∧ Aside0 (Fa.At w wr gb1 gb2 g8 mb B #[.int .i64 a0_0, .slice A0_1 l0_1.length c0_1, .slice A0_2 l0_2.length c0_2, .int .i64 a0_3, .int .i64 a0_4] (.slice AL ps.length cL) (.slice A9 letters.length c9) (.slice At_ tr.length ct_) va vn ps ps D letters tr ac nx)) (fun _ v10 _ => 257 - (intOf v10).toNat)
   case atStart => exact ⟨257, 0, _, _, [], [], _, _, _, _, _, rfl, rfl, by simp, by simp, ⟨rfl, rfl⟩, HGO, AT⟩
   case round =>
    clear AT HGO; obtain ⟨m, q, ps, D, ac, nx, AL, cL, B, va, vn, rfl, rfl, hq, hps, HLN, HGO, AT⟩ := hrel
    by_cases cq : q < ps.length
    ·have hg := HGO.out; cases m with
     | zero => cases hg
     | succ m =>
     rw [Fa.go, if_pos cq] at hg; replace hg := QZ hg; obtain ⟨z1, hrow, hz1⟩ := hg; obtain ⟨p, hp⟩ : ∃ p, p = ps.getD q Fa.noPlace := ⟨_, rfl⟩; rw [← hp] at hrow; have HROW := Aside0.mk hrow; have HZ1 := Aside0.mk hz1; have HP := Aside0.mk hp.symm; have cb : decide ((q : Int) < (ps.length : Int)) = true := decide_eq_true (by omega)
     have hll : (letters.length : Int) ≤ 1073741824 := by have := HLL.out.2; omega
     clear hrow hz1 hp HGO; have HSZ := Aside0.mk (Qv AT.out.bel)
     go_wp2_with ((with_reducible refine Qa (N := 53) rfl ?_); refine Kd.R_make (Kd.int .i64) (w0 := w) w.heap.size 3 rfl (N := 53) rfl 42 _ _ rfl (letters.length : Int) rfl rfl Try.underlying42 (.int .i64 0) 8 info3 rfl (by decide) (by omega) 0 (ok := fun k => wr.heap.size ≤ k) (okp := fun k => wr.heap.size ≤ k) rfl (fun _ hk => hk) (Nat.le_refl _) (by omega) (by omega) AT.out.bel (Qv AT.out.bel) ?_; intro v11 w15 ho hb hg hn; rw [Int.toNat_natCast] at ho; have HR15 := Aside0.mk ho; have AT15 := Aside0.mk ((AT.out.reB (Nat.le_refl _)).kept (below_of_grown hg)); clear ho hb hg hn AT)
     have LB := Aside0.mk (show w.heap.size ≤ wr.heap.size from HSZ.out); obtain ⟨B', eB⟩ : ∃ B', B' = wr.heap.size := ⟨_, rfl⟩; rw [← eB] at HR15 AT15 LB; clear eB
     go_loopw [7, 15, 16, 56] (fun v7 v15 v16 v56 wq => ∃ (a : Nat) (ps2 : List Fa.Place) (xs : List Int) (D2 : DataW Unit) (AL2 : Option Addr) (cL2 : Nat) (x15 x16 : Value), v7 = .slice AL2 ps2.length cL2 ∧ v15 = x15 ∧ v16 = x16 ∧ v56 = .int .i64 (a : Int) ∧ a ≤ letters.length ∧ q < ps2.length ∧ ps2.length ≤ 256 ∧ Aside0 (ps2.getD q Fa.noPlace = p) ∧ Aside0 (xs.length = letters.length) ∧ Aside0 (Fa.row a0_0 p (letters.drop a) a ps2 xs = some z1) ∧ Aside0 (Fa.At w wq gb1 gb2 g8 mb B' #[.int .i64 a0_0, .slice A0_1 l0_1.length c0_1, .slice A0_2 l0_2.length c0_2, .int .i64 a0_3, .int .i64 a0_4] (.slice AL2 ps2.length cL2) (.slice A9 letters.length c9) (.slice At_ tr.length ct_) va vn ps2 ps2 D2 letters tr ac nx) ∧ Aside0 ((Kd.int .i64).R 3 wq w.heap.size (fun k => B' ≤ k) v11 xs)) (fun _ _ _ v56 _ => letters.length - (intOf v56).toNat)
     case atStart => exact ⟨0, ps, _, D, _, _, _, _, rfl, rfl, rfl, rfl, by omega, cq, hps, HP, ⟨List.length_replicate⟩, HROW, AT15, HR15⟩
     case round =>
      clear HROW AT15 HR15 cb cq hq hps HP; obtain ⟨a, ps2, xs, D2, AL2, cL2, x15, x16, rfl, rfl, rfl, rfl, ha, hq, hps, HP, HX, HROW, AT, HR⟩ := hrel
      by_cases ca : a < letters.length
      ·have hr := HROW.out; rw [List.drop_eq_getElem_cons ca, Fa.row] at hr; replace hr := QZ hr; obtain ⟨zz, hto, hr⟩ := hr; obtain ⟨s, hs⟩ : ∃ s, s = letters[a] := ⟨_, rfl⟩; rw [← hs] at hto; obtain ⟨hnx, hw1, hw2⟩ := Fa.to_some hto; obtain ⟨kl, hkey⟩ := Fa.key zz hw1 hw2; have hkey' : keyOf Try.prog 59 (.agg #[.int .i64 zz.1, .int .i64 zz.2.1, .bool zz.2.2.1, .bool zz.2.2.2.1, .bool zz.2.2.2.2]) = some kl := hkey; have HNX := Aside0.mk hnx; have HRO := Aside0.mk hr; obtain ⟨ad9, e9, x9⟩ := Kd.at_int (WK AT.out.lets).2.2 (a : Int) (by omega) (by omega); cases e9
       have hrd : rd letters (a : Int) = s := by rw [hs]; simp [rd, List.getD_eq_getElem?_getD, List.getElem?_eq_getElem ca]
       rw [hrd, Int.toNat_natCast] at x9; obtain ⟨ad, ead, zq0, zq1, zq2, zq3, zq4⟩ := Fa.PK_at (WK AT.out.list).2.2 q hq; cases ead; rw [HP.out] at zq0 zq1 zq2 zq3 zq4; obtain ⟨hz0, _, _, _, _, _, _, _, _, _⟩ := bF5 AT.out.b1; have cb : decide ((a : Int) < (letters.length : Int)) = true := decide_eq_true (by omega)
       have hal : (a : Int) < 1073741824 := by omega
       obtain ⟨g11, c11, e11, hw11, hl11, _⟩ := Kd.R_form HR.out (by rw [HX.out]; exact HLL.out.1); rw [HX.out] at e11; subst e11; have hB11 : B' ≤ g11 := HR.out.1 g11 (by simp [Value.ownBlock]); have HB11 := Aside0.mk hB11; have HW11 := Aside0.mk hw11; clear hr hto hs hnx hw1 hw2 hrd HROW hw11 hl11 hB11
       go_upto_region 18 with (fail)
       refine start_ (n := 10) (S := fun w' => w'.cell? ⟨gb1, 0, none⟩ = some (.int .i64 a0_0) ∧ w'.cell? (ad.add (q * 5)) = some (.int .i64 p.1) ∧ w'.cell? ⟨(ad.add (q * 5)).block, (ad.add (q * 5)).off + 1, none⟩ = some (.int .i64 p.2.1) ∧ w'.cell? ⟨(ad.add (q * 5)).block, (ad.add (q * 5)).off + 2, none⟩ = some (.bool p.2.2.1) ∧ w'.cell? ⟨(ad.add (q * 5)).block, (ad.add (q * 5)).off + 3, none⟩ = some (.bool p.2.2.2.1) ∧ w'.cell? ⟨(ad.add (q * 5)).block, (ad.add (q * 5)).off + 4, none⟩ = some (.bool p.2.2.2.2)) (ds := [9]) (bl 10 0) (by kernel_rfl) rfl rfl ⟨hz0, zq0, zq1, zq2, zq3, zq4⟩ (fun G => ?_); refine pure_ (i := 0) (N := some 61) (v := ?_) (a' := ?_) (bl 10 1) rfl rfl (by kernel_rfl) (fun _ _ _ h => h) (Or.inl ⟨by rfl, ?_⟩) ?_ ?_; rotate_left
       ·intro w'
        go_simp
        with_reducible rfl
       rotate_left
       ·simp only [Act.put, sA, sB, sC, i64_w, i32_w]
        rfl
       refine pure_ (i := 2) (N := some 63) (v := ?_) (a' := ?_) (bl 10 5) rfl rfl (by kernel_rfl) (fun _ _ _ h => h) (Or.inl ⟨by rfl, ?_⟩) ?_ ?_; rotate_left
       ·intro w'
        go_simp
        with_reducible rfl
       rotate_left
       ·simp only [Act.put, sA, sB, sC, i64_w, i32_w]
        rfl
       refine pure_ (i := 3) (N := some 64) (v := ?_) (a' := ?_) (bl 10 13) rfl rfl (by kernel_rfl) (fun _ _ _ h => h) (Or.inl ⟨by rfl, ?_⟩) ?_ ?_; rotate_left
       ·intro w'
        go_simp
        with_reducible rfl
       rotate_left
       ·simp only [Act.put, sA, sB, sC, i64_w, i32_w]
        rfl
       refine pure_ (i := 4) (N := some 65) (v := ?_) (a' := ?_) (bl 10 29) rfl rfl (by kernel_rfl) (fun _ _ _ h => h) (Or.inl ⟨by rfl, ?_⟩) ?_ ?_; rotate_left
       ·intro w'
        go_simp
        with_reducible rfl
       rotate_left
       ·simp only [Act.put, sA, sB, sC, i64_w, i32_w]
        rfl
       refine pure_ (i := 6) (N := some 67) (v := ?_) (a' := ?_) (bl 10 93) rfl rfl (by kernel_rfl) (fun _ _ _ h => h) (Or.inl ⟨by rfl, ?_⟩) ?_ ?_; rotate_left
       ·intro w'
        go_simp
        with_reducible rfl
       rotate_left
       ·simp only [Act.put, sA, sB, sC, i64_w, i32_w]
        rfl
       refine take_ (i := 1) (N := some 62) (v := ?_) (a' := ?_) (bl 10 95) rfl rfl (by kernel_rfl) (fun _ _ _ h => h) (Or.inl ⟨by rfl, ?_⟩) G ?_ ?_; rotate_left
       ·rintro w' ⟨s0, s1, s2, s3, s4, s5⟩
        go_simp
        with_reducible rfl
       rotate_left
       ·simp only [Act.put, sA, sB, sC, i64_w, i32_w]
        rfl
       refine take_ (i := 5) (N := some 66) (v := ?_) (a' := ?_) (bl 10 127) rfl rfl (by kernel_rfl) (fun _ _ _ h => h) (Or.inl ⟨by rfl, ?_⟩) G ?_ ?_; rotate_left
       ·rintro w' ⟨s0, s1, s2, s3, s4, s5⟩
        go_simp
        with_reducible rfl
       rotate_left
       ·simp only [Act.put, sA, sB, sC, i64_w, i32_w]
        rfl
       refine join_ (σ := Nat) 1 (bl 10 511) (fun g => [(68, .agg #[.int .i64 zz.1, .int .i64 zz.2.1, .bool zz.2.2.1, .bool zz.2.2.2.1, .bool zz.2.2.2.2]), (14, .pointer (some ⟨g, 0, none⟩))]) (fun g w' => w'.heap[g]? = some (.cells #[.int .i64 0, .int .i64 0, .bool false, .bool false, .bool false] 59 (0, 0)) ∧ Below wr.heap.size wr w' ∧ wr.heap.size ≤ g) ?_ ?_; rotate_left
       ·intro I; refine two_ (i := 7) (j := 8) (Ni := some 68) (Nj := some 14) (bl 10 255) (bl 10 383) rfl rfl rfl rfl (by kernel_rfl) (by decide) (by decide) (fun K hK => ?_) (fun K hK => ?_)
        ·refine goes_ Try.func27 (by kernel_rfl) rfl #[.int .i64 a0_0, .agg #[.int .i64 p.1, .int .i64 p.2.1, .bool p.2.2.1, .bool p.2.2.2.1, .bool p.2.2.2.2], .int .i64 s] (by rfl) rfl rfl (by simp only [List.map_toArray, List.map_cons, List.map_nil]; rfl) ?_
         with_reducible refine (Fb.calls a0_0 p.1 p.2.1 p.2.2.1 p.2.2.2.1 p.2.2.2.2 s zz.1 zz.2.1 zz.2.2.1 zz.2.2.2.1 zz.2.2.2.2 _ HNX.out).mono ?_
         rintro e wN ⟨rfl, hbN⟩; refine ⟨_, rfl, ?_⟩; have HBN := Aside0.mk (show Below wr.heap.size wr wN from below_step (below_drew (Qg _ _)) hbN); clear hbN; refine hK.out _ _ ⟨Qs HBN.out hz0, Qs HBN.out zq0, Qs HBN.out zq1, Qs HBN.out zq2, Qs HBN.out zq3, Qs HBN.out zq4⟩ (fun G => ?_); clear hK K; refine nm_ 68 ?_; refine one_ (i := 8) (N := some 14) (bl 10 511) rfl rfl (by kernel_rfl) (by decide) (fun K hK => ?_); refine value_ (w1 := ?_) (v := ?_) (by rfl) rfl ?_ ?_; rotate_left 2
         ·go_simp
          constructor
          ·rfl
          ·rfl
         refine hK.out _ _ ⟨Qs (below_alloc HBN.out _) hz0, Qs (below_alloc HBN.out _) zq0, Qs (below_alloc HBN.out _) zq1, Qs (below_alloc HBN.out _) zq2, Qs (below_alloc HBN.out _) zq3, Qs (below_alloc HBN.out _) zq4⟩ (fun G => ?_); clear hK K; refine nm_ 14 ?_; exact norm_ (by simp only [putAll, Act.put, sA, sB, sC]) (I wN.heap.size _ ⟨heap_alloc_new wN _, below_alloc HBN.out _, Qv HBN.out⟩)
        ·refine value_ (w1 := ?_) (v := ?_) (by rfl) rfl ?_ ?_; rotate_left 2
         ·go_simp
          constructor
          ·rfl
          ·rfl
         refine hK.out _ _ ⟨Qs (below_alloc (below_drew (Qg _ _)) _) hz0, Qs (below_alloc (below_drew (Qg _ _)) _) zq0, Qs (below_alloc (below_drew (Qg _ _)) _) zq1, Qs (below_alloc (below_drew (Qg _ _)) _) zq2, Qs (below_alloc (below_drew (Qg _ _)) _) zq3, Qs (below_alloc (below_drew (Qg _ _)) _) zq4⟩ (fun G => ?_); clear hK K; refine nm_ 14 ?_; refine one_ (i := 7) (N := some 68) (bl 10 511) rfl rfl (by kernel_rfl) (by decide) (fun K hK => ?_); refine goes_ Try.func27 (by kernel_rfl) rfl #[.int .i64 a0_0, .agg #[.int .i64 p.1, .int .i64 p.2.1, .bool p.2.2.1, .bool p.2.2.2.1, .bool p.2.2.2.2], .int .i64 s] (by rfl) rfl rfl (by simp only [List.map_toArray, List.map_cons, List.map_nil]; rfl) ?_
         with_reducible refine (Fb.calls a0_0 p.1 p.2.1 p.2.2.1 p.2.2.2.1 p.2.2.2.2 s zz.1 zz.2.1 zz.2.2.1 zz.2.2.2.1 zz.2.2.2.2 _ HNX.out).mono ?_
         rintro e wN ⟨rfl, hbN⟩; refine ⟨_, rfl, ?_⟩; have HBN := Aside0.mk (show Below wr.heap.size wr wN from below_step (below_alloc (below_drew (Qg _ _)) _) hbN); have hc14 := Q8 (heap_alloc_new wr.drew (.cells #[.int .i64 0, .int .i64 0, .bool false, .bool false, .bool false] 59)) hbN; clear hbN; have HC14 := Aside0.mk hc14; clear hc14; refine hK.out _ _ ⟨Qs HBN.out hz0, Qs HBN.out zq0, Qs HBN.out zq1, Qs HBN.out zq2, Qs HBN.out zq3, Qs HBN.out zq4⟩ (fun G => ?_); clear hK K; refine nm_ 68 ?_; exact norm_ (by simp only [putAll, Act.put, sA, sB, sC]) (I wr.heap.size _ ⟨HC14.out, HBN.out, Nat.le_refl _⟩)
       rintro g14 w16 ⟨hc, hb, hg⟩; have G : w16.cell? ⟨gb1, 0, none⟩ = some (.int .i64 a0_0) ∧ w16.cell? (ad.add (q * 5)) = some (.int .i64 p.1) ∧ w16.cell? ⟨(ad.add (q * 5)).block, (ad.add (q * 5)).off + 1, none⟩ = some (.int .i64 p.2.1) ∧ w16.cell? ⟨(ad.add (q * 5)).block, (ad.add (q * 5)).off + 2, none⟩ = some (.bool p.2.2.1) ∧ w16.cell? ⟨(ad.add (q * 5)).block, (ad.add (q * 5)).off + 3, none⟩ = some (.bool p.2.2.2.1) ∧ w16.cell? ⟨(ad.add (q * 5)).block, (ad.add (q * 5)).off + 4, none⟩ = some (.bool p.2.2.2.2) := ⟨Qs hb hz0, Qs hb zq0, Qs hb zq1, Qs hb zq2, Qs hb zq3, Qs hb zq4⟩; obtain ⟨pz0, pz1, pz2, pz3, pz4, pf0, pf1, pf2, pf3, pf4⟩ := bF5 hc; have HC := Aside0.mk hc; have HB16 := Aside0.mk hb; have HG14 := Aside0.mk hg; clear hc hb hg; refine norm_ (a' := ?_) ?_ ?_; rotate_left
       ·simp only [putAll, Act.put, sA, sB, sC]
        rfl
       refine last_ (i := 9) (N := none) (bl 10 1023) rfl rfl (by kernel_rfl) (by decide) (fun K hK => ?_); refine skip_ (w1 := ?_) (by rfl) rfl ?_ ?_; rotate_left
       ·go_simp
        rfl
       refine hK.out _ _ ?_; clear hK K; refine done_ (by kernel_rfl) ?_; have K14 := Qy (Qy (Qy (Qy (Qy HC.out 0 (.int .i64 zz.1) rfl) 1 (.int .i64 zz.2.1) rfl) 2 (.bool zz.2.2.1) rfl) 3 (.bool zz.2.2.2.1) rfl) 4 (.bool zz.2.2.2.2) rfl; have HB17 := below_set (g := g14) (j := 4) (v := .bool zz.2.2.2.2) (below_set (g := g14) (j := 3) (v := .bool zz.2.2.2.1) (below_set (g := g14) (j := 2) (v := .bool zz.2.2.1) (below_set (g := g14) (j := 1) (v := .int .i64 zz.2.1) (below_set (g := g14) (j := 0) (v := .int .i64 zz.1) HB16.out HG14.out) HG14.out) HG14.out) HG14.out) HG14.out; generalize (((((w16.setCell ⟨g14, 0, none⟩ (.int .i64 zz.1)).setCell ⟨g14, 1, none⟩ (.int .i64 zz.2.1)).setCell ⟨g14, 2, none⟩ (.bool zz.2.2.1)).setCell ⟨g14, 3, none⟩ (.bool zz.2.2.2.1)).setCell ⟨g14, 4, none⟩ (.bool zz.2.2.2.2)) = w17 at K14 HB17 ⊢; have AT17 := Aside0.mk (AT.out.kept HB17); have HR17 := Aside0.mk (Wz HR.out HB17); clear HB17 HC HB16 HG14 AT HR pz0 pz1 pz2 pz3 pz4 pf0 pf1 pf2 pf3 pf4 hz0 zq0 zq1 zq2 zq3 zq4 x9
       have hwa : wrap64 ((a : Int) + 1) = ((a + 1 : Nat) : Int) := by unfold wrap64; omega
       obtain ⟨pz0, pz1, pz2, pz3, pz4, pf0, pf1, pf2, pf3, pf4⟩ := bF5 K14; clear pf0 pf1 pf2 pf3 pf4
       by_cases hm : zz ∈ ps2
       ·have hh : Go.Maps.has D2 kl = true := by rw [AT17.out.map.has _ _ hkey]; simp [hm]
        have hat := AT17.out.map.at_ _ _ hkey hm (.lit (.int .i64 0)); have hr := HRO.out; rw [if_pos hm] at hr; have HROW := Aside0.mk hr; obtain ⟨cs11, hc11⟩ := Qi HR17.out g11 (by simp [Value.ownBlock]); obtain ⟨hy, hz⟩ := Wm 0 HR17.out (a : Int) (by omega) (by omega); rw [Int.toNat_natCast] at hy hz; have HC11 := Aside0.mk hc11; clear hr HRO hc11
        go_wp2_with ((at_lookup; refine wpList_lookup_own_ok_int _ rfl _ _ 60 rfl 59 3 .i64 Fa.law Try.underlying60 Try.underlying3 (Fa.zero _) mb ps2.length D2 rfl AT17.out.map.own _ _ rfl hkey' ?_; intro c' hat' hwc; rw [hat] at hat'; injection hat' with hat'; injection hat' with _ hat'; subst hat'; rw [hh]))
        have HP2 := Kd.R_putg HR17.out (a : Int) ((num1 ps2 zz : Nat) : Int); rw [Int.toNat_natCast] at HP2; have AT18 := AT17.out.rowed (j := a) (x := .int .i64 ((num1 ps2 zz : Nat) : Int)) HC11.out HB11.out HW11.out
        go_roundw
        case rel => exact ⟨a + 1, ps2, _, D2, _, _, _, _, rfl, rfl, rfl, (by first | (rw [hwa]) | (simp)), by omega, hq, hps, HP, ⟨by rw [List.length_set]; exact HX.out⟩, HROW, ⟨AT18⟩, ⟨HP2.1⟩⟩
        case measure => (try rw [hwa]); simp [intOf]; omega
       ·have hh : Go.Maps.has D2 kl = false := by rw [AT17.out.map.has _ _ hkey]; simp [hm]
        have hr := HRO.out; rw [if_neg hm] at hr
        by_cases h256 : ps2.length = 256
        ·rw [if_pos h256] at hr; obtain rfl := Qx hr; have hz1 := HZ1.out; rw [if_neg (by simp)] at hz1; obtain rfl := Qx hz1; have hz := HZ.out; rw [if_neg (by simp)] at hz; simp only [Option.some.injEq, Prod.mk.injEq] at hz; obtain ⟨rfl, rfl, rfl, rfl⟩ := hz
         have heq : ((ps2.length : Int) == 256) = true := by rw [h256]; rfl
         obtain ⟨rz0, rz1, rz2, rf0, rf1, rf2⟩ := bF3 AT17.out.b2; clear hz1 hr HRO HZ HZ1 h256
         go_wp2_with ((at_lookup; refine wpList_lookup_own_ok_int _ rfl _ _ 60 rfl 59 3 .i64 Fa.law Try.underlying60 Try.underlying3 (Fa.zero _) mb ps2.length D2 rfl AT17.out.map.own _ _ rfl hkey' ?_; intro c' hat' hwc; rw [hh]))
         refine bodyPost_ret (Fa.res rfl _ _ gb2 31 #[.slice none 0 0, .slice none 0 0, .slice none 0 0] (0, 0) _ (.int .i64 140) rfl rfl (Qy (Qy (Qy AT17.out.b2 0 _ rfl) 1 _ rfl) 2 _ rfl) Try.underlying31 rfl (by kernel_rfl)) rfl ?_; exact ⟨_, _, _, rfl, WV _ _ _ _ _, WV _ _ _ _ _, Wy _ _ _ _ _, below_set (below_set (below_set AT17.out.bel AT17.out.lo2) AT17.out.lo2) AT17.out.lo2⟩
        ·rw [if_neg h256] at hr; have HROW := Aside0.mk hr
         have heq : ((ps2.length : Int) == 256) = false := by rw [beq_eq_false_iff_ne]; omega
         have h255 : ps2.length < 256 := by omega
         have H14 := Aside0.mk K14; clear hr HRO h256 K14
         go_wp2_with (first
          | (at_lookup; refine wpList_lookup_own_ok_int _ rfl _ _ 60 rfl 59 3 .i64 Fa.law Try.underlying60 Try.underlying3 (Fa.zero _) mb ps2.length D2 rfl AT17.out.map.own _ _ rfl hkey' ?_; intro c' hat' hwc; rw [hh])
          | (at_mapUpdate; go_loud (refine wpList_mapUpdate_own _ rfl _ _ _ 60 rfl 59 3 Fa.law Try.underlying60 _ mb ps2.length D2 rfl AT17.out.map.own (by unfold maxLen; omega) _ _ _ rfl rfl hkey' _ [] (plainElem_int Try.underlying3 (Fa.wf (by omega))) ?_; intro w18 hown hgrow; have AT18 := Aside0.mk (AT17.out.mapped hgrow (Names_.put Fa.law Fa.PV_inj AT17.out.map hkey hm hown)); have HR18 := Aside0.mk (R_off HR17.out hgrow (fun g e _ => Off.names AT17.out.map _ g e)); have K18 := blk_off H14.out hgrow (Off.names AT17.out.map [59]) (by simp); clear hown hgrow pz0 pz1 pz2 pz3 pz4; obtain ⟨pz0, pz1, pz2, pz3, pz4, pf0, pf1, pf2, pf3, pf4⟩ := bF5 K18; clear pf0 pf1 pf2 pf3 pf4 K18))
          | ((with_reducible refine gate_builtin (b := .append) (xs := #[.tmp 85, .tmp 87]) rfl ?_); at_builtin; go_loud (refine Wo Fa.PK (w0 := w) w.heap.size rfl (.tmp 85) (.tmp 87) 61 59 (.agg #[.int .i64 0, .int .i64 0, .bool false, .bool false, .bool false]) 24 rfl Try.underlying61 Fa.infoP rfl (by decide) (by omega) (.slice (some ad) ps2.length cL2) ps2 zz [.int .i64 zz.1, .int .i64 zz.2.1, .bool zz.2.2.1, .bool zz.2.2.2.1, .bool zz.2.2.2.2] (fun _ => True) (fun _ => False) rfl rfl (Fa.PK_M _ _ _ zz) (fun _ hk => hk.elim) (fun _ _ => trivial) AT18.out.list AT18.out.bel (Qv AT18.out.bel) (by omega) ?_; intro vL' w19 ho hb hg hat; obtain ⟨AL3, cL3, e3⟩ := Wf ho; rw [List.length_append] at e3; replace e3 : vL' = .slice AL3 (ps2.length + 1) cL3 := e3; subst e3; have AT19 := Aside0.mk (AT18.out.listed hg ho hb); have HR19 := Aside0.mk (R_off HR18.out hg (fun g e _ => Off.typed (T := [3]) (Qi AT18.out.list) (by decide) g e)); obtain ⟨hy, hz⟩ := Wm 0 HR19.out (a : Int) (by omega) (by omega); rw [Int.toNat_natCast] at hy hz; clear ho hb hg hat)))
         obtain ⟨cs11, hc11⟩ := Qi HR19.out g11 (by simp [Value.ownBlock]); have HP2 := Kd.R_putg HR19.out (a : Int) ((ps2.length : Nat) : Int); rw [Int.toNat_natCast] at HP2; have AT20 := AT19.out.rowed (j := a) (x := .int .i64 ((ps2.length : Nat) : Int)) hc11 HB11.out HW11.out
         have hlen : (ps2 ++ [zz]).length = ps2.length + 1 := by simp
         go_roundw
         case rel => exact ⟨a + 1, ps2 ++ [zz], _, _, AL3, cL3, _, _, by rw [hlen], rfl, rfl, (by first | (rw [hwa]) | (simp)), by omega, by omega, by omega, ⟨by rw [← HP.out]; simp [List.getD_eq_getElem?_getD, List.getElem?_append_left hq]⟩, ⟨by rw [List.length_set]; exact HX.out⟩, HROW, ⟨by rw [hlen]; exact AT20⟩, ⟨HP2.1⟩⟩
         case measure => (try rw [hwa]); simp [intOf]; omega
      ·obtain rfl : a = letters.length := by omega
       have hr := HROW.out; rw [List.drop_length, Fa.row] at hr; obtain rfl := Qx hr; have hz1 := HZ1.out; rw [if_pos rfl] at hz1
       have cb : decide ((letters.length : Int) < (letters.length : Int)) = false := by simp
       replace hz1 : Fa.go a0_0 letters m (q + 1) ps2 (ac ++ [p.2.2.2.2]) (nx ++ [xs]) = some z := by rw [← HP.out]; exact hz1
       clear hr HROW HZ1; have HGO := Aside0.mk hz1; clear hz1
       have hal : ac.length ≤ 256 := by have := HLN.out.1; omega
       have hnl : nx.length ≤ 256 := by have := HLN.out.2; omega
       obtain ⟨Aa, ca_, ea⟩ := Wf AT.out.ac_; obtain ⟨An, cn_, en⟩ := Wf (Kd.S_R AT.out.nx_); subst ea en; obtain ⟨g11, c11, e11, hw11, hl11, _⟩ := Kd.R_form HR.out (by rw [HX.out]; exact HLL.out.1); rw [HX.out] at e11; subst e11; obtain ⟨ad, ead, zq0, zq1, zq2, zq3, zq⟩ := Fa.PK_at (WK AT.out.list).2.2 q hq; cases ead; rw [HP.out] at zq; obtain ⟨_, z8, _, _, _, _⟩ := bF3 AT.out.b8; clear zq0 zq1 zq2 zq3 hw11 hl11
       go_upto_region 28 with (fail)
       refine start_ (n := 11) (S := fun w' => w'.cell? ⟨g8, 1, none⟩ = some (.slice Aa ac.length ca_) ∧ w'.cell? ⟨(ad.add (q * 5)).block, (ad.add (q * 5)).off + 4, none⟩ = some (.bool p.2.2.2.2)) (ds := [8, 10]) (bl 11 0) (by kernel_rfl) rfl rfl ⟨z8, zq⟩ (fun G => ?_); refine pure_ (i := 0) (N := some 94) (v := ?_) (a' := ?_) (bl 11 1) rfl rfl (by kernel_rfl) (fun _ _ _ h => h) (Or.inl ⟨by rfl, ?_⟩) ?_ ?_; rotate_left
       ·intro w'
        go_simp
        with_reducible rfl
       rotate_left
       ·simp only [Act.put, sA, sB, sC, i64_w, i32_w]
        rfl
       refine pure_ (i := 2) (N := some 96) (v := ?_) (a' := ?_) (bl 11 5) rfl rfl (by kernel_rfl) (fun _ _ _ h => h) (Or.inl ⟨by rfl, ?_⟩) ?_ ?_; rotate_left
       ·intro w'
        go_simp
        with_reducible rfl
       rotate_left
       ·simp only [Act.put, sA, sB, sC, i64_w, i32_w]
        rfl
       refine pure_ (i := 3) (N := some 97) (v := ?_) (a' := ?_) (bl 11 13) rfl rfl (by kernel_rfl) (fun _ _ _ h => h) (Or.inl ⟨by rfl, ?_⟩) ?_ ?_; rotate_left
       ·intro w'
        go_simp
        with_reducible rfl
       rotate_left
       ·simp only [Act.put, sA, sB, sC, i64_w, i32_w]
        rfl
       refine pure_ (i := 4) (N := some 98) (v := ?_) (a' := ?_) (bl 11 29) rfl rfl (by kernel_rfl) (fun _ _ _ h => h) (Or.inl ⟨by rfl, ?_⟩) ?_ ?_; rotate_left
       ·intro w'
        go_simp
        with_reducible rfl
       rotate_left
       ·simp only [Act.put, sA, sB, sC, i64_w, i32_w]
        rfl
       refine pure_ (i := 5) (N := some 99) (v := ?_) (a' := ?_) (bl 11 61) rfl rfl (by kernel_rfl) (fun _ _ _ h => h) (Or.inl ⟨by rfl, ?_⟩) ?_ ?_; rotate_left
       ·intro w'
        go_simp
        with_reducible rfl
       rotate_left
       ·simp only [Act.put, sA, sB, sC, i64_w, i32_w]
        rfl
       refine take_ (i := 1) (N := some 95) (v := ?_) (a' := ?_) (bl 11 63) rfl rfl (by kernel_rfl) (fun _ _ _ h => h) (Or.inl ⟨by rfl, ?_⟩) G ?_ ?_; rotate_left
       ·rintro w' ⟨s0, s1⟩
        go_simp
        with_reducible rfl
       rotate_left
       ·simp only [Act.put, sA, sB, sC, i64_w, i32_w]
        rfl
       refine take_ (i := 6) (N := some 100) (v := ?_) (a' := ?_) (bl 11 127) rfl rfl (by kernel_rfl) (fun _ _ _ h => h) (Or.inl ⟨by rfl, ?_⟩) G ?_ ?_; rotate_left
       ·rintro w' ⟨s0, s1⟩
        go_simp
        with_reducible rfl
       rotate_left
       ·simp only [Act.put, sA, sB, sC, i64_w, i32_w]
        rfl
       refine one_ (i := 7) (N := some 101) (bl 11 255) rfl rfl (by kernel_rfl) (by decide) (fun K hK => ?_); refine value_ (w1 := ?_) (v := ?_) (by rfl) rfl ?_ ?_; rotate_left 2
       ·go_simp
        constructor
        ·rfl
        ·rfl
       refine hK.out _ _ ⟨Qs (below_alloc (Qg _ _) _) z8, Qs (below_alloc (Qg _ _) _) zq⟩ (fun G => ?_); clear hK K; refine nm_ 101 ?_; refine last_ (i := 8) (N := some 102) (bl 11 511) rfl rfl (by kernel_rfl) (by decide) (fun K hK => ?_); refine Kd.R_append_step Kd.bool (w0 := w) w.heap.size (by rfl) (.tmp 95) (.tmp 101) 28 4 (.bool false) 1 rfl Try.underlying28 info4 rfl (by decide) (by omega) (.slice Aa ac.length ca_) ac p.2.2.2.2 [.bool p.2.2.2.2] (fun _ => True) (fun _ => False) ?aS ?aX rfl (fun _ hk => hk.elim) (fun _ _ => trivial) (AT.out.kept (below_drew (Qg _ _))).ac_ (AT.out.kept (below_drew (Qg _ _))).bel (Qv (AT.out.kept (below_drew (Qg _ _))).bel) (by omega) ?_
       case aS => rfl
       case aX => rfl
       intro v1 w16 ho hb hg hat; obtain ⟨A1, c1_, e1_⟩ := Wf ho; rw [List.length_append] at e1_; replace e1_ : v1 = .slice A1 (ac.length + 1) c1_ := e1_; subst e1_; have AT2 := Aside0.mk ((AT.out.kept (below_drew (Qg _ _))).acc hg ho hb); have HR2 := Aside0.mk ((AT.out.kept (below_drew (Qg _ _))).acc_row (j := 1) (x := .slice A1 (ac.length + 1) c1_) hg (Wz HR.out (below_drew (Qg _ _)))); have b8_ := blk_off (AT.out.kept (below_drew (Qg _ _))).b8 hg (Off.typed (T := [31]) (Qi (AT.out.kept (below_drew (Qg _ _))).ac_) (by decide)) (by simp); obtain ⟨pz0, pz1, pz2, pf0, pf1, pf2⟩ := bF3 b8_; clear b8_ ho hb hg hat; refine hK.out _ _ ?_; clear hK K; refine nm_ 102 ?_; refine pure_ (i := 9) (N := some 103) (v := ?_) (a' := ?_) (bl 11 1023) rfl rfl (by kernel_rfl) (fun _ _ _ h => h) (Or.inl ⟨by rfl, ?_⟩) ?_ ?_; rotate_left
       ·intro w'
        go_simp
        with_reducible rfl
       rotate_left
       ·simp only [Act.put, sA, sB, sC, i64_w, i32_w]
        rfl
       refine last_ (i := 10) (N := none) (bl 11 2047) rfl rfl (by kernel_rfl) (by decide) (fun K hK => ?_); refine skip_ (w1 := ?_) (by rfl) rfl ?_ ?_; rotate_left
       ·go_simp
        rfl
       refine hK.out _ _ ?_; clear hK K; refine done_ (by kernel_rfl) ?_; clear z8 zq pz0 pz1 pz2 pf0 pf1 pf2; obtain ⟨w17, e17⟩ : ∃ w17, w17 = w16.setCell ⟨g8, 1, none⟩ (.slice A1 (ac.length + 1) c1_) := ⟨_, rfl⟩; rw [← e17] at AT2 HR2 ⊢; clear e17 AT HR; obtain ⟨_, _, z8, _, _, _⟩ := bF3 AT2.out.b8
       go_wp2_with ((with_reducible refine gate_builtin (b := .append) (xs := #[.tmp 105, .tmp 107]) rfl ?_); at_builtin; go_loud (refine Kd.S_append (Kd.slice 3 (Kd.int .i64)) (w0 := w) w.heap.size rfl (.tmp 105) (.tmp 107) 29 42 (.slice none 0 0) 24 rfl Try.underlying29 info42 rfl (by decide) (by omega) (.slice An nx.length cn_) nx xs [.slice (some ⟨g11, 0, none⟩) letters.length c11] (fun _ => True) (fun k => B' ≤ k) rfl rfl ⟨_, rfl, HR2.out⟩ (fun k hk => ⟨trivial, fun e => absurd ((Kd.S_R AT2.out.nx_).1 k e.symm) (by omega)⟩) (fun _ _ => trivial) (Kd.S_mono AT2.out.nx_ (fun k hk => ⟨trivial, by omega⟩)) AT2.out.bel (Qv AT2.out.bel) (by omega) ?_; intro vn' w18 ho hb hg hat; obtain ⟨A2, c2_, e2_⟩ := Wf (Kd.S_R ho); rw [List.length_append] at e2_; replace e2_ : vn' = .slice A2 (nx.length + 1) c2_ := e2_; subst e2_; have AT3 := Aside0.mk (AT2.out.nex hg ho hb); have b8_ := blk_off AT2.out.b8 hg (Off.typed (T := [31]) (Kd.S_typed AT2.out.nx_) (by decide)) (by simp); obtain ⟨pz0, pz1, pz2, pf0, pf1, pf2⟩ := bF3 b8_; clear b8_ ho hb hg hat))
       have hwq : wrap64 ((q : Int) + 1) = ((q + 1 : Nat) : Int) := by unfold wrap64; omega
       go_roundw
       case rel => exact ⟨m, q + 1, ps2, D2, _, _, _, _, _, _, _, rfl, (by first | (rw [hwq]) | (simp)), by omega, hps, ⟨by simp [HLN.out.1], by simp [HLN.out.2]⟩, HGO, AT3⟩
       case measure => (try rw [hwq]); simp [intOf]; omega
    ·have hg := HGO.out; cases m with
     | zero => cases hg
     | succ m =>
     rw [Fa.go, if_neg cq] at hg; obtain rfl := Qx hg; have hz := HZ.out; rw [if_pos rfl] at hz; simp only [Option.some.injEq, Prod.mk.injEq] at hz; obtain ⟨rfl, rfl, rfl, rfl⟩ := hz; have cb : decide ((q : Int) < (ps.length : Int)) = false := decide_eq_false (by omega); obtain ⟨Aa, ca, ea⟩ := Wf AT.out.ac_; obtain ⟨An, cn, en⟩ := Wf (Kd.S_R AT.out.nx_); subst ea en; have OUT := Aside0.mk (AT.out.out); obtain ⟨pz0, pz1, pz2, pf0, pf1, pf2⟩ := bF3 AT.out.b8; obtain ⟨rz0, rz1, rz2, rf0, rf1, rf2⟩ := bF3 AT.out.b2; have n28 := AT.out.n28; clear hg HGO HZ
     go_wp2
     refine bodyPost_ret (Fa.res rfl _ _ gb2 31 #[.slice At_ tr.length ct_, .slice Aa ac.length ca, .slice An nx.length cn] (0, 0) _ (.int .i64 0) rfl rfl OUT.out.1 Try.underlying31 rfl (by kernel_rfl)) rfl ?_; exact ⟨_, _, _, rfl, OUT.out.2⟩
set_option maxHeartbeats 8000000
set_option maxRecDepth 100000
def Fn.l0 : Nat → List ByteArray → List ByteArray → Int → Option (Bool)
 | 0, _, _, _ => none
 | k + 1, x0, x1, x5 => if x5 < (x0.length : Int) then (if 0 ≤ x5 then (if x5 < (x1.length : Int) then (if (rdOf ByteArray.empty x0 x5).toList = (rdOf ByteArray.empty x1 x5).toList then (Fn.l0 k x0 x1 (wrap64 (x5 + 1))) else (none)) else (none)) else (none)) else (some true)
def Fn.f (k : Nat) (l0 : List ByteArray) (l1 : List ByteArray) : Option (Bool) := if (l0.length : Int) = (l1.length : Int) then (Fn.l0 k l0 l1 0) else (none)
theorem Fn.mono_l : ∀ k, (∀ y0 y1 y2, LeO (Fn.l0 k y0 y1 y2) (Fn.l0 (k + 1) y0 y1 y2))
 | 0 => fun _ _ _ r h => by simp [Fn.l0] at h
 | k + 1 => by
  have ih0 := Fn.mono_l k
  ·intro y0 y1 y2
   unfold Fn.l0
   repeat' first | (with_reducible first | exact ih0 _ _ _ | exact lA | apply lI | refine lB ?_ fun _ => ?_) | exact lN _ | apply lI | refine lB ?_ fun _ => ?_
theorem Fn.mono : ∀ a0 a1 k, LeO (Fn.f k a0 a1) (Fn.f (k + 1) a0 a1) := by
 intro a0 a1 k; have ih0 := Fn.mono_l k
 unfold Fn.f
 repeat' first | (with_reducible first | exact ih0 _ _ _ | exact lA | apply lI | refine lB ?_ fun _ => ?_) | exact lN _ | apply lI | refine lB ?_ fun _ => ?_
theorem Fn.calls (k : Nat) (A0 : Option Addr) (c0 : Nat) (A : List ByteArray) (A1 : Option Addr) (c1 : Nat) (B : List ByteArray) (r : Bool) (w : World) (O : Kd.C Kd.string w A0 A.length A) (P : A.length ≤ c0) (Q : Kd.C Kd.string w A1 B.length B) (R : B.length ≤ c1) (h : Fn.f k A B = some r) :
  Calls Try.prog 32 #[.slice A0 A.length c0, .slice A1 B.length c1] w fun e w' => e = .returned (.bool r) ∧ Drawn0 w w' := by
 have ae := aM O; have aq := aM P; clear O P; have af := aM Q; have ar := aM R; clear Q R; rw [Fn.f] at h; have H := h; clear h
 apply iN H; clear H; intro I H; obtain ⟨ai, aj⟩ := bq I
 have ak : (A.length == B.length) = true := by first | simpa using I | (simp at I ⊢; omega)
 clear I; have H' := aM H; clear H
 go_enter Try.func32, Try.ntmps32
 go_wp2
 repeat (go_quiet (fail); try go_wp2)
 go_loopg [5] k (fun kq v5 w' => ∃ (z : Int), v5 = .int .i64 z ∧ Aside0 (Fn.l0 kq A B z = some r) ∧ Aside0 (kq ≤ k) ∧ Drawn0 w w')
 case atStart => exact ⟨(0), sI, H', ⟨Nat.le_refl _⟩, dRw⟩
 case round =>
  clear H'
  obtain ⟨z, rfl, HA, ab, ⟨m1, rfl⟩⟩ := hrel; cases gk with
  | zero => exact absurd HA.out (by simp [Fn.l0])
  | succ k1 =>
   have H := HA.out; clear HA; simp only [Fn.l0] at H
   apply iB H <;> clear H <;> intro J H
   ·have U := dT J; clear J
    apply iN H; clear H; intro L H; have am := dT L; clear L
    apply iN H; clear H; intro M H; have an := dT M; clear M
    apply iN H; clear H; intro N H; obtain ⟨ao, ap⟩ := bq N; clear N; have H' := aM H; clear H; obtain ⟨⟨ag, V, Y⟩, D, E⟩ := xAt (Kd.at_string ae.out) z; cases V; obtain ⟨⟨ah, W, Z⟩, F, G⟩ := xAt (Kd.at_string af.out) z; cases W
    go_wp2
    repeat (go_quiet (fail); try go_wp2)
    go_roundg k1
    case measure => have := ab.out; omega
    case rel => exact ⟨(wrap64 (z + 1)), sI, H', ⟨by have := ab.out; omega⟩, dRw⟩
   ·have U := decide_eq_false J; clear J; obtain rfl := Qx H
    go_wp2
    repeat (go_quiet (fail); try go_wp2)
    go_ret
    exact ⟨eVl, dRw⟩
def Fmb.l0 : Nat → List Bool → List Bool → Int → Option (Bool)
 | 0, _, _, _ => none
 | k + 1, x0, x1, x5 => if x5 < (x0.length : Int) then (if 0 ≤ x5 then (if x5 < (x1.length : Int) then (if ((rdOf false x0 x5) != (rdOf false x1 x5)) = true then (none) else (Fmb.l0 k x0 x1 (wrap64 (x5 + 1)))) else (none)) else (none)) else (some true)
def Fmb.f (k : Nat) (l0 : List Bool) (l1 : List Bool) : Option (Bool) := if (l0.length : Int) = (l1.length : Int) then (Fmb.l0 k l0 l1 0) else (none)
theorem Fmb.mono_l : ∀ k, (∀ y0 y1 y2, LeO (Fmb.l0 k y0 y1 y2) (Fmb.l0 (k + 1) y0 y1 y2))
 | 0 => fun _ _ _ r h => by simp [Fmb.l0] at h
 | k + 1 => by
  have ih0 := Fmb.mono_l k
  ·intro y0 y1 y2
   unfold Fmb.l0
   repeat' first | (with_reducible first | exact ih0 _ _ _ | exact lA | apply lI | refine lB ?_ fun _ => ?_) | exact lN _ | apply lI | refine lB ?_ fun _ => ?_
theorem Fmb.mono : ∀ a0 a1 k, LeO (Fmb.f k a0 a1) (Fmb.f (k + 1) a0 a1) := by
 intro a0 a1 k; have ih0 := Fmb.mono_l k
 unfold Fmb.f
 repeat' first | (with_reducible first | exact ih0 _ _ _ | exact lA | apply lI | refine lB ?_ fun _ => ?_) | exact lN _ | apply lI | refine lB ?_ fun _ => ?_
theorem Fmb.calls (k : Nat) (A0 : Option Addr) (c0 : Nat) (A : List Bool) (A1 : Option Addr) (c1 : Nat) (B : List Bool) (r : Bool) (w : World) (O : Kd.C Kd.bool w A0 A.length A) (P : A.length ≤ c0) (Q : Kd.C Kd.bool w A1 B.length B) (R : B.length ≤ c1) (h : Fmb.f k A B = some r) :
  Calls Try.prog 33 #[.slice A0 A.length c0, .slice A1 B.length c1] w fun e w' => e = .returned (.bool r) ∧ Drawn0 w w' := by
 have ae := aM O; have ar := aM P; clear O P; have af := aM Q; have au := aM R; clear Q R; rw [Fmb.f] at h; have H := h; clear h
 apply iN H; clear H; intro I H; obtain ⟨ai, aj⟩ := bq I
 have ak : (A.length == B.length) = true := by first | simpa using I | (simp at I ⊢; omega)
 clear I; have H' := aM H; clear H
 go_enter Try.func33, Try.ntmps33
 go_wp2
 repeat (go_quiet (fail); try go_wp2)
 go_loopg [5] k (fun kq v5 w' => ∃ (z : Int), v5 = .int .i64 z ∧ Aside0 (Fmb.l0 kq A B z = some r) ∧ Aside0 (kq ≤ k) ∧ Drawn0 w w')
 case atStart => exact ⟨(0), sI, H', ⟨Nat.le_refl _⟩, dRw⟩
 case round =>
  clear H'
  obtain ⟨z, rfl, HA, ab, ⟨m1, rfl⟩⟩ := hrel; cases gk with
  | zero => exact absurd HA.out (by simp [Fmb.l0])
  | succ k1 =>
   have H := HA.out; clear HA; simp only [Fmb.l0] at H
   apply iB H <;> clear H <;> intro J H
   ·have U := dT J; clear J
    apply iN H; clear H; intro M H; have am := dT M; clear M
    apply iN H; clear H; intro N H; have an := dT N; clear N
    apply iB H <;> clear H <;> intro L H
    ·exact absurd H (by simp)
    ·have ao : ((rdOf false A z) != (rdOf false B z)) = false := by simpa using L
     (try (have ap : decide ((rdOf false A z) = (rdOf false B z)) = true := by simpa using L))
     (try (have aq : ((rdOf false A z) == (rdOf false B z)) = true := by simpa using L))
     clear L; have H' := aM H; clear H; obtain ⟨⟨ag, V, Y⟩, D, E⟩ := xAt (Kd.at_bool ae.out) z; cases V; obtain ⟨⟨ah, W, Z⟩, F, G⟩ := xAt (Kd.at_bool af.out) z; cases W
     go_wp2
     repeat (go_quiet (fail); try go_wp2)
     go_roundg k1
     case measure => have := ab.out; omega
     case rel => exact ⟨(wrap64 (z + 1)), sI, H', ⟨by have := ab.out; omega⟩, dRw⟩
   ·have U := decide_eq_false J; clear J; obtain rfl := Qx H
    go_wp2
    repeat (go_quiet (fail); try go_wp2)
    go_ret
    exact ⟨eVl, dRw⟩
def Fmc.l0 : Nat → List Int → List Int → Int → Option (Bool)
 | 0, _, _, _ => none
 | k + 1, x0, x1, x5 => if x5 < (x0.length : Int) then (if 0 ≤ x5 then (if x5 < (x1.length : Int) then (if (rd x0 x5) = (rd x1 x5) then (Fmc.l0 k x0 x1 (wrap64 (x5 + 1))) else (none)) else (none)) else (none)) else (some true)
def Fmc.f (k : Nat) (l0 : List Int) (l1 : List Int) : Option (Bool) := if (l0.length : Int) = (l1.length : Int) then (Fmc.l0 k l0 l1 0) else (none)
theorem Fmc.mono_l : ∀ k, (∀ y0 y1 y2, LeO (Fmc.l0 k y0 y1 y2) (Fmc.l0 (k + 1) y0 y1 y2))
 | 0 => fun _ _ _ r h => by simp [Fmc.l0] at h
 | k + 1 => by
  have ih0 := Fmc.mono_l k
  ·intro y0 y1 y2
   unfold Fmc.l0
   repeat' first | (with_reducible first | exact ih0 _ _ _ | exact lA | apply lI | refine lB ?_ fun _ => ?_) | exact lN _ | apply lI | refine lB ?_ fun _ => ?_
theorem Fmc.mono : ∀ a0 a1 k, LeO (Fmc.f k a0 a1) (Fmc.f (k + 1) a0 a1) := by
 intro a0 a1 k; have ih0 := Fmc.mono_l k
 unfold Fmc.f
 repeat' first | (with_reducible first | exact ih0 _ _ _ | exact lA | apply lI | refine lB ?_ fun _ => ?_) | exact lN _ | apply lI | refine lB ?_ fun _ => ?_
theorem Fmc.calls (k : Nat) (A0 : Option Addr) (c0 : Nat) (A : List Int) (A1 : Option Addr) (c1 : Nat) (B : List Int) (r : Bool) (w : World) (O : Kd.C (Kd.int .i64) w A0 A.length A) (P : A.length ≤ c0) (Q : Kd.C (Kd.int .i64) w A1 B.length B) (R : B.length ≤ c1) (h : Fmc.f k A B = some r) :
  Calls Try.prog 34 #[.slice A0 A.length c0, .slice A1 B.length c1] w fun e w' => e = .returned (.bool r) ∧ Drawn0 w w' := by
 have ae := aM O; have aq := aM P; clear O P; have af := aM Q; have ar := aM R; clear Q R; rw [Fmc.f] at h; have H := h; clear h
 apply iN H; clear H; intro I H; obtain ⟨ai, aj⟩ := bq I
 have ak : (A.length == B.length) = true := by first | simpa using I | (simp at I ⊢; omega)
 clear I; have H' := aM H; clear H
 go_enter Try.func34, Try.ntmps34
 go_wp2
 repeat (go_quiet (fail); try go_wp2)
 go_loopg [5] k (fun kq v5 w' => ∃ (z : Int), v5 = .int .i64 z ∧ Aside0 (Fmc.l0 kq A B z = some r) ∧ Aside0 (kq ≤ k) ∧ Drawn0 w w')
 case atStart => exact ⟨(0), sI, H', ⟨Nat.le_refl _⟩, dRw⟩
 case round =>
  clear H'
  obtain ⟨z, rfl, HA, ab, ⟨m1, rfl⟩⟩ := hrel; cases gk with
  | zero => exact absurd HA.out (by simp [Fmc.l0])
  | succ k1 =>
   have H := HA.out; clear HA; simp only [Fmc.l0] at H
   apply iB H <;> clear H <;> intro J H
   ·have U := dT J; clear J
    apply iN H; clear H; intro L H; have am := dT L; clear L
    apply iN H; clear H; intro M H; have an := dT M; clear M
    apply iN H; clear H; intro N H; obtain ⟨ao, ap⟩ := bq N; clear N; have H' := aM H; clear H; obtain ⟨⟨ag, V, Y⟩, D, E⟩ := xAt (Kd.at_int ae.out) z; cases V; obtain ⟨⟨ah, W, Z⟩, F, G⟩ := xAt (Kd.at_int af.out) z; cases W
    go_wp2
    repeat (go_quiet (fail); try go_wp2)
    go_roundg k1
    case measure => have := ab.out; omega
    case rel => exact ⟨(wrap64 (z + 1)), sI, H', ⟨by have := ab.out; omega⟩, dRw⟩
   ·have U := decide_eq_false J; clear J; obtain rfl := Qx H
    go_wp2
    repeat (go_quiet (fail); try go_wp2)
    go_ret
    exact ⟨eVl, dRw⟩
mutual
def Fma.j0 : Nat → Bool → List ByteArray → List Bool → List (List Int) → List ByteArray → List Bool → List (List Int) → Option (Bool)
 | 0, _, _, _, _, _, _, _ => none
 | k + 1, x28, x163000, x163001, x163002, x164000, x164001, x164002 => if x28 = true then (none) else (Fma.l0 k 0 x163000 x163001 x163002 x164000 x164001 x164002)
def Fma.l0 : Nat → Int → List ByteArray → List Bool → List (List Int) → List ByteArray → List Bool → List (List Int) → Option (Bool)
 | 0, _, _, _, _, _, _, _ => none
 | k + 1, x5, x163000, x163001, x163002, x164000, x164001, x164002 => if x5 < (x163002.length : Int) then (if 0 ≤ x5 then (if x5 < (x164002.length : Int) then ((Fmc.f k (rd_L3 x163002 x5) (rd_L3 x164002 x5)).bind fun t168 => (if t168 = true then (Fma.l0 k (wrap64 (x5 + 1)) x163000 x163001 x163002 x164000 x164001 x164002) else (none))) else (none)) else (none)) else (some true)
end
def Fma.f (k : Nat) (l0_0 : List ByteArray) (l0_1 : List Bool) (l0_2 : List (List Int)) (l1_0 : List ByteArray) (l1_1 : List Bool) (l1_2 : List (List Int)) : Option (Bool) := (Fn.f k l0_0 l1_0).bind fun t164 => (if t164 = true then ((Fmb.f k l0_1 l1_1).bind fun t165 => (if t165 = true then (Fma.j0 k ((l0_2.length : Int) != (l1_2.length : Int)) l0_0 l0_1 l0_2 l1_0 l1_1 l1_2) else (Fma.j0 k true l0_0 l0_1 l0_2 l1_0 l1_1 l1_2))) else (Fma.j0 k true l0_0 l0_1 l0_2 l1_0 l1_1 l1_2))
theorem Fma.mono_l : ∀ k, (∀ y0 y1 y2 y3 y4 y5 y6, LeO (Fma.j0 k y0 y1 y2 y3 y4 y5 y6) (Fma.j0 (k + 1) y0 y1 y2 y3 y4 y5 y6)) ∧ (∀ y0 y1 y2 y3 y4 y5 y6, LeO (Fma.l0 k y0 y1 y2 y3 y4 y5 y6) (Fma.l0 (k + 1) y0 y1 y2 y3 y4 y5 y6))
 | 0 => ⟨fun _ _ _ _ _ _ _ r h => by simp [Fma.j0] at h, fun _ _ _ _ _ _ _ r h => by simp [Fma.l0] at h⟩
 | k + 1 => by
  obtain ⟨ih0, ih1⟩ := Fma.mono_l k; refine ⟨?_, ?_⟩
  ·intro y0 y1 y2 y3 y4 y5 y6
   unfold Fma.j0
   repeat' first | (with_reducible first | exact ih0 _ _ _ _ _ _ _ | exact ih1 _ _ _ _ _ _ _ | exact Fmb.mono _ _ _ | exact Fmc.mono _ _ _ | exact Fn.mono _ _ _ | exact lA | apply lI | refine lB ?_ fun _ => ?_) | exact lN _ | apply lI | refine lB ?_ fun _ => ?_
  ·intro y0 y1 y2 y3 y4 y5 y6
   unfold Fma.l0
   repeat' first | (with_reducible first | exact ih0 _ _ _ _ _ _ _ | exact ih1 _ _ _ _ _ _ _ | exact Fmb.mono _ _ _ | exact Fmc.mono _ _ _ | exact Fn.mono _ _ _ | exact lA | apply lI | refine lB ?_ fun _ => ?_) | exact lN _ | apply lI | refine lB ?_ fun _ => ?_
theorem Fma.mono : ∀ a0 a1 a2 a3 a4 a5 k, LeO (Fma.f k a0 a1 a2 a3 a4 a5) (Fma.f (k + 1) a0 a1 a2 a3 a4 a5) := by
 intro a0 a1 a2 a3 a4 a5 k; obtain ⟨ih0, ih1⟩ := Fma.mono_l k
 unfold Fma.f
 repeat' first | (with_reducible first | exact ih0 _ _ _ _ _ _ _ | exact ih1 _ _ _ _ _ _ _ | exact Fmb.mono _ _ _ | exact Fmc.mono _ _ _ | exact Fn.mono _ _ _ | exact lA | apply lI | refine lB ?_ fun _ => ?_) | exact lN _ | apply lI | refine lB ?_ fun _ => ?_
theorem Fma.calls (k : Nat) (ab : Option Addr) (ac : Nat) (D : List ByteArray) (ad : Option Addr) (ae : Nat) (G : List Bool) (af : Option Addr) (ag : Nat) (I : List (List Int)) (ah : Option Addr) (ai : Nat) (E : List ByteArray) (aj : Option Addr) (ak : Nat) (J : List Bool) (al : Option Addr) (am : Nat) (L : List (List Int)) (r : Bool) (w : World) (aI : Kd.C Kd.string w ab D.length D) (aJ : D.length ≤ ac) (aK : Kd.C Kd.bool w ad G.length G) (aL : G.length ≤ ae) (aN : Kd.C (Kd.slice 3 (Kd.int .i64)) w af I.length I) (aP : I.length ≤ ag) (aQ : Kd.C Kd.string w ah E.length E) (aR : E.length ≤ ai) (aS : Kd.C Kd.bool w aj J.length J) (aT : J.length ≤ ak) (aU : Kd.C (Kd.slice 3 (Kd.int .i64)) w al L.length L) (aV : L.length ≤ am) (h : Fma.f k D G I E J L = some r) :
  Calls Try.prog 12 #[.agg #[.slice ab D.length ac, .slice ad G.length ae, .slice af I.length ag], .agg #[.slice ah E.length ai, .slice aj J.length ak, .slice al L.length am]] w fun e w' => e = .returned (.bool r) ∧ Below w.heap.size w w' := by
 have hu31 := Try.underlying31; have Q := aM aI; have R := aM aJ; clear aI aJ; have W := aM aK; have Y := aM aL; clear aK aL; have bc := aM aN; have cp := aM aP; clear aN aP; have U := aM aQ; have V := aM aR; clear aQ aR; have Z := aM aS; have aa := aM aT; clear aS aT; have bd := aM aU; have cq := aM aV; clear aU aV; have HB := aM (Qg w.heap.size w); rw [Fma.f] at h; have H := h; clear h; have a9 := aM H; clear H
 go_enter Try.func12, Try.ntmps12
 go_upto_region 1 with (first | ((with_reducible refine Qa (N := 2) rfl ?_); (try (refine gate_guard (by rfl) ?_; dsimp only)); refine be_ (cs := #[.slice ab D.length ac, .slice ad G.length ae, .slice af I.length ag]) (t := 31) ?_; intro ar hg w4 aD hb; have A := aM (aD); have aW := gE hg (bP0 HB); have z := gE hg (bP0 HB); replace HB := hS0 HB hb; clear hb aD hg) | ((with_reducible refine Qa (N := 3) rfl ?_); (try (refine gate_guard (by rfl) ?_; dsimp only)); refine be_ (cs := #[.slice ah E.length ai, .slice aj J.length ak, .slice al L.length am]) (t := 31) ?_; intro au hg w5 aD hb; have P := aM (aD); have aX := gE hg (bP1 HB z); have B := gE hg (bP1 HB z); replace HB := hS1 HB z hb; have M := nL hg A; have O := nG hg A; replace A := kB A hb; clear hb aD hg))
 repeat (go_quiet (first | ((with_reducible refine Qa (N := 2) rfl ?_); (try (refine gate_guard (by rfl) ?_; dsimp only)); refine be_ (cs := #[.slice ab D.length ac, .slice ad G.length ae, .slice af I.length ag]) (t := 31) ?_; intro ar hg w4 aD hb; have A := aM (aD); have aW := gE hg (bP0 HB); have z := gE hg (bP0 HB); replace HB := hS0 HB hb; clear hb aD hg) | ((with_reducible refine Qa (N := 3) rfl ?_); (try (refine gate_guard (by rfl) ?_; dsimp only)); refine be_ (cs := #[.slice ah E.length ai, .slice aj J.length ak, .slice al L.length am]) (t := 31) ?_; intro au hg w5 aD hb; have P := aM (aD); have aX := gE hg (bP1 HB z); have B := gE hg (bP1 HB z); replace HB := hS1 HB z hb; have M := nL hg A; have O := nG hg A; replace A := kB A hb; clear hb aD hg)); go_upto_region 1 with (first | ((with_reducible refine Qa (N := 2) rfl ?_); (try (refine gate_guard (by rfl) ?_; dsimp only)); refine be_ (cs := #[.slice ab D.length ac, .slice ad G.length ae, .slice af I.length ag]) (t := 31) ?_; intro ar hg w4 aD hb; have A := aM (aD); have aW := gE hg (bP0 HB); have z := gE hg (bP0 HB); replace HB := hS0 HB hb; clear hb aD hg) | ((with_reducible refine Qa (N := 3) rfl ?_); (try (refine gate_guard (by rfl) ?_; dsimp only)); refine be_ (cs := #[.slice ah E.length ai, .slice aj J.length ak, .slice al L.length am]) (t := 31) ?_; intro au hg w5 aD hb; have P := aM (aD); have aX := gE hg (bP1 HB z); have B := gE hg (bP1 HB z); replace HB := hS1 HB z hb; have M := nL hg A; have O := nG hg A; replace A := kB A hb; clear hb aD hg)))
 (try simp only [Act.put, sA, sB, sC])
 go_cut [28] (fun ck wc => ∃ (kq : Nat) (av : Bool), ck = .bool av ∧ Aside0 (Fma.j0 kq av D G I E J L = some r) ∧ Aside0 (kq ≤ k) ∧ Aside0 (wc.heap[ar]? = some (.cells #[(.slice ab D.length ac), (.slice ad G.length ae), (.slice af I.length ag)] 31 (0, 0))) ∧ Aside0 (wc.heap[au]? = some (.cells #[(.slice ah E.length ai), (.slice aj J.length ak), (.slice al L.length am)] 31 (0, 0))) ∧ BA w wc)
 case first =>
  have H := a9.out; clear a9; apply bSx H; clear H; intro bk A6 H
  by_cases c7 : bk = true
  ·subst c7
   rw [if_pos rfl] at H; apply bSx H; clear H; intro bl A8 H
   by_cases c9 : bl = true
   ·subst c9
    rw [if_pos rfl] at H; have H' := aM H; clear H; have cr := M.out; have ct := O.out; obtain ⟨bp, bq, br, bs, bt, bu⟩ := bG3 A; obtain ⟨bv, bw, bx, bz, bA, bB⟩ := bG3 P
    go_wp2_with (first | (go_at_call 32; (with_reducible refine (Fn.calls k _ _ D _ _ E true _ ?s1 R.out ?s3 V.out A6.out).mono ?_); (case s1 => exact cB Q HB); (case s3 => exact cB U HB); rintro e w' ⟨rfl, ⟨nd, rfl⟩⟩; (try exact dN)) | (go_at_call 33; (with_reducible refine (Fmb.calls k _ _ G _ _ J true _ ?s1 Y.out ?s3 aa.out A8.out).mono ?_); (case s1 => repeat (first | exact (Q3 W.out (bP2 HB z B)) | (with_reducible refine WW ?_ _) | (with_reducible refine WX ?_ _) | (with_reducible refine WJ ?_))); (case s3 => repeat (first | exact (Q3 Z.out (bP2 HB z B)) | (with_reducible refine WW ?_ _) | (with_reducible refine WX ?_ _) | (with_reducible refine WJ ?_))); rintro e w' ⟨rfl, ⟨nd, rfl⟩⟩; (try exact dN)))
    repeat (go_quiet (first | (go_at_call 32; (with_reducible refine (Fn.calls k _ _ D _ _ E true _ ?s1 R.out ?s3 V.out A6.out).mono ?_); (case s1 => exact cB Q HB); (case s3 => exact cB U HB); rintro e w' ⟨rfl, ⟨nd, rfl⟩⟩; (try exact dN)) | (go_at_call 33; (with_reducible refine (Fmb.calls k _ _ G _ _ J true _ ?s1 Y.out ?s3 aa.out A8.out).mono ?_); (case s1 => repeat (first | exact (Q3 W.out (bP2 HB z B)) | (with_reducible refine WW ?_ _) | (with_reducible refine WX ?_ _) | (with_reducible refine WJ ?_))); (case s3 => repeat (first | exact (Q3 Z.out (bP2 HB z B)) | (with_reducible refine WW ?_ _) | (with_reducible refine WX ?_ _) | (with_reducible refine WJ ?_))); rintro e w' ⟨rfl, ⟨nd, rfl⟩⟩; (try exact dN))); try go_wp2_with (first | (go_at_call 32; (with_reducible refine (Fn.calls k _ _ D _ _ E true _ ?s1 R.out ?s3 V.out A6.out).mono ?_); (case s1 => exact cB Q HB); (case s3 => exact cB U HB); rintro e w' ⟨rfl, ⟨nd, rfl⟩⟩; (try exact dN)) | (go_at_call 33; (with_reducible refine (Fmb.calls k _ _ G _ _ J true _ ?s1 Y.out ?s3 aa.out A8.out).mono ?_); (case s1 => repeat (first | exact (Q3 W.out (bP2 HB z B)) | (with_reducible refine WW ?_ _) | (with_reducible refine WX ?_ _) | (with_reducible refine WJ ?_))); (case s3 => repeat (first | exact (Q3 Z.out (bP2 HB z B)) | (with_reducible refine WW ?_ _) | (with_reducible refine WX ?_ _) | (with_reducible refine WJ ?_))); rintro e w' ⟨rfl, ⟨nd, rfl⟩⟩; (try exact dN))))
    go_meet
    case rel => exact ⟨_, (((I.length : Int) != (L.length : Int))), sI, H', lE, kQ A, kQ P, bT2 HB z B⟩
   ·replace c9 := Qc c9; subst c9
    rw [if_neg nF] at H; have H' := aM H; clear H; have cu := M.out; have cv := O.out; obtain ⟨bC, bD, bE, bF, bG, bH⟩ := bG3 A; obtain ⟨bI, bJ, bK, bL, bM, bN⟩ := bG3 P
    go_wp2_with (first | (go_at_call 32; (with_reducible refine (Fn.calls k _ _ D _ _ E true _ ?s1 R.out ?s3 V.out A6.out).mono ?_); (case s1 => exact cB Q HB); (case s3 => exact cB U HB); rintro e w' ⟨rfl, ⟨nd, rfl⟩⟩; (try exact dN)) | (go_at_call 33; (with_reducible refine (Fmb.calls k _ _ G _ _ J false _ ?s1 Y.out ?s3 aa.out A8.out).mono ?_); (case s1 => repeat (first | exact (Q3 W.out (bP2 HB z B)) | (with_reducible refine WW ?_ _) | (with_reducible refine WX ?_ _) | (with_reducible refine WJ ?_))); (case s3 => repeat (first | exact (Q3 Z.out (bP2 HB z B)) | (with_reducible refine WW ?_ _) | (with_reducible refine WX ?_ _) | (with_reducible refine WJ ?_))); rintro e w' ⟨rfl, ⟨nd, rfl⟩⟩; (try exact dN)))
    repeat (go_quiet (first | (go_at_call 32; (with_reducible refine (Fn.calls k _ _ D _ _ E true _ ?s1 R.out ?s3 V.out A6.out).mono ?_); (case s1 => exact cB Q HB); (case s3 => exact cB U HB); rintro e w' ⟨rfl, ⟨nd, rfl⟩⟩; (try exact dN)) | (go_at_call 33; (with_reducible refine (Fmb.calls k _ _ G _ _ J false _ ?s1 Y.out ?s3 aa.out A8.out).mono ?_); (case s1 => repeat (first | exact (Q3 W.out (bP2 HB z B)) | (with_reducible refine WW ?_ _) | (with_reducible refine WX ?_ _) | (with_reducible refine WJ ?_))); (case s3 => repeat (first | exact (Q3 Z.out (bP2 HB z B)) | (with_reducible refine WW ?_ _) | (with_reducible refine WX ?_ _) | (with_reducible refine WJ ?_))); rintro e w' ⟨rfl, ⟨nd, rfl⟩⟩; (try exact dN))); try go_wp2_with (first | (go_at_call 32; (with_reducible refine (Fn.calls k _ _ D _ _ E true _ ?s1 R.out ?s3 V.out A6.out).mono ?_); (case s1 => exact cB Q HB); (case s3 => exact cB U HB); rintro e w' ⟨rfl, ⟨nd, rfl⟩⟩; (try exact dN)) | (go_at_call 33; (with_reducible refine (Fmb.calls k _ _ G _ _ J false _ ?s1 Y.out ?s3 aa.out A8.out).mono ?_); (case s1 => repeat (first | exact (Q3 W.out (bP2 HB z B)) | (with_reducible refine WW ?_ _) | (with_reducible refine WX ?_ _) | (with_reducible refine WJ ?_))); (case s3 => repeat (first | exact (Q3 Z.out (bP2 HB z B)) | (with_reducible refine WW ?_ _) | (with_reducible refine WX ?_ _) | (with_reducible refine WJ ?_))); rintro e w' ⟨rfl, ⟨nd, rfl⟩⟩; (try exact dN))))
    go_meet
    case rel => exact ⟨_, (true), sI, H', lE, kQ A, kQ P, bT2 HB z B⟩
  ·replace c7 := Qc c7; subst c7
   rw [if_neg nF] at H; have H' := aM H; clear H; have cw := M.out; have cx := O.out; obtain ⟨bO, bP, bQ, bR, bS, bT⟩ := bG3 A; obtain ⟨bU, bV, bW, bX, bY, bZ⟩ := bG3 P
   go_wp2_with (first | (go_at_call 32; (with_reducible refine (Fn.calls k _ _ D _ _ E false _ ?s1 R.out ?s3 V.out A6.out).mono ?_); (case s1 => exact cB Q HB); (case s3 => exact cB U HB); rintro e w' ⟨rfl, ⟨nd, rfl⟩⟩; (try exact dN)))
   repeat (go_quiet (first | (go_at_call 32; (with_reducible refine (Fn.calls k _ _ D _ _ E false _ ?s1 R.out ?s3 V.out A6.out).mono ?_); (case s1 => exact cB Q HB); (case s3 => exact cB U HB); rintro e w' ⟨rfl, ⟨nd, rfl⟩⟩; (try exact dN))); try go_wp2_with (first | (go_at_call 32; (with_reducible refine (Fn.calls k _ _ D _ _ E false _ ?s1 R.out ?s3 V.out A6.out).mono ?_); (case s1 => exact cB Q HB); (case s3 => exact cB U HB); rintro e w' ⟨rfl, ⟨nd, rfl⟩⟩; (try exact dN))))
   go_meet
   case rel => exact ⟨_, (true), sI, H', lE, kQ A, kQ P, bT2 HB z B⟩
 case rest =>
  clear a9
  obtain ⟨kq, av, rfl, HA, HJ2, A, P, HB⟩ := hcut; cases kq with
  | zero => exact absurd HA.out (by simp [Fma.j0])
  | succ bj =>
   have H := HA.out; clear HA; simp only [Fma.j0] at H
   by_cases aY : av = true
   ·subst aY
    rw [if_pos rfl] at H; exact absurd H (by simp)
   ·replace aY := Qc aY; subst aY
    rw [if_neg nF] at H; have H' := aM H; clear H
    go_wp2
    repeat (go_quiet (fail); try go_wp2)
    go_loopg [5] bj (fun kq v5 w' => ∃ (F : Int), v5 = .int .i64 F ∧ Aside0 (Fma.l0 kq F D G I E J L = some r) ∧ Aside0 (kq ≤ bj) ∧ Aside0 (w'.heap[ar]? = some (.cells #[(.slice ab D.length ac), (.slice ad G.length ae), (.slice af I.length ag)] 31 (0, 0))) ∧ Aside0 (w'.heap[au]? = some (.cells #[(.slice ah E.length ai), (.slice aj J.length ak), (.slice al L.length am)] 31 (0, 0))) ∧ BA w w')
    case atStart => exact ⟨(0), sI, H', ⟨Nat.le_refl _⟩, kQ A, kQ P, bT2 HB z B⟩
    case round =>
     clear H'
     obtain ⟨F, rfl, HA, bf, A, P, HB⟩ := hrel; cases gk with
     | zero => exact absurd HA.out (by simp [Fma.l0])
     | succ k2 =>
      have H := HA.out; clear HA; simp only [Fma.l0] at H
      apply iB H <;> clear H <;> intro aw H
      ·have bg := dT aw; clear aw
       apply iN H; clear H; intro aZ H; have cy := dT aZ; clear aZ
       apply iN H; clear H; intro a6 H; have cz := dT a6; clear a6; apply bSx H; clear H; intro bm bb H
       by_cases a7 : bm = true
       ·subst a7
        rw [if_pos rfl] at H; have H' := aM H; clear H; have cA := M.out; have cC := O.out; obtain ⟨b0, b1, b2, b3, b4, b5⟩ := bG3 A; have aE : 0 ≤ (F : Int) := oT aO; have aF : F < (I.length : Int) := oT aO; obtain ⟨cD, cl, cm, bn, ax, ay, az⟩ := at_L3 bc.out F aE aF; cases bn; replace ax := cX HB ax; have an := aM az; have ao := aM ay; clear az ay; replace aE := eq_true aE; replace aF := eq_true aF; obtain ⟨b6, b7, b8, b9, ca, cb⟩ := bG3 P; have aG : 0 ≤ (F : Int) := oT aO; have aH : F < (L.length : Int) := oT aO; obtain ⟨cE, cn, co, bo, aA, aB, aC⟩ := at_L3 bd.out F aG aH; cases bo; replace aA := cX HB aA; have ap := aM aC; have aq := aM aB; clear aC aB; replace aG := eq_true aG; replace aH := eq_true aH
        go_wp2_with (first | (go_at_call 34; (with_reducible refine (Fmc.calls k2 _ _ (rd_L3 I F) _ _ (rd_L3 L F) true _ ?s1 ao.out ?s3 aq.out bb.out).mono ?_); (case s1 => exact cB an HB); (case s3 => exact cB ap HB); rintro e w' ⟨rfl, ⟨nd, rfl⟩⟩; (try exact dN)))
        repeat (go_quiet (first | (go_at_call 34; (with_reducible refine (Fmc.calls k2 _ _ (rd_L3 I F) _ _ (rd_L3 L F) true _ ?s1 ao.out ?s3 aq.out bb.out).mono ?_); (case s1 => exact cB an HB); (case s3 => exact cB ap HB); rintro e w' ⟨rfl, ⟨nd, rfl⟩⟩; (try exact dN))); try go_wp2_with (first | (go_at_call 34; (with_reducible refine (Fmc.calls k2 _ _ (rd_L3 I F) _ _ (rd_L3 L F) true _ ?s1 ao.out ?s3 aq.out bb.out).mono ?_); (case s1 => exact cB an HB); (case s3 => exact cB ap HB); rintro e w' ⟨rfl, ⟨nd, rfl⟩⟩; (try exact dN))))
        go_roundg k2
        case measure => have := HJ2.out; have := bf.out; omega
        case rel => exact ⟨(wrap64 (F + 1)), sI, H', ⟨by have := HJ2.out; have := bf.out; omega⟩, kQ A, kQ P, bT2 HB z B⟩
       ·replace a7 := Qc a7; subst a7
        rw [if_neg nF] at H; exact absurd H (by simp)
      ·have bg := decide_eq_false aw; clear aw; obtain rfl := Qx H; have cF := M.out; have cG := O.out; obtain ⟨cc, cd, ce, cf, cg, ch⟩ := bG3 A
       go_wp2
       repeat (go_quiet (fail); try go_wp2)
       go_ret
       exact ⟨eW, bS2 HB.out z.out B.out⟩
end Go.Proofs.Ythgoonohpfoagaa.X
