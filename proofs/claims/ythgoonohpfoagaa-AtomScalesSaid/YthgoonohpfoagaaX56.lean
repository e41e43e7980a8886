/- What the functions of this seat compute, and that the program's calls come to just that: written by this session's own program out of the translation; no condition. -/
import Derived.Test.YthgoonohpfoagaaX0
import Derived.Test.YthgoonohpfoagaaX1
import Derived.Test.YthgoonohpfoagaaX7
import Derived.Test.YthgoonohpfoagaaX11
namespace Go.Proofs.Ythgoonohpfoagaa.X
open Go.RowKit Go.Proofs.YthgoonohpfoagaaW.PrintWords Go.Proofs.YthgoonohpfoagaaW.PrintLast Go.Proofs.YthgoonohpfoagaaW.PrintMore
attribute [local go_sem] max2_int min2_int max_two min_two max_three min_three max_four min_four   -- for this text's walks alone
set_option linter.unusedVariables false
set_option linter.unusedSimpArgs false

/-! ### tabardlaw14_scaled: function 19 -/
/-! A list of places of numbers: the coefficients of a copy, its bound, its modulus; each is multiplied in its place. -/
/-- The numbers, s times, up to the first that is too great; did all go? -/
def tabardlaw14_scaled.go (s : Int) : List Int → List Int × Bool
 | [] => ([], true)
 | x :: r => if x > 1099511627776 then (x :: r, false) else if x < -1099511627776 then (x :: r, false) else (wrap64 (x * s) :: (tabardlaw14_scaled.go s r).1, (tabardlaw14_scaled.go s r).2)
def tabardlaw14_scaled.f (k : Nat) (a0_0 : Int) (l0_1 : List ByteArray) (l0_2 : List Int) (a0_3 : Int) (a0_4 : Int) (a1 : Int) : Option (Int × List ByteArray × List Int × Int × Int × Bool) :=
 if tabardlaw14_copied.f a0_0 l0_1 l0_2 a0_3 a0_4 = some (a0_0, l0_1, l0_2, a0_3, a0_4) ∧ l0_2.length ≤ 17592186044000 then
  (if (tabardlaw14_scaled.go a1 (l0_2 ++ [a0_3, a0_4])).2 = true then
   (norm_Check.f k a0_0 l0_1 ((tabardlaw14_scaled.go a1 (l0_2 ++ [a0_3, a0_4])).1.take l0_2.length) ((tabardlaw14_scaled.go a1 (l0_2 ++ [a0_3, a0_4])).1.getD l0_2.length 0) ((tabardlaw14_scaled.go a1 (l0_2 ++ [a0_3, a0_4])).1.getD (l0_2.length + 1) 0)).bind fun e =>
    some (a0_0, l0_1, (tabardlaw14_scaled.go a1 (l0_2 ++ [a0_3, a0_4])).1.take l0_2.length, (tabardlaw14_scaled.go a1 (l0_2 ++ [a0_3, a0_4])).1.getD l0_2.length 0, (tabardlaw14_scaled.go a1 (l0_2 ++ [a0_3, a0_4])).1.getD (l0_2.length + 1) 0, e == 0)
  else some (a0_0, l0_1, (tabardlaw14_scaled.go a1 (l0_2 ++ [a0_3, a0_4])).1.take l0_2.length, (tabardlaw14_scaled.go a1 (l0_2 ++ [a0_3, a0_4])).1.getD l0_2.length 0, (tabardlaw14_scaled.go a1 (l0_2 ++ [a0_3, a0_4])).1.getD (l0_2.length + 1) 0, false))
 else none
theorem tabardlaw14_scaled.mono : ∀ a0 a1 a2 a3 a4 a5 k, LeO (tabardlaw14_scaled.f k a0 a1 a2 a3 a4 a5) (tabardlaw14_scaled.f (k + 1) a0 a1 a2 a3 a4 a5) := fun a0 a1 a2 a3 a4 a5 k => by
 unfold tabardlaw14_scaled.f
 exact LeO.ite (LeO.ite (LeO.bind (norm_Check.mono _ _ _ _ _ k) (fun _ => LeO.refl _)) (LeO.refl _)) (LeO.refl _)
/-- Up to the i-th number all went: what stands then. -/
def tabardlaw14_scaled.cur (s : Int) (l : List Int) (i : Nat) : List Int := (l.take i).map (fun x => wrap64 (x * s)) ++ l.drop i
def tabardlaw14_scaled.Fine (l : List Int) (i : Nat) : Prop := ∀ j, j < i → ∀ x, l[j]? = some x → ¬ x > 1099511627776 ∧ ¬ x < -1099511627776
theorem tabardlaw14_scaled.go_cur (s : Int) : ∀ (l : List Int) (i : Nat), tabardlaw14_scaled.Fine l i → i ≤ l.length → tabardlaw14_scaled.go s l = ((l.take i).map (fun x => wrap64 (x * s)) ++ (tabardlaw14_scaled.go s (l.drop i)).1, (tabardlaw14_scaled.go s (l.drop i)).2)
 | l, 0, _, _ => by simp
 | [], i + 1, _, h => by simp at h
 | x :: l, i + 1, hf, h => by
  have f0 := hf 0 (by omega) x rfl
  have ih := tabardlaw14_scaled.go_cur s l i (fun j hj y hy => hf (j + 1) (by omega) y (by simpa using hy)) (by simpa using h)
  rw [tabardlaw14_scaled.go, if_neg f0.1, if_neg f0.2, ih]
  rfl
theorem tabardlaw14_scaled.go_end {s : Int} {l : List Int} (hf : tabardlaw14_scaled.Fine l l.length) : tabardlaw14_scaled.go s l = (tabardlaw14_scaled.cur s l l.length, true) := by
 rw [tabardlaw14_scaled.go_cur s l l.length hf (Nat.le_refl _), List.drop_length, tabardlaw14_scaled.cur, List.drop_length]
 rfl
theorem tabardlaw14_scaled.go_bad {s : Int} {l : List Int} {i : Nat} (hf : tabardlaw14_scaled.Fine l i) (hi : i < l.length) (hb : l[i] > 1099511627776 ∨ l[i] < -1099511627776) : tabardlaw14_scaled.go s l = (tabardlaw14_scaled.cur s l i, false) := by
 rw [tabardlaw14_scaled.go_cur s l i hf (Nat.le_of_lt hi), tabardlaw14_scaled.cur, List.drop_eq_getElem_cons hi, tabardlaw14_scaled.go]
 by_cases c : l[i] > 1099511627776
 ·rw [if_pos c]
 ·rw [if_neg c, if_pos (by rcases hb with h | h; exact absurd h c; exact h)]
theorem tabardlaw14_scaled.fine_succ {l : List Int} {i : Nat} (hf : tabardlaw14_scaled.Fine l i) (hi : i < l.length) (h1 : ¬ l[i] > 1099511627776) (h2 : ¬ l[i] < -1099511627776) : tabardlaw14_scaled.Fine l (i + 1) := fun j hj x hx => by
 by_cases c : j = i
 ·subst c
  rw [List.getElem?_eq_getElem hi] at hx
  obtain rfl := Option.some.inj hx
  exact ⟨h1, h2⟩
 ·exact hf j (by omega) x hx
theorem tabardlaw14_scaled.cur_len (s : Int) (l : List Int) {i : Nat} (h : i ≤ l.length) : (tabardlaw14_scaled.cur s l i).length = l.length := by simp [tabardlaw14_scaled.cur]; omega
theorem tabardlaw14_scaled.cur_at (s : Int) (l : List Int) {i : Nat} (h : i < l.length) : (tabardlaw14_scaled.cur s l i)[i]? = some l[i] := by
 rw [tabardlaw14_scaled.cur, List.getElem?_append_right (by simp; omega)]
 simp [Nat.min_eq_left (Nat.le_of_lt h), h]
theorem tabardlaw14_scaled.cur_succ (s : Int) (l : List Int) {i : Nat} (h : i < l.length) : tabardlaw14_scaled.cur s l (i + 1) = (tabardlaw14_scaled.cur s l i).set i (wrap64 (l[i] * s)) := by
 rw [tabardlaw14_scaled.cur, tabardlaw14_scaled.cur, List.set_append_right _ _ (by simp; omega), List.take_succ_eq_append_getElem h, List.map_append, List.append_assoc, List.drop_eq_getElem_cons h]
 simp [Nat.min_eq_left (Nat.le_of_lt h)]
 rw [List.drop_eq_getElem_cons h]; rfl
theorem tabardlaw14_scaled.grown_on {W W1 : World} {g : Nat} (h : W.grownBy W1 (some g)) (j : Nat) (x : Value) : W.grownBy (W1.setCell ⟨g, j, none⟩ x) (some g) :=
 ⟨h.os, h.tape, h.output, by simpa using h.size, fun k hk hne => (Below.heap_setCell W1 _ x k (fun e => hne (by rw [e]))).trans (h.block k hk hne)⟩
theorem tabardlaw14_scaled.three {xs : List Int} {b m : Int} {n : Nat} (h : xs.length = n) : (xs ++ [b, m]).take n = xs ∧ (xs ++ [b, m]).getD n 0 = b ∧ (xs ++ [b, m]).getD (n + 1) 0 = m := by
 subst h
 refine ⟨by simp, ?_, ?_⟩
 ·rw [List.getD_eq_getElem?_getD, List.getElem?_append_right (Nat.le_refl _), Nat.sub_self]; rfl
 ·rw [List.getD_eq_getElem?_getD, List.getElem?_append_right (by omega), Nat.add_sub_cancel_left]; rfl
/-- A row of places. -/
abbrev tabardlaw14_scaled.KP : Kd Addr := Kd.scalar (fun a => Value.pointer (some a)) (fun _ => rfl)
theorem tabardlaw14_scaled.infoP : (Try.prog.info? 82).map (fun i => (i.zero, i.size, i.bytes)) = some (some (.pointer none), 1, 8) := by kernel_rfl
def tabardlaw14_scaled.pt (go g6 n j : Nat) : Addr := if j < n then ⟨go, j, none⟩ else ⟨g6, 3 + (j - n), none⟩
theorem tabardlaw14_scaled.pts (go g6 n : Nat) : (List.range (n + 2)).map (tabardlaw14_scaled.pt go g6 n) = (List.range n).map (tabardlaw14_scaled.pt go g6 n) ++ [⟨g6, 3, none⟩, ⟨g6, 4, none⟩] := by
 rw [List.range_succ, List.range_succ, List.map_append, List.map_append, List.append_assoc]
 congr 1
 simp [tabardlaw14_scaled.pt]
 omega
theorem tabardlaw14_scaled.reads2 (W : World) (g6 : Nat) : ReadsRow (fun (x : Addr) cs => cs = [Value.pointer (some x)]) 1 (W.alloc (.cells #[.pointer (some ⟨g6, 3, none⟩), .pointer (some ⟨g6, 4, none⟩)] 82)) (some ⟨W.heap.size, 0, none⟩) 2 [⟨g6, 3, none⟩, ⟨g6, 4, none⟩] := by
 refine ⟨rfl, by decide, fun _ => ⟨_, rfl, fun j p hp => ⟨_, rfl, rfl, fun i u hu => ?_⟩⟩⟩
 have h := heap_alloc_new W (.cells #[.pointer (some ⟨g6, 3, none⟩), .pointer (some ⟨g6, 4, none⟩)] 82)
 match j, i, hp, hu with
 | 0, 0, hp, hu => cases hp; cases hu; exact (blk_cell h 0).trans rfl
 | 1, 0, hp, hu => cases hp; cases hu; exact (blk_cell h 1).trans rfl
 | 0, i + 1, _, hu => simp at hu
 | 1, i + 1, _, hu => simp at hu
 | j + 2, _, hp, _ => simp at hp
structure tabardlaw14_scaled.At (w0 W : World) (g4 g6 : Nat) (kind : Int) (v1 v2 : Value) (l1 : List ByteArray) (xs : List Int) (b m : Int) (vL : Value) (ps : List Addr) : Prop where
 bel : Below w0.heap.size w0 W
 lo4 : w0.heap.size ≤ g4
 lo6 : w0.heap.size ≤ g6
 n46 : g4 ≠ g6
 k4 : W.heap[g4]? = some (.cells #[.int .i64 0, .slice none 0 0, .slice none 0 0, .int .i64 0, .int .i64 0] 26 (0, 0))
 k6 : W.heap[g6]? = some (.cells #[.int .i64 kind, v1, v2, .int .i64 b, .int .i64 m] 26 (0, 0))
 r1 : Kd.string.R 9 W w0.heap.size (fun _ => True) v1 l1
 r2 : (Kd.int .i64).R 2 W w0.heap.size (fun _ => True) v2 xs
 rL : tabardlaw14_scaled.KP.R 82 W w0.heap.size (fun _ => True) vL ps
section
variable {w0 W W1 : World} {g4 g6 : Nat} {kind : Int} {v1 v2 : Value} {l1 : List ByteArray} {xs : List Int} {b m : Int} {vL : Value} {ps : List Addr}
theorem tabardlaw14_scaled.At.kept (h : tabardlaw14_scaled.At w0 W g4 g6 kind v1 v2 l1 xs b m vL ps) (hb : Below W.heap.size W W1) : tabardlaw14_scaled.At w0 W1 g4 g6 kind v1 v2 l1 xs b m vL ps :=
 ⟨below_step h.bel hb, h.lo4, h.lo6, h.n46, blk_below h.k4 hb, blk_below h.k6 hb, Kd.R_below h.r1 hb, Kd.R_below h.r2 hb, Kd.R_below h.rL hb⟩
/-- The list of places has grown. -/
theorem tabardlaw14_scaled.At.listed (h : tabardlaw14_scaled.At w0 W g4 g6 kind v1 v2 l1 xs b m vL ps) (hg : W.grownBy W1 vL.ownBlock) {vL' : Value} {ps' : List Addr} (hl : tabardlaw14_scaled.KP.R 82 W1 w0.heap.size (fun _ => True) vL' ps') (hb : Below w0.heap.size w0 W1) : tabardlaw14_scaled.At w0 W1 g4 g6 kind v1 v2 l1 xs b m vL' ps' :=
 ⟨hb, h.lo4, h.lo6, h.n46, blk_off h.k4 hg (T := [26]) (Off.typed (Kd.R_typed h.rL) (by decide)) (by simp), blk_off h.k6 hg (T := [26]) (Off.typed (Kd.R_typed h.rL) (by decide)) (by simp),
  R_off h.r1 hg (fun g e _ => Off.typed (T := [9]) (Kd.R_typed h.rL) (by decide) g e), R_off h.r2 hg (fun g e _ => Off.typed (T := [2]) (Kd.R_typed h.rL) (by decide) g e), hl⟩
/-- A coefficient was stored. -/
theorem tabardlaw14_scaled.At.coef {g cap n : Nat} (h : tabardlaw14_scaled.At w0 W g4 g6 kind v1 (.slice (some ⟨g, 0, none⟩) n cap) l1 xs b m vL ps) (hlo : w0.heap.size ≤ g) (hty : ∃ cells, W.heap[g]? = some (.cells cells 2 (0, 0))) (i : Nat) (x : Int) :
  tabardlaw14_scaled.At w0 (W.setCell ⟨g, i, none⟩ (.int .i64 x)) g4 g6 kind v1 (.slice (some ⟨g, 0, none⟩) n cap) l1 (xs.set i x) b m vL ps := by
 have hp := Kd.R_putg h.r2 (i : Int) x
 rw [Int.toNat_natCast] at hp
 have ty : ∀ k, some g = some k → ∃ cells, W.heap[k]? = some (.cells cells 2 (0, 0)) := fun k e => by obtain rfl := Option.some.inj e; exact hty
 exact ⟨below_set h.bel hlo, h.lo4, h.lo6, h.n46, blk_off h.k4 hp.2 (T := [26]) (Off.typed ty (by decide)) (by simp), blk_off h.k6 hp.2 (T := [26]) (Off.typed ty (by decide)) (by simp),
  R_off h.r1 hp.2 (fun g e _ => Off.typed (T := [9]) ty (by decide) g e), hp.1, R_off h.rL hp.2 (fun g e _ => Off.typed (T := [82]) ty (by decide) g e)⟩
theorem tabardlaw14_scaled.At.bound (h : tabardlaw14_scaled.At w0 W g4 g6 kind v1 v2 l1 xs b m vL ps) (x : Int) : tabardlaw14_scaled.At w0 (W.setCell ⟨g6, 3, none⟩ (.int .i64 x)) g4 g6 kind v1 v2 l1 xs x m vL ps := by
 have hg := grown_set W g6 3 (.int .i64 x)
 have ty : ∀ k, some g6 = some k → ∃ cells, W.heap[k]? = some (.cells cells 26 (0, 0)) := fun k e => by obtain rfl := Option.some.inj e; exact ⟨_, h.k6⟩
 exact ⟨below_set h.bel h.lo6, h.lo4, h.lo6, h.n46, blk_far h.k4 h.n46 _, blk_put h.k6 3 _ rfl, R_off h.r1 hg (fun g e _ => Off.typed (T := [9]) ty (by decide) g e), R_off h.r2 hg (fun g e _ => Off.typed (T := [2]) ty (by decide) g e), R_off h.rL hg (fun g e _ => Off.typed (T := [82]) ty (by decide) g e)⟩
theorem tabardlaw14_scaled.At.modul (h : tabardlaw14_scaled.At w0 W g4 g6 kind v1 v2 l1 xs b m vL ps) (x : Int) : tabardlaw14_scaled.At w0 (W.setCell ⟨g6, 4, none⟩ (.int .i64 x)) g4 g6 kind v1 v2 l1 xs b x vL ps := by
 have hg := grown_set W g6 4 (.int .i64 x)
 have ty : ∀ k, some g6 = some k → ∃ cells, W.heap[k]? = some (.cells cells 26 (0, 0)) := fun k e => by obtain rfl := Option.some.inj e; exact ⟨_, h.k6⟩
 exact ⟨below_set h.bel h.lo6, h.lo4, h.lo6, h.n46, blk_far h.k4 h.n46 _, blk_put h.k6 4 _ rfl, R_off h.r1 hg (fun g e _ => Off.typed (T := [9]) ty (by decide) g e), R_off h.r2 hg (fun g e _ => Off.typed (T := [2]) ty (by decide) g e), R_off h.rL hg (fun g e _ => Off.typed (T := [82]) ty (by decide) g e)⟩
/-- The copy was stored where the answer lies. -/
theorem tabardlaw14_scaled.At.result (h : tabardlaw14_scaled.At w0 W g4 g6 kind v1 v2 l1 xs b m vL ps) :
  (((((W.setCell ⟨g4, 0, none⟩ (.int .i64 kind)).setCell ⟨g4, 1, none⟩ v1).setCell ⟨g4, 2, none⟩ v2).setCell ⟨g4, 3, none⟩ (.int .i64 b)).setCell ⟨g4, 4, none⟩ (.int .i64 m)).heap[g4]? = some (.cells #[.int .i64 kind, v1, v2, .int .i64 b, .int .i64 m] 26 (0, 0)) ∧
  Kd.string.R 9 (((((W.setCell ⟨g4, 0, none⟩ (.int .i64 kind)).setCell ⟨g4, 1, none⟩ v1).setCell ⟨g4, 2, none⟩ v2).setCell ⟨g4, 3, none⟩ (.int .i64 b)).setCell ⟨g4, 4, none⟩ (.int .i64 m)) w0.heap.size (fun _ => True) v1 l1 ∧
  (Kd.int .i64).R 2 (((((W.setCell ⟨g4, 0, none⟩ (.int .i64 kind)).setCell ⟨g4, 1, none⟩ v1).setCell ⟨g4, 2, none⟩ v2).setCell ⟨g4, 3, none⟩ (.int .i64 b)).setCell ⟨g4, 4, none⟩ (.int .i64 m)) w0.heap.size (fun _ => True) v2 xs ∧
  Below w0.heap.size w0 (((((W.setCell ⟨g4, 0, none⟩ (.int .i64 kind)).setCell ⟨g4, 1, none⟩ v1).setCell ⟨g4, 2, none⟩ v2).setCell ⟨g4, 3, none⟩ (.int .i64 b)).setCell ⟨g4, 4, none⟩ (.int .i64 m)) := by
 have gr5 := tabardlaw14_scaled.grown_on (tabardlaw14_scaled.grown_on (tabardlaw14_scaled.grown_on (tabardlaw14_scaled.grown_on (tabardlaw14_scaled.grown_on (World.grownBy.refl W (some g4)) 0 (.int .i64 kind)) 1 v1) 2 v2) 3 (.int .i64 b)) 4 (.int .i64 m)
 have TY : ∀ k, some g4 = some k → ∃ cells, W.heap[k]? = some (.cells cells 26 (0, 0)) := fun k e => by obtain rfl := Option.some.inj e; exact ⟨_, h.k4⟩
 exact ⟨blk_put (blk_put (blk_put (blk_put (blk_put h.k4 0 (.int .i64 kind) rfl) 1 v1 rfl) 2 v2 rfl) 3 (.int .i64 b) rfl) 4 (.int .i64 m) rfl,
  R_off h.r1 gr5 (fun g e _ => Off.typed (T := [9]) TY (by decide) g e), R_off h.r2 gr5 (fun g e _ => Off.typed (T := [2]) TY (by decide) g e),
  below_set (below_set (below_set (below_set (below_set h.bel h.lo4) h.lo4) h.lo4) h.lo4) h.lo4⟩
/-- What lies at a place. -/
theorem tabardlaw14_scaled.At.place {go cap n i : Nat} {A2 : Option Addr} (h : tabardlaw14_scaled.At w0 W g4 g6 kind v1 (.slice A2 n cap) l1 xs b m vL ps) (hx : xs.length = n) (hgo : 0 < n → A2 = some ⟨go, 0, none⟩ ∧ w0.heap.size ≤ go) (hi : i < n + 2) {x : Int} (e : (xs ++ [b, m])[i]? = some x) :
  W.cell? (tabardlaw14_scaled.pt go g6 n i) = some (.int .i64 x) ∧ W.frozen? (tabardlaw14_scaled.pt go g6 n i) = false ∧
  ∀ y : Int, ∃ xs' b' m', xs' ++ [b', m'] = (xs ++ [b, m]).set i y ∧ xs'.length = n ∧ tabardlaw14_scaled.At w0 (W.setCell (tabardlaw14_scaled.pt go g6 n i) (.int .i64 y)) g4 g6 kind v1 (.slice A2 n cap) l1 xs' b' m' vL ps := by
 by_cases c : i < n
 ·obtain ⟨e2, lo⟩ := hgo (by omega)
  subst e2
  rw [tabardlaw14_scaled.pt, if_pos c]
  rw [List.getElem?_append_left (by omega), List.getElem?_eq_getElem (by omega)] at e
  obtain rfl := Option.some.inj e
  obtain ⟨h1, h2⟩ := Kd.R_celln 0 h.r2 (i : Int) (by omega) (by omega)
  rw [Int.toNat_natCast, rdOf, List.getD_eq_getElem?_getD, Int.toNat_natCast, List.getElem?_eq_getElem (by omega)] at h1
  rw [Int.toNat_natCast] at h2
  refine ⟨h1, h2, fun y => ⟨xs.set i y, b, m, (List.set_append_left _ _ (by omega)).symm, by rw [List.length_set]; exact hx, h.coef lo ?_ i y⟩⟩
  have := Kd.R_typed h.r2 go rfl
  exact this
 ·by_cases d : i = n
  ·subst d
   rw [tabardlaw14_scaled.pt, if_neg c, Nat.sub_self]
   rw [List.getElem?_append_right (by omega), hx, Nat.sub_self] at e
   obtain rfl := Option.some.inj e
   obtain ⟨_, _, _, z3, _, _, _, _, f3, _⟩ := bF5 h.k6
   exact ⟨z3, f3, fun y => ⟨xs, y, m, by rw [List.set_append_right _ _ (by omega), hx, Nat.sub_self]; rfl, hx, h.bound y⟩⟩
  ·obtain rfl : i = n + 1 := by omega
   rw [tabardlaw14_scaled.pt, if_neg c, Nat.add_sub_cancel_left]
   rw [List.getElem?_append_right (by omega), hx, Nat.add_sub_cancel_left] at e
   obtain rfl := Option.some.inj e
   obtain ⟨_, _, _, _, z4, _, _, _, _, f4⟩ := bF5 h.k6
   exact ⟨z4, f4, fun y => ⟨xs, b, y, by rw [List.set_append_right _ _ (by omega), hx, Nat.add_sub_cancel_left]; rfl, hx, h.modul y⟩⟩
end
set_option maxHeartbeats 400000000 in
set_option maxRecDepth 100000 in
theorem tabardlaw14_scaled.calls (k : Nat) (a0_0 : Int) (A0_1 : Option Addr) (c0_1 : Nat) (l0_1 : List ByteArray) (A0_2 : Option Addr) (c0_2 : Nat) (l0_2 : List Int) (a0_3 : Int) (a0_4 : Int) (a1 : Int) (r1 : Int) (r2 : List ByteArray) (r3 : List Int) (r4 : Int) (r5 : Int) (r6 : Bool) (w : World) (hr0_1 : Kd.C Kd.string w A0_1 l0_1.length l0_1) (hc0_1 : l0_1.length ≤ c0_1) (hr0_2 : Kd.C (Kd.int .i64) w A0_2 l0_2.length l0_2) (hc0_2 : l0_2.length ≤ c0_2) (h : tabardlaw14_scaled.f k a0_0 l0_1 l0_2 a0_3 a0_4 a1 = some (r1, r2, r3, r4, r5, r6)) :
  Calls Try.prog 19 #[.agg #[.int .i64 a0_0, .slice A0_1 l0_1.length c0_1, .slice A0_2 l0_2.length c0_2, .int .i64 a0_3, .int .i64 a0_4], .int .i64 a1] w fun e w' => ∃ v1_ v2_ : Value, e = .returned (.tuple #[.agg #[.int .i64 r1, v1_, v2_, .int .i64 r4, .int .i64 r5], .bool r6]) ∧ Kd.R Kd.string 9 w' w.heap.size (fun _ => True) v1_ r2 ∧ Kd.R (Kd.int .i64) 2 w' w.heap.size (fun _ => True) v2_ r3 ∧ Below w.heap.size w w' := by
 unfold tabardlaw14_scaled.f at h
 by_cases hh : tabardlaw14_copied.f a0_0 l0_1 l0_2 a0_3 a0_4 = some (a0_0, l0_1, l0_2, a0_3, a0_4) ∧ l0_2.length ≤ 17592186044000
 rotate_left
 ·rw [if_neg hh] at h; cases h
 rw [if_pos hh] at h
 obtain ⟨hcop, hlen⟩ := hh
 have HCOP := Aside0.mk hcop
 have HN := Aside0.mk hlen
 have H := Aside0.mk h
 have HR1 := Aside0.mk hr0_1
 have HR2 := Aside0.mk hr0_2
 have HC1 := Aside0.mk hc0_1
 have HC2 := Aside0.mk hc0_2
 clear h hcop hlen hr0_1 hr0_2 hc0_1 hc0_2
 go_enter Try.func19, Try.ntmps19
 go_upto_region 1 with (first
  | ((with_reducible refine gate_dst (N := 2) rfl ?_); refine be_ (cs := #[.int .i64 a0_0, .slice A0_1 l0_1.length c0_1, .slice A0_2 l0_2.length c0_2, .int .i64 a0_3, .int .i64 a0_4]) (t := 26) ?_; intro g2 hg wa hbox hb; have N2 := Aside0.mk hbox; have HB := Aside0.mk hb; clear hb hbox hg)
  | ((with_reducible refine gate_dst (N := 4) rfl ?_); refine be_ (cs := #[.int .i64 0, .slice none 0 0, .slice none 0 0, .int .i64 0, .int .i64 0]) (t := 26) ?_; intro g4 hg wb hbox hb; have K4 := Aside0.mk hbox; have LO4 := Aside0.mk (show w.heap.size ≤ g4 by rw [hg]; exact below_size HB.out); replace N2 := Aside0.mk (blk_below N2.out hb); replace HB := Aside0.mk (below_step HB.out hb); clear hb hbox hg))
 obtain ⟨hz0, hz1, hz2, hz3, hz4, _, _, _, _, _⟩ := bF5 N2.out
 go_upto_region 2 with (first
  | (go_at_call 8; (with_reducible refine (tabardlaw14_copied.calls a0_0 _ _ l0_1 _ _ l0_2 a0_3 a0_4 a0_0 l0_1 l0_2 a0_3 a0_4 _ ?s0 HC1.out ?s1 HC2.out HCOP.out).mono ?_); (case s0 => exact Kd.C_below HR1.out HB.out); (case s1 => exact Kd.C_below HR2.out HB.out); rintro _ wc ⟨vm1, vm2, rfl, h1, h2, hb⟩; obtain ⟨Am1, cm1, em1⟩ := Kd.R_slice h1; obtain ⟨Am2, cm2, em2⟩ := Kd.R_slice h2; subst em1 em2; have RM1 := Aside0.mk (Kd.R_lower h1 (below_size HB.out)); have RM2 := Aside0.mk (Kd.R_lower h2 (below_size HB.out)); replace K4 := Aside0.mk (blk_below K4.out hb); replace HB := Aside0.mk (below_step HB.out hb); clear h1 h2 hb hz0 hz1 hz2 hz3 hz4)
  | ((with_reducible refine gate_dst (N := 6) rfl ?_); refine be_ (cs := #[.int .i64 0, .slice none 0 0, .slice none 0 0, .int .i64 0, .int .i64 0]) (t := 26) ?_; intro g6 hg wd hbox hb; have K6 := Aside0.mk hbox; have LO6 := Aside0.mk (show w.heap.size ≤ g6 by rw [hg]; exact below_size HB.out); have NE := Aside0.mk (show g4 ≠ g6 by have := blk_lt K4.out; omega); replace K4 := Aside0.mk (blk_below K4.out hb); replace RM1 := Aside0.mk (Kd.R_below RM1.out hb); replace RM2 := Aside0.mk (Kd.R_below RM2.out hb); replace HB := Aside0.mk (below_step HB.out hb); clear hb hbox hg; obtain ⟨pz0, pz1, pz2, pz3, pz4, pf0, pf1, pf2, pf3, pf4⟩ := bF5 K6.out))
 have gr5 := tabardlaw14_scaled.grown_on (tabardlaw14_scaled.grown_on (tabardlaw14_scaled.grown_on (tabardlaw14_scaled.grown_on (tabardlaw14_scaled.grown_on (World.grownBy.refl wd (some g6)) 0 (.int .i64 a0_0)) 1 (.slice Am1 l0_1.length cm1)) 2 (.slice Am2 l0_2.length cm2)) 3 (.int .i64 a0_3)) 4 (.int .i64 a0_4)
 have TY : ∀ k, some g6 = some k → ∃ cells, wd.heap[k]? = some (.cells cells 26 (0, 0)) := fun k e => by obtain rfl := Option.some.inj e; exact ⟨_, K6.out⟩
 have AT : tabardlaw14_scaled.At w (((((wd.setCell ⟨g6, 0, none⟩ (.int .i64 a0_0)).setCell ⟨g6, 1, none⟩ (.slice Am1 l0_1.length cm1)).setCell ⟨g6, 2, none⟩ (.slice Am2 l0_2.length cm2)).setCell ⟨g6, 3, none⟩ (.int .i64 a0_3)).setCell ⟨g6, 4, none⟩ (.int .i64 a0_4)) g4 g6 a0_0 (.slice Am1 l0_1.length cm1) (.slice Am2 l0_2.length cm2) l0_1 l0_2 a0_3 a0_4 (.slice none 0 0) [] :=
  ⟨below_set (below_set (below_set (below_set (below_set HB.out LO6.out) LO6.out) LO6.out) LO6.out) LO6.out, LO4.out, LO6.out, NE.out,
   blk_far (blk_far (blk_far (blk_far (blk_far K4.out NE.out _) NE.out _) NE.out _) NE.out _) NE.out _,
   blk_put (blk_put (blk_put (blk_put (blk_put K6.out 0 (.int .i64 a0_0) rfl) 1 (.slice Am1 l0_1.length cm1) rfl) 2 (.slice Am2 l0_2.length cm2) rfl) 3 (.int .i64 a0_3) rfl) 4 (.int .i64 a0_4) rfl,
   R_off RM1.out gr5 (fun g e _ => Off.typed (T := [9]) TY (by decide) g e), R_off RM2.out gr5 (fun g e _ => Off.typed (T := [2]) TY (by decide) g e), Kd.R_nil _ _ _ _ _⟩
 generalize (((((wd.setCell ⟨g6, 0, none⟩ (.int .i64 a0_0)).setCell ⟨g6, 1, none⟩ (.slice Am1 l0_1.length cm1)).setCell ⟨g6, 2, none⟩ (.slice Am2 l0_2.length cm2)).setCell ⟨g6, 3, none⟩ (.int .i64 a0_3)).setCell ⟨g6, 4, none⟩ (.int .i64 a0_4)) = w1 at AT ⊢
 clear gr5 TY K6 K4 RM1 RM2 HB N2 pz0 pz1 pz2 pz3 pz4 pf0 pf1 pf2 pf3 pf4
 obtain ⟨go, hgo⟩ : ∃ go : Nat, 0 < l0_2.length → Am2 = some ⟨go, 0, none⟩ ∧ w.heap.size ≤ go := by
  by_cases c : 0 < l0_2.length
  ·obtain ⟨g, cap, e, hb, _, _⟩ := Kd.R_form AT.r2 c
   injection e with e1 e2 e3
   exact ⟨g, fun _ => ⟨e1, hb⟩⟩
  ·exact ⟨0, fun h => absurd h c⟩
 have HGO := Aside0.mk hgo
 clear hgo
 replace AT := Aside0.mk AT
 obtain ⟨hz0, hz1, hz2, hz3, hz4, _, _, _, _, _⟩ := bF5 AT.out.k6
 have hlen : (l0_2.length : Int) ≤ 17592186044000 := by have := HN.out; omega
 go_wp2
 clear hz0 hz1 hz2 hz3 hz4
 go_loopw [7, 16] (fun v7 v16 wq => ∃ (i : Nat), v16 = .int .i64 (i : Int) ∧ i ≤ l0_2.length ∧ Aside0 (tabardlaw14_scaled.At w wq g4 g6 a0_0 (.slice Am1 l0_1.length cm1) (.slice Am2 l0_2.length cm2) l0_1 l0_2 a0_3 a0_4 v7 ((List.range i).map (tabardlaw14_scaled.pt go g6 l0_2.length)))) (fun _ v16 _ => l0_2.length - (intOf v16).toNat)
 case atStart => exact ⟨0, rfl, Nat.zero_le _, AT⟩
 case round =>
  clear AT
  obtain ⟨i, rfl, hi, AT⟩ := hrel
  by_cases hlt : i < l0_2.length
  ·obtain ⟨hz0, hz1, hz2, hz3, hz4, _, _, _, _, _⟩ := bF5 AT.out.k6
   obtain ⟨e2, _⟩ := HGO.out (by omega)
   subst e2
   obtain ⟨ALs, cLs, eLs⟩ := Kd.R_slice AT.out.rL
   subst eLs
   have hpt : tabardlaw14_scaled.pt go g6 l0_2.length i = ⟨go, i, none⟩ := if_pos hlt
   rw [List.length_map, List.length_range] at AT ⊢
   go_wp2_with ((with_reducible refine gate_builtin (b := .append) (xs := #[.tmp 19, .tmp 24]) rfl ?_); at_builtin; go_loud (refine Kd.R_append tabardlaw14_scaled.KP (w0 := w) w.heap.size rfl (.tmp 19) (.tmp 24) 81 82 (.pointer none) 8 rfl Try.underlying81 tabardlaw14_scaled.infoP rfl (by decide) (by omega) (.slice ALs i cLs) ((List.range i).map (tabardlaw14_scaled.pt go g6 l0_2.length)) ⟨go, i, none⟩ [.pointer (some ⟨go, i, none⟩)] (fun _ => True) (fun _ => False) rfl rfl rfl (fun _ hk => hk.elim) (fun _ _ => trivial) AT.out.rL AT.out.bel (below_size AT.out.bel) (by simp; omega) ?_; intro vL' w19 ho hb hg hat))
   have ho' : tabardlaw14_scaled.KP.R 82 w19 w.heap.size (fun _ => True) vL' ((List.range (i + 1)).map (tabardlaw14_scaled.pt go g6 l0_2.length)) := by rw [List.range_succ, List.map_append, List.map_singleton, hpt]; exact ho
   have AT2 := Aside0.mk (AT.out.listed hg ho' hb)
   clear ho ho' hb hg hat
   refine ⟨⟨i + 1, ?_, by omega, AT2⟩, ?_⟩
   ·first | rfl | (congr 1; omega) | (simp; done)
   ·simp [intOf]; omega
  ·obtain rfl : i = l0_2.length := by omega
   obtain ⟨hz0, hz1, hz2, hz3, hz4, _, _, _, _, _⟩ := bF5 AT.out.k6
   obtain ⟨ALs, cLs, eLs⟩ := Kd.R_slice AT.out.rL
   subst eLs
   rw [List.length_map, List.length_range] at AT ⊢
   have cb : decide ((l0_2.length : Int) < (l0_2.length : Int)) = false := by simp
   go_wp2_with ((with_reducible refine gate_builtin (b := .append) (xs := #[.tmp 27, .tmp 30]) rfl ?_); at_builtin; go_loud (refine Kd.R_append_rows tabardlaw14_scaled.KP (Rr := fun x cs => cs = [Value.pointer (some x)]) (w0 := w) w.heap.size rfl (.tmp 27) (.tmp 30) 81 82 (.pointer none) 8 rfl Try.underlying81 tabardlaw14_scaled.infoP rfl (by decide) (by omega) (.slice ALs l0_2.length cLs) ((List.range l0_2.length).map (tabardlaw14_scaled.pt go g6 l0_2.length)) [⟨g6, 3, none⟩, ⟨g6, 4, none⟩] (some ⟨wr.heap.size, 0, none⟩) 2 2 (fun _ => True) (fun _ => False) rfl rfl (Kd.R_alloc AT.out.rL _) ?hR (fun x cs h => h) (fun _ hk => hk.elim) (fun _ _ => trivial) (below_alloc AT.out.bel _) (by simp; exact Nat.le_succ_of_le (below_size AT.out.bel)) (by simp; omega) ?_; (case hR => exact tabardlaw14_scaled.reads2 wr g6); intro vL' w19 ho hb hg hat; have ho' : tabardlaw14_scaled.KP.R 82 w19 w.heap.size (fun _ => True) vL' ((List.range (l0_2.length + 2)).map (tabardlaw14_scaled.pt go g6 l0_2.length)) := (by rw [← tabardlaw14_scaled.pts go g6 l0_2.length] at ho; exact ho); have AT2 := Aside0.mk ((tabardlaw14_scaled.At.kept AT.out (below_alloc (Below.refl _ _) _)).listed hg ho' hb); clear ho ho' hb hg hat; obtain ⟨AL2, cL2, eL2⟩ := Kd.R_slice AT2.out.rL; subst eL2; rw [List.length_map, List.length_range] at AT2 ⊢))
   clear AT hz0 hz1 hz2 hz3 hz4
   replace AT := AT2
   clear AT2 cb
   obtain ⟨all, hall⟩ : ∃ all, all = l0_2 ++ [a0_3, a0_4] := ⟨_, rfl⟩
   have alen : all.length = l0_2.length + 2 := by rw [hall]; simp
   have HALL := Aside0.mk hall
   rw [← hall] at H
   clear hall
   have ALEN := Aside0.mk alen
   clear alen
   obtain ⟨gl, cl, el, _, _, _⟩ := Kd.R_form AT.out.rL (by simp)
   injection el with el1 el2 el3
   subst el1
   clear el2 el3
   go_wp2
   go_loopw [34] (fun v34 wq => ∃ (i : Nat), v34 = .int .i64 (i : Int) ∧ i ≤ l0_2.length + 2 ∧ Aside0 (tabardlaw14_scaled.Fine all i) ∧ Aside0 (∃ xs b m, xs ++ [b, m] = tabardlaw14_scaled.cur a1 all i ∧ xs.length = l0_2.length ∧ tabardlaw14_scaled.At w wq g4 g6 a0_0 (.slice Am1 l0_1.length cm1) (.slice Am2 l0_2.length cm2) l0_1 xs b m (.slice (some ⟨gl, 0, none⟩) (l0_2.length + 2) cL2) ((List.range (l0_2.length + 2)).map (tabardlaw14_scaled.pt go g6 l0_2.length)))) (fun v34 _ => l0_2.length + 2 - (intOf v34).toNat)
   case atStart => exact ⟨0, rfl, Nat.zero_le _, ⟨fun j hj => absurd hj (Nat.not_lt_zero _)⟩, ⟨l0_2, a0_3, a0_4, by rw [tabardlaw14_scaled.cur, List.take_zero, List.drop_zero, HALL.out]; rfl, rfl, AT.out⟩⟩
   case round =>
    clear AT
    obtain ⟨i, rfl, hi, FN, ⟨xs, b, m, hcur, hxl, AT⟩⟩ := hrel
    have HCUR := Aside0.mk hcur
    have HXL := Aside0.mk hxl
    clear hcur hxl
    replace AT := Aside0.mk AT
    by_cases hlt : i < l0_2.length + 2
    ·obtain ⟨hl1, _⟩ := Kd.R_celln (d := ⟨0, 0, none⟩) AT.out.rL (i : Int) (by omega) (by simp; omega)
     have hia : i < all.length := by rw [ALEN.out]; exact hlt
     have hq : rdOf (⟨0, 0, none⟩ : Addr) ((List.range (l0_2.length + 2)).map (tabardlaw14_scaled.pt go g6 l0_2.length)) (i : Int) = tabardlaw14_scaled.pt go g6 l0_2.length i := by
      rw [rdOf, Int.toNat_natCast, List.getD_eq_getElem?_getD, List.getElem?_map, List.getElem?_range hlt]; rfl
     rw [hq, Int.toNat_natCast] at hl1
     clear hq
     obtain ⟨x, hx⟩ : ∃ x, x = all[i] := ⟨_, rfl⟩
     have e := tabardlaw14_scaled.cur_at a1 all hia
     rw [← HCUR.out, ← hx] at e
     obtain ⟨c1, c2, c3⟩ := AT.out.place HXL.out HGO.out hlt e
     have HX := Aside0.mk (show all[i]? = some x by rw [List.getElem?_eq_getElem hia, hx])
     clear e hx hia
     have C3 := Aside0.mk c3
     clear c3
     obtain ⟨P, hP⟩ : ∃ P, P = tabardlaw14_scaled.pt go g6 l0_2.length i := ⟨_, rfl⟩
     rw [← hP] at hl1 c1 c2 C3
     clear hP
     obtain ⟨pb, po, pe⟩ := P
     have bad : (x > 1099511627776 ∨ x < -1099511627776) → Aside0 ((a0_0, l0_1, xs, b, m, false) = (r1, r2, r3, r4, r5, r6)) := fun hb => by
      obtain ⟨hia, hxe⟩ := List.getElem?_eq_some_iff.1 HX.out
      have g := tabardlaw14_scaled.go_bad (s := a1) FN.out hia (by rw [hxe]; exact hb)
      have h := H.out
      rw [g, ← HCUR.out] at h
      obtain ⟨t1, t2, t3⟩ := tabardlaw14_scaled.three (b := b) (m := m) HXL.out
      simp only [t1, t2, t3] at h
      rw [if_neg (by decide)] at h
      exact ⟨Option.some.inj h⟩
     have BAD := Aside0.mk bad
     clear bad
     by_cases hx1 : x > 1099511627776
     ·have E := (BAD.out (.inl hx1)).out
      simp only [Prod.mk.injEq] at E
      obtain ⟨rfl, rfl, rfl, rfl, rfl, rfl⟩ := E
      have d1 : decide (x > 1099511627776) = true := decide_eq_true hx1
      obtain ⟨hz0, hz1, hz2, hz3, hz4, _, _, _, _, _⟩ := bF5 AT.out.k6
      obtain ⟨kz0, kz1, kz2, kz3, kz4, kf0, kf1, kf2, kf3, kf4⟩ := bF5 AT.out.k4
      clear hx1
      go_wp2
      obtain ⟨k5, s1, s2, s3⟩ := AT.out.result
      refine bodyPost_ret (results_ct rfl _ _ g4 26 #[.int .i64 a0_0, .slice Am1 l0_1.length cm1, .slice Am2 l0_2.length cm2, .int .i64 b, .int .i64 m] (0, 0) _ rfl k5 Try.underlying26 rfl (by kernel_rfl)) rfl ?_
      exact ⟨_, _, eW, s1, s2, s3⟩
     ·by_cases hx2 : x < -1099511627776
      ·have E := (BAD.out (.inr hx2)).out
       simp only [Prod.mk.injEq] at E
       obtain ⟨rfl, rfl, rfl, rfl, rfl, rfl⟩ := E
       have d1 : decide (x > 1099511627776) = false := decide_eq_false hx1
       have d2 : decide (x < -1099511627776) = true := decide_eq_true hx2
       obtain ⟨hz0, hz1, hz2, hz3, hz4, _, _, _, _, _⟩ := bF5 AT.out.k6
       obtain ⟨kz0, kz1, kz2, kz3, kz4, kf0, kf1, kf2, kf3, kf4⟩ := bF5 AT.out.k4
       clear hx1 hx2
       go_wp2
       obtain ⟨k5, s1, s2, s3⟩ := AT.out.result
       refine bodyPost_ret (results_ct rfl _ _ g4 26 #[.int .i64 a0_0, .slice Am1 l0_1.length cm1, .slice Am2 l0_2.length cm2, .int .i64 b, .int .i64 m] (0, 0) _ rfl k5 Try.underlying26 rfl (by kernel_rfl)) rfl ?_
       exact ⟨_, _, eW, s1, s2, s3⟩
      ·have d1 : decide (x > 1099511627776) = false := decide_eq_false hx1
       have d2 : decide (x < -1099511627776) = false := decide_eq_false hx2
       obtain ⟨hia, hxe⟩ := List.getElem?_eq_some_iff.1 HX.out
       have FN2 := Aside0.mk (tabardlaw14_scaled.fine_succ FN.out hia (by rw [hxe]; exact hx1) (by rw [hxe]; exact hx2))
       have HC2 := Aside0.mk (show tabardlaw14_scaled.cur a1 all (i + 1) = (tabardlaw14_scaled.cur a1 all i).set i (wrap64 (x * a1)) by rw [tabardlaw14_scaled.cur_succ a1 all hia, hxe])
       clear hia hxe hx1 hx2
       go_wp2
       refine ⟨⟨i + 1, ?_, by omega, FN2, ?_⟩, ?_⟩
       ·first | rfl | (congr 1; omega) | (simp; done)
       ·obtain ⟨xs', b', m', q1, q2, q3⟩ := C3.out (wrap64 (x * a1))
        exact ⟨xs', b', m', by rw [q1, HC2.out, HCUR.out], q2, q3⟩
       ·simp [intOf]; omega
    ·obtain rfl : i = l0_2.length + 2 := by omega
     have hchk : ∃ e_, norm_Check.f k a0_0 l0_1 xs b m = some e_ ∧ (a0_0, l0_1, xs, b, m, e_ == 0) = (r1, r2, r3, r4, r5, r6) := by
      have fe : tabardlaw14_scaled.Fine all all.length := by rw [ALEN.out]; exact FN.out
      have g := tabardlaw14_scaled.go_end (s := a1) fe
      have h := H.out
      rw [g, ALEN.out, ← HCUR.out] at h
      obtain ⟨t1, t2, t3⟩ := tabardlaw14_scaled.three (b := b) (m := m) HXL.out
      simp only [t1, t2, t3] at h
      rw [if_pos trivial] at h
      obtain ⟨e_, h1, h2⟩ := Option.bind_eq_some_iff.mp h
      exact ⟨e_, h1, Option.some.inj h2⟩
     obtain ⟨e_, hchk, E⟩ := hchk
     simp only [Prod.mk.injEq] at E
     obtain ⟨rfl, rfl, rfl, rfl, rfl, rfl⟩ := E
     have HCHK := Aside0.mk hchk
     clear hchk
     have cb : decide (((l0_2.length + 2 : Nat) : Int) < ((l0_2.length + 2 : Nat) : Int)) = false := by simp
     go_wp2
     clear cb
     rw [← HXL.out] at AT
     replace AT := Aside0.mk (AT.out.kept (below_drew1 (Below.refl _ _)))
     obtain ⟨hz0, hz1, hz2, hz3, hz4, _, _, _, _, _⟩ := bF5 AT.out.k6
     rw [← HXL.out]
     refine start_ (n := 6) (S := fun w' => w'.cell? ⟨g6, 0, none⟩ = some (.int .i64 a0_0) ∧ w'.cell? ⟨g6, 1, none⟩ = some (.slice Am1 l0_1.length cm1) ∧ w'.cell? ⟨g6, 2, none⟩ = some (.slice Am2 xs.length cm2) ∧ w'.cell? ⟨g6, 3, none⟩ = some (.int .i64 b) ∧ w'.cell? ⟨g6, 4, none⟩ = some (.int .i64 m)) (ds := [4]) #[false, false, false, false, false, false] (by kernel_rfl) rfl rfl ⟨hz0, hz1, hz2, hz3, hz4⟩ (fun hHeld => ?_)
     generalize wr.drew = wy at AT hHeld ⊢
     refine take_ (i := 0) (N := some 56) (v := ?_) (a' := ?_) #[true, false, false, false, false, false] rfl rfl (by kernel_rfl) (fun _ _ _ h => h) (Or.inl ⟨by rfl, ?_⟩) hHeld ?_ ?_
     rotate_left
     ·rintro w' ⟨s0, s1, s2, s3, s4⟩
      go_simp
      with_reducible rfl
     rotate_left
     ·simp only [Act.put, List.setIfInBounds_toArray, List.set_cons_zero, List.set_cons_succ, i64_w, i32_w]
      rfl
     refine take_ (i := 1) (N := some 57) (v := ?_) (a' := ?_) #[true, true, false, false, false, false] rfl rfl (by kernel_rfl) (fun _ _ _ h => h) (Or.inl ⟨by rfl, ?_⟩) hHeld ?_ ?_
     rotate_left
     ·rintro w' ⟨s0, s1, s2, s3, s4⟩
      go_simp
      with_reducible rfl
     rotate_left
     ·simp only [Act.put, List.setIfInBounds_toArray, List.set_cons_zero, List.set_cons_succ, i64_w, i32_w]
      rfl
     refine one_ (i := 2) (N := some 58) #[true, true, true, false, false, false] rfl rfl (by kernel_rfl) (by decide) (fun K hK => ?_)
     refine goes_ Try.func24 (by kernel_rfl) rfl #[.agg #[.int .i64 a0_0, .slice Am1 l0_1.length cm1, .slice Am2 xs.length cm2, .int .i64 b, .int .i64 m]] (by rfl) rfl rfl (by simp only [List.map_toArray, List.map_cons, List.map_nil]; rfl) ?_
     with_reducible refine (norm_Check.calls k a0_0 _ _ l0_1 _ _ xs b m e_ _ (Kd.R_reads' AT.out.r1).2.2 (Kd.R_reads' AT.out.r1).2.1 (Kd.R_reads' AT.out.r2).2.2 (Kd.R_reads' AT.out.r2).2.1 HCHK.out).mono ?_
     rintro e wN ⟨rfl, hbN⟩
     replace AT := Aside0.mk (AT.out.kept hbN)
     clear hbN
     obtain ⟨kz0, kz1, kz2, kz3, kz4, kf0, kf1, kf2, kf3, kf4⟩ := bF5 AT.out.k4
     refine ⟨_, rfl, ?_⟩
     obtain ⟨qz0, qz1, qz2, qz3, qz4, _, _, _, _, _⟩ := bF5 AT.out.k6
     refine hK.out _ _ ⟨qz0, qz1, qz2, qz3, qz4⟩ (fun hHeld => ?_)
     clear hK K
     refine norm_ (a' := ?_) ?_ ?_
     rotate_left
     ·show Act.put _ (some 58) _ = _
      simp only [Act.put, List.setIfInBounds_toArray, List.set_cons_zero, List.set_cons_succ, i64_w, i32_w]
      rfl
     refine pure_ (i := 3) (N := some 59) (v := ?_) (a' := ?_) #[true, true, true, true, false, false] rfl rfl (by kernel_rfl) (fun _ _ _ h => h) (Or.inl ⟨by rfl, ?_⟩) ?_ ?_
     rotate_left
     ·intro w'
      go_simp
      with_reducible rfl
     rotate_left
     ·simp only [Act.put, List.setIfInBounds_toArray, List.set_cons_zero, List.set_cons_succ, i64_w, i32_w]
      rfl
     refine last_ (i := 4) (N := none) #[true, true, true, true, true, false] rfl rfl (by kernel_rfl) (by decide) (fun K hK => ?_)
     refine skip_ (w1 := ?_) (by rfl) rfl ?_ ?_
     rotate_left
     ·go_simp
      rfl
     refine hK.out _ _ ?_
     clear hK K
     refine pure_ (i := 5) (N := some 5) (v := ?_) (a' := ?_) #[true, true, true, true, true, true] rfl rfl (by kernel_rfl) (fun _ _ _ h => h) (Or.inl ⟨by rfl, ?_⟩) ?_ ?_
     rotate_left
     ·intro w'
      go_simp
      with_reducible rfl
     rotate_left
     ·simp only [Act.put, List.setIfInBounds_toArray, List.set_cons_zero, List.set_cons_succ, i64_w, i32_w]
      rfl
     refine done_ (by kernel_rfl) ?_
     go_wp2
     obtain ⟨k5, s1, s2, s3⟩ := AT.out.result
     refine bodyPost_ret (results_ct rfl _ _ g4 26 #[.int .i64 a0_0, .slice Am1 l0_1.length cm1, .slice Am2 xs.length cm2, .int .i64 b, .int .i64 m] (0, 0) _ rfl k5 Try.underlying26 rfl (by kernel_rfl)) rfl ?_
     exact ⟨_, _, eW, s1, s2, s3⟩

end Go.Proofs.Ythgoonohpfoagaa.X
